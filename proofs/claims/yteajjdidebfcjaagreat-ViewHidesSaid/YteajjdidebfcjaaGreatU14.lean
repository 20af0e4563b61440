/- Part 14. -/
import Derived.Test.YteajjdidebfcjaaGreatU13
import Derived.Test.YteajjdidebfcjaaGreatU12
namespace Go.Proofs.YteajjdidebfcjaaGreat
namespace Av
open Tryz
set_option linter.all false
set_option maxRecDepth 4000
set_option maxHeartbeats 4000000
def CfW (c:Cf):Prop:=c.js.length<=4/\∀j∈c.js,1<=j.ph.length/\j.ph.length<=8
theorem CfW.at {c:Cf} (h:CfW c) {j:Int} (h0:0<=j) (h1:j<((c.js.map wC).length:Int)):1<=(c.js.getD j.toNat default).ph.length/\(c.js.getD j.toNat default).ph.length<=8:=by
 rw[yAe]at h1;refine h.2 _ ?_;rw[yAk,yAr zB,yCh];exact yDa _
def qJ (c:Cf) (e:Dk) (k:Nat):Int:=Int.tmod (nx e 3+k) (max 1 (((c.js.map wC).length:Int)+(nx (ad e) 12).tdiv 11))
def qP (c:Cf) (j:Int):Int:=if j<((c.js.map wC).length:Int)then(((c.js.getD j.toNat default).ph.map vE).length:Int)else 2
def GV (x:Int) (h:0<=x/\x<12):0<=x.tdiv 11/\x.tdiv 11<=1/\ZM .i64 (x.tdiv 11):=by
 have:x.tdiv 11=x/11:=yB6 h.1;rw[this];refine⟨zB,zB,by unfold ZM;omega⟩
def zMp (a b:Int) (h0:0<=a) (h1:1<=b) (h2:b<=1000):0<=a.tmod b/\a.tmod b<=1000/\ZM .i64 (a.tmod b):=by
 have:=yF8 b h0;have h3:a.tmod b<b:=yFx a zB;exact⟨this,zB,by unfold ZM;omega⟩
def zYu {c:Cf} (h:CfW c) (e:Dk) (k:Nat):0<=qJ c e k/\qJ c e k<=1000:=by
 have w1:=yD e 3 zB;have w2:=yD (ad e) 12 zB;obtain⟨v2,u2,i2⟩:=GV _ w2;have h1:=h.1;have h2:(c.js.map wC).length=c.js.length:=yAe ..;have:=zMp (nx e 3+k) (max 1 (((c.js.map wC).length:Int)+(nx (ad e) 12).tdiv 11)) zB zB zB;exact⟨this.1,this.2.1⟩
def zYv {c:Cf} (h:CfW c) {j:Int} (h0:0<=j):1<=qP c j/\qP c j<=8:=by
 unfold qP;split
 ·rename_i h1;have:=h.at h0 h1;rw[yAe];omega
 ·omega
def BX (c:Cf) (k:Nat) (l:List Int) (e:Dk):List Int×Dk:=
 (l++[qJ c e k,nx (ad (ad (ad (ad e)))) (qP c (qJ c e k)+(nx (ad (ad (ad e))) 12).tdiv 11),nx (ad (ad e)) 3,nx (ad (ad e)) 3+nx (ad (ad (ad (ad (ad e))))) 50],ad (ad (ad (ad (ad (ad e))))))
def ZG (c:Cf) (l:List Int) (d:Dk):Nat->List Int×Dk
 |0=>(l,d)
 |i+1=>BX c i (ZG c l d i).1 (ZG c l d i).2
def PG (l:List Int):Prop:=∀x∈l,0<=x/\x<=4294967295
theorem PG.app {a b:List Int} (h1:PG a) (h2:PG b):PG (a++b):=λx hx=>(yAz.1 hx).elim (h1 x) (h2 x)
theorem PG.cons {x:Int} {b:List Int} (h1:0<=x/\x<=4294967295) (h2:PG b):PG (x::b):=λy hy=>(yBt.1 hy).elim (λe=>e▸h1) (h2 y)
theorem PG.nil:PG []:=λx hx=>by cases hx
theorem zB7 {c:Cf} (hc:CfW c) (l:List Int) (hl:PG l) (d:Dk):∀i,(ZG c l d i).1.length=l.length+i*4/\rem (ZG c l d i).2<=rem d/\PG (ZG c l d i).1
 |0=>⟨rfl,yAg _,hl⟩
 |i+1=>by
  have ih:=zB7 hc l hl d i
  show(BX c i _ _).1.length=_/\rem (BX c i _ _).2<=_/\PG (BX c i _ _).1
  generalize (ZG c l d i).2=e at *;have r1:=wO e;have r2:=wO (ad e);have r3:=wO (ad (ad e));have r4:=wO (ad (ad (ad e)));have r5:=wO (ad (ad (ad (ad e))));have r6:=wO (ad (ad (ad (ad (ad e)))));have j1:=zYu hc e i;have j2:=zYv hc j1.1;have w3:=yD (ad (ad e)) 3 zB;have w4:=yD (ad (ad (ad e))) 12 zB;have w6:=yD (ad (ad (ad (ad (ad e))))) 50 zB;obtain⟨v4,u4,_⟩:=GV _ w4;have w5:=yD (ad (ad (ad (ad e)))) (qP c (qJ c e i)+(nx (ad (ad (ad e))) 12).tdiv 11) zB;refine⟨by simp only[BX,yAf,yAp,yBk];omega,by simp only[BX];omega,?_⟩;exact ih.2.2.app (.cons zB (.cons zB (.cons zB (.cons zB .nil))))
theorem zRe (c:Cf) (hc:CfW c) (l:List Int) (hl:l.length<=1000) (hn:PG l) (d:Dk):zN 89 [.ptr 1000 0 0,wD c,.ref 107 0 (l.map iA).length] [(1000,cT d),(107,.arr 1 (l.map iA) false)] (.ref 107 0 ((ZG c l (ad d) (1+(nx d 2).toNat)).1.map iA).length) [(1000,cT (ZG c l (ad d) (1+(nx d 2).toNat)).2),(107,.arr 1 ((ZG c l (ad d) (1+(nx d 2).toNat)).1.map iA) true)]:=by
 have c1:=yH d 2 zB zB;have b1:=yD d 2 zB;generalize nx d 2=n at *;generalize ad d=d1 at *;obtain⟨N,hN⟩:∃N:Nat,1+n.toNat=N:=⟨_,rfl⟩;have hN2:1+n=(N:Int):=by omega
 rw[hN];have hjs:=hc.1;have hjl:(c.js.map wC).length=c.js.length:=yAe ..;unfold wD zC;refine eM call89 λF hF=>?_
 refine zV c1 ?_;refine vY 107 Z ?_;refine zO (N) [1000,107,4] [4] [0,4,15] [2,16,0,4,15] Z (λi T U=>⟨(2,.ref 107 0 ((ZG c l d1 i).1.map iA).length)::(16,iA i)::T,(1000,cT (ZG c l d1 i).2)::(107,.arr 1 ((ZG c l d1 i).1.map iA) true)::U⟩) ?_;(conv=>whnf);refine⟨by rfl,?_,?_⟩
 ·intro i hi;have hl:=(zB7 hc l hn d1 i).1;have eS:ZG c l d1 (i+1)=BX c i (ZG c l d1 i).1 (ZG c l d1 i).2:=rfl;unfold BX at eS;generalize (ZG c l d1 i).1=p at *;generalize (ZG c l d1 i).2=e at *;have hi2:(i:Int)<=1:=by omega
  have n1:=yH e 3 zB zB;have n2:=yH (ad e) 12 zB zB;have n3:=yH (ad (ad e)) 3 zB zB;have n4:=yH (ad (ad (ad e))) 12 zB zB;have w1:=yD e 3 zB;have w2:=yD (ad e) 12 zB;have w3:=yD (ad (ad e)) 3 zB;have w4:=yD (ad (ad (ad e))) 12 zB;obtain⟨v2,u2,i2⟩:=GV _ w2;obtain⟨v4,u4,i4⟩:=GV _ w4;have jb:=zYu hc e i;have pb:=zYv hc jb.1;have n5:=yH (ad (ad (ad (ad e)))) (qP c (qJ c e i)+(nx (ad (ad (ad e))) 12).tdiv 11) zB zB;have n6:=yH (ad (ad (ad (ad (ad e))))) 50 zB zB;have w6:=yD (ad (ad (ad (ad (ad e))))) 50 zB;generalize hx5:nx (ad (ad (ad (ad e)))) (qP c (qJ c e i)+(nx (ad (ad (ad e))) 12).tdiv 11)=x5 at *;clear hx5;have hat:=λh=>yN wC c.js (qJ c e i) jb.1 h
  have hat2:=λh=>hc.at (c:=c) (j:=qJ c e i) jb.1 h
  have hm:1<=max 1 (((c.js.map wC).length:Int)+(nx (ad e) 12).tdiv 11)/\max 1 (((c.js.map wC).length:Int)+(nx (ad e) 12).tdiv 11)<=1000:=by omega
  have tb:=zMp (nx e 3+i) _ zB hm.1 hm.2;unfold qP at n5 pb;unfold qJ at n5 eS jb hat hat2 pb;rw[eS];clear eS hc;generalize nx (ad (ad (ad (ad (ad e))))) 50=x6 at *;generalize nx (ad (ad (ad e))) 12=x4 at *;generalize nx (ad (ad e)) 3=x3 at *;generalize nx (ad e) 12=x2 at *;generalize nx e 3=x1 at *;generalize ad e=e1 at *;generalize ad e1=e2 at *;generalize ad e2=e3 at *;generalize ad e3=e4 at *;generalize ad e4=e5 at *;generalize ad e5=e6 at *;obtain⟨hm1,hm2⟩:=hm;obtain⟨tb1,tb2,tb3⟩:=tb;by_cases hj:Int.tmod (x1+i) (max 1 (((c.js.map wC).length:Int)+x2.tdiv 11))<((c.js.map wC).length:Int)
  ·rw[yAd hj]at n5 pb;have hy:=hat zB;have hz:=hat2 hj;clear hat hat2;generalize c.js.getD (Int.tmod (x1+i) (max 1 (((c.js.map wC).length:Int)+x2.tdiv 11))).toNat default=J at *;have hpl:(J.ph.map vE).length=J.ph.length:=yAe ..;unfold wC zC at hy;generalize J.ph.map vE=P at *;generalize J.cf.map iA=Cz at *;refine yQ (zt6 n1 n2 n3 n4 n5 n6) ?_
   show restr _ _ _=_
   rw[yAn];rfl
  ·rw[yAc hj]at n5 pb;clear hat hat2;refine yQ (zt6 n1 n2 n3 n4 n5 n6) ?_
   show restr _ _ _=_
   rw[yAn];rfl
 ·(refine WW ?_)
  exact zK [1000,107] Z Z Z Z
def zB8 (g:Int) (d:Dk):List Int×Dk:=
 if nx d 9=7 then(g::nx (ad d) 4::dY (2000+10*g+nx (ad (ad d)) 3),ad (ad (ad d)))
 else if nx d 9=8 then(nx (ad d) 3::0::dY (1000+nx (ad (ad d)) 3),ad (ad (ad d)))
 else(g::0::dY (1000+g),ad d)
def zWl (g:Int) (hg:0<=g/\g<256) (d:Dk):BY (zB8 g d).1/\rem (zB8 g d).2<=rem d:=by
 have r1:=wO d;have r2:=wO (ad d);have r3:=wO (ad (ad d));have b1:=yD (ad d) 4 zB;have b2:=yD (ad d) 3 zB;unfold zB8;split
 ·exact⟨IK hg zB (YV _),by dsimp only;omega⟩
 ·split
  ·exact⟨IK zB zB (YV _),by dsimp only;omega⟩
  ·exact⟨IK hg zB (YV _),by dsimp only;omega⟩
def zWm (q:Int):Int:=if q=1 then 4 else if q=3 then 7 else 6
def zRf (q:Int) (h:0<=q/\q<4):([AV.s (.int .i64 6),AV.s (.int .i64 4),AV.s (.int .i64 6),AV.s (.int .i64 7)]:List AV)[q.toNat]? =some (AV.s (.int .i64 (zWm q))):=by
 have:q=0∨q=1∨q=2∨q=3:=by omega
 rcases this with rfl|rfl|rfl|rfl<;>rfl
def zGo (k:Int) (d:Dk):Int×Dk:=if nx d 2=0 then(zWm (nx (ad d) 4),ad (ad d))else(k,ad d)
def zWn (k:Int) (hk:1<=k/\k<=12) (d:Dk):(1<=(zGo k d).1/\(zGo k d).1<=12)/\rem (zGo k d).2<=rem d:=by
 have r1:=wO d;have r2:=wO (ad d);unfold zGo zWm;split
 ·refine⟨?_,by dsimp only;omega⟩;dsimp only;split
  ·omega
  ·split<;>omega
 ·exact⟨hk,by dsimp only;omega⟩
def BZ (l:List Int) (d:Dk):List Int×Dk:=(l++[nx d 3,nx d 3+nx (ad d) 40],ad (ad d))
def VZ (l:List Int) (d:Dk):Nat->List Int×Dk
 |0=>(l,d)
 |i+1=>BZ (VZ l d i).1 (VZ l d i).2
theorem zB9 (l:List Int) (hl:PG l) (d:Dk):∀i,(VZ l d i).1.length=l.length+i*2/\rem (VZ l d i).2<=rem d/\PG (VZ l d i).1
 |0=>⟨rfl,yAg _,hl⟩
 |i+1=>by
  have ih:=zB9 l hl d i
  show(BZ _ _).1.length=_/\rem (BZ _ _).2<=_/\PG (BZ _ _).1
  generalize (VZ l d i).2=e at *;have r1:=wO e;have r2:=wO (ad e);have w1:=yD e 3 zB;have w2:=yD (ad e) 40 zB;refine⟨by simp only[BZ,yAf,yAp,yBk];omega,by simp only[BZ];omega,?_⟩;exact ih.2.2.app (.cons zB (.cons zB .nil))
def zGp (q:Int):Int:=if q=0 then 63 else if q=1 then 1 else if q=2 then 3 else if q=3 then 47 else 64
def zGq (q:Int):Int:=if q=0 then 0 else if q=1 then 5 else if q=2 then 30 else 700
def zRg (q:Int) (h:0<=q/\q<5):([AV.s (.int .i64 63),AV.s (.int .i64 1),AV.s (.int .i64 3),AV.s (.int .i64 47),AV.s (.int .i64 64)]:List AV)[q.toNat]? =some (AV.s (.int .i64 (zGp q))):=by
 have:q=0∨q=1∨q=2∨q=3∨q=4:=by omega
 rcases this with rfl|rfl|rfl|rfl|rfl<;>rfl
def zRh (q:Int) (h:0<=q/\q<4):([AV.s (.int .i64 0),AV.s (.int .i64 5),AV.s (.int .i64 30),AV.s (.int .i64 700)]:List AV)[q.toNat]? =some (AV.s (.int .i64 (zGq q))):=by
 have:q=0∨q=1∨q=2∨q=3:=by omega
 rcases this with rfl|rfl|rfl|rfl<;>rfl
def zGr (cf:Cf) (k c:Int) (d:Dk):List Int×Dk:=
 if k=2 then([zGp (nx d 5),nx (ad d) 5,zGq (nx (ad (ad d)) 4)],ad (ad (ad d)))
 else if k=3∨k=8∨k=5∨k=10∨k=11 then([nx d 4],ad d)
 else if k=4 then([nx d 4,c],ad d)
 else if k=6 then ZG cf [nx d 4,nx (ad d) 4,1+nx (ad (ad d)) (60-1+1)] (ad (ad (ad (ad d)))) (1+(nx (ad (ad (ad d))) 2).toNat)
 else if k=7 then VZ [nx d 4] (ad (ad d)) (1+(nx (ad d) 2).toNat)
 else([],d)
def zMq (g:Int) (d:Dk):(zB8 g d).1.length=10:=by
 unfold zB8;split
 ·simp[jJ]
 ·split<;>simp[jJ]
def zWo {cf:Cf} (hc:CfW cf) (k c:Int) (h0:0<=c/\c<=10) (hk:1<=k/\k<=12) (d:Dk):rem (zGr cf k c d).2<=rem d/\PG (zGr cf k c d).1/\∃n:Nat,n<=2/\(xX k≠0->1<=n)/\(zGr cf k c d).1.length=vS k+n*xX k:=by
 have r1:=wO d;have r2:=wO (ad d);have r3:=wO (ad (ad d));have r4:=wO (ad (ad (ad d)));have w1:=yD d 4 zB;have w2:=yD (ad d) 4 zB;have w3:=yD (ad (ad d)) (60-1+1) zB;have w4:=yD (ad (ad (ad d))) 2 zB;have w5:=yD (ad d) 2 zB;have w6:=yD (ad d) 5 zB;have g1:0<=zGp (nx d 5)/\zGp (nx d 5)<=64:=by unfold zGp;repeat' split;all_goals omega
 have g2:0<=zGq (nx (ad (ad d)) 4)/\zGq (nx (ad (ad d)) 4)<=700:=by unfold zGq;repeat' split;all_goals omega
 unfold zGr;split
 ·rename_i h;subst h;exact⟨by dsimp only;omega,.cons zB (.cons zB (.cons zB .nil)),0,zB,λh=>absurd Z h,rfl⟩
 split
 ·rename_i h
  refine⟨by dsimp only;omega,.cons zB .nil,0,zB,λh2=>?_,?_⟩<;>rcases h with rfl|rfl|rfl|rfl|rfl
  all_goals first|rfl|exact absurd Z h2
 split
 ·rename_i h;subst h;exact⟨by dsimp only;omega,.cons zB (.cons zB .nil),0,zB,λh=>absurd Z h,rfl⟩
 split
 ·rename_i h;subst h;obtain⟨p1,p2,p3⟩:=zB7 hc [nx d 4,nx (ad d) 4,1+nx (ad (ad d)) (60-1+1)] (.cons zB (.cons zB (.cons zB .nil))) (ad (ad (ad (ad d)))) (1+(nx (ad (ad (ad d))) 2).toNat);exact⟨zB,p3,_,zB,λ_=>by omega,p1⟩
 split
 ·rename_i h;subst h;obtain⟨p1,p2,p3⟩:=zB9 [nx d 4] (.cons zB .nil) (ad (ad d)) (1+(nx (ad d) 2).toNat);exact⟨zB,p3,_,zB,λ_=>by omega,p1⟩
 ·rename_i h1 h2 h3 h4 h5;have:k=1∨k=9∨k=12:=by omega
  refine⟨yAg _,.nil,0,zB,λh2=>?_,?_⟩<;>rcases this with rfl|rfl|rfl
  all_goals first|rfl|exact absurd Z h2
structure MgP (m:Ms):Prop where
 t:BY m.tok
 l:m.tok.length=10
 k:1<=m.kind/\m.kind<=12
 n:PG m.args
 c:∃n:Nat,n<=2/\(xX m.kind≠0->1<=n)/\m.args.length=vS m.kind+n*xX m.kind
 d:m.data=[]
def qcl (cm:Bool) (d:Dk):Int×Dk:=if cm=true then(nx (ad d) 2,ad (ad d))else(nx d 4,ad d)
def zYw (cm:Bool) (d:Dk):(0<=(qcl cm d).1/\(qcl cm d).1<=10)/\rem (qcl cm d).2<=rem d:=by
 have r1:=wO d;have r2:=wO (ad d);have w1:=yD d 4 zB;have w2:=yD (ad d) 2 zB;unfold qcl
 split<;>(refine⟨?_,?_⟩<;>dsimp only<;>omega)
theorem QT (c:Cf) (hc:CfW c) (g:Int) (hg:0<=g/\g<256) (cm:Bool) (d:Dk):∃(m:Ms) (d':Dk),MgP m/\rem d'<=rem d/\zN 54 [.ptr 1000 0 0,wD c,iA g,bA cm] [(1000,cT d)] (yB m) [(1000,cT d')]:=by
 have c1:=yH d 12 zB zB;have b1:=yD d 12 zB;have r1:=wO d;have cs0:=dI (1000+g);have cb0:=ZN g 0 (dY (1000+g)) (by rw[jJ];omega) hg.1 hg.2 zB zB;generalize hx:nx d 12=x at *;generalize ad d=d1 at *;have hT:=zWl g hg d1;have hTl:=zMq g d1;generalize hTe:zB8 g d1=v at *;obtain⟨tk0,d2⟩:=v;dsimp only at hT hTl;have hK:=zWn (1+x) zB d2;generalize hKe:zGo (1+x) d2=v at *;obtain⟨k,d3⟩:=v;dsimp only at hK;have hC:=zYw cm d3;generalize hCe:qcl cm d3=v at *;obtain⟨cl,d4⟩:=v;dsimp only at hC;have hA:=zWo hc k cl hC.1 hK.1 d4;generalize hAe:zGr c k cl d4=v at *;obtain⟨args,d5⟩:=v;dsimp only at hA;refine⟨⟨k,tk0,args,[]⟩,d5,⟨hT.1,hTl,hK.1,hA.2.1,hA.2.2,rfl⟩,by have:=hT.2;have:=hK.2;have:=hC.2;have:=hA.1;omega,?_⟩;clear hTl;have n9:=yH d1 9 zB zB;have cqf:=zRe c hc;unfold wD at *;rw[show zC wC c.js= .sl false (c.js.map wC)from Z,show zC wK c.ags= .sl false (c.ags.map wK)from Z]at *; generalize c.js.map wC=JS at *;generalize c.ags.map wK=AGS at *;refine eM call54 λF hF=>?_
 (have zc1:=c1;have zc2:=n9;have zc3:=cs0;have zc4:=cb0;(repeat' (first|refine WZB ?_|apply xM|apply xZ|intro hc|(refine zE ?_;first|refine SM ?_)|fail))<;>clear zc1 zc2 zc3 zc4)
 refine TQ [1000,5,8,9] [0,2,3,5,8,9] ⟨[(0,.ptr 1000 0 0),(2,iA g),(3,bA cm),(5,.ptr 5 0 0),(8,.ptr 8 0 0),(9,.ptr 9 0 0)],[(1000,cT d2),(5,.box [.sl false JS,.sl false AGS,iA c.per,iA c.cap,iA c.hold,iA c.lock]),(8,.box [iA 0,.s (.slice none 0 0),.s (.slice none 0 0),.s (.slice none 0 0)]),(9,.box [iA (1+x),zC yA tk0,.s (.slice none 0 0),.s (.slice none 0 0)])]⟩ rfl ?_ ?_
 ·unfold zB8 at hTe;by_cases h7:nx d1 9=7
  ·rw[yAd h7]at hTe;cases hTe;have n1:=yH (ad d1) 4 zB zB;have n2:=yH (ad (ad d1)) 3 zB zB;have w1:=yD (ad d1) 4 zB;have w2:=yD (ad (ad d1)) 3 zB;have cs:=dI (2000+10*g+nx (ad (ad d1)) 3);have cb:=ZN g (nx (ad d1) 4) (dY (2000+10*g+nx (ad (ad d1)) 3)) (by rw[jJ];omega) hg.1 hg.2 zB zB;clear hT hKe;refine yQ (ZB n1 n2 cs cb) ?_;exact⟨rfl,rfl⟩
  rw[yAc h7]at hTe;by_cases h8:nx d1 9=8
  ·rw[yAd h8]at hTe;cases hTe;have n1:=yH (ad d1) 3 zB zB;have n2:=yH (ad (ad d1)) 3 zB zB;have w1:=yD (ad d1) 3 zB;have w2:=yD (ad (ad d1)) 3 zB;have cs:=dI (1000+nx (ad (ad d1)) 3);have cb:=ZN (nx (ad d1) 3) 0 (dY (1000+nx (ad (ad d1)) 3)) (by rw[jJ];omega) zB zB zB zB;clear hT hKe;refine yQ (ZB n1 n2 cs cb) ?_;exact⟨rfl,rfl⟩
  ·rw[yAc h8]at hTe;cases hTe;clear hT hKe;refine WW ?_;exact⟨rfl,rfl⟩
 clear hTe n9 c1 cs0 cb0;have n2:=yH d2 2 zB zB
 (have zc1:=n2;(repeat' (first|refine WZB ?_|apply xM|apply xZ|intro hc|(refine zE ?_;first|refine SM ?_)|fail))<;>clear zc1)
 refine TQ [1000,5,8,9] [0,2,3,5,8,9] ⟨[(0,.ptr 1000 0 0),(2,iA g),(3,bA cm),(5,.ptr 5 0 0),(8,.ptr 8 0 0),(9,.ptr 9 0 0)],[(1000,cT d3),(5,.box [.sl false JS,.sl false AGS,iA c.per,iA c.cap,iA c.hold,iA c.lock]),(8,.box [iA 0,.s (.slice none 0 0),.s (.slice none 0 0),.s (.slice none 0 0)]),(9,.box [iA k,zC yA tk0,.s (.slice none 0 0),.s (.slice none 0 0)])]⟩ rfl ?_ ?_
 ·unfold zGo at hKe;have n3:=yH (ad d2) 4 zB zB;have w3:=yD (ad d2) 4 zB;have hy:=zRf _ w3;have hl4:([AV.s (.int .i64 6),AV.s (.int .i64 4),AV.s (.int .i64 6),AV.s (.int .i64 7)]:List AV).length=4:=rfl;clear hAe hCe hK;by_cases h0:nx d2 2=0
  ·rw[yAd h0]at hKe;cases hKe;refine zV n3 (I2 (λhc=>?_) λhc=>?_)
   all_goals first|(exfalso;omega;done)|exact⟨rfl,rfl⟩
  ·rw[yAc h0]at hKe;cases hKe;refine zV n3 (I2 (λhc=>?_) λhc=>?_)
   all_goals first|(exfalso;omega;done)|exact⟨rfl,rfl⟩
 clear hKe n2;have c3:=yH d3 4 zB zB
 (have zc1:=c3;(repeat' (first|refine WZB ?_|apply xM|apply xZ|intro hc|(refine zE ?_;first|refine SM ?_)|fail))<;>clear zc1)
 refine TQ [1000,5,8,9] [0,2,3,5,8,9,10] ⟨[(0,.ptr 1000 0 0),(2,iA g),(3,bA cm),(5,.ptr 5 0 0),(8,.ptr 8 0 0),(9,.ptr 9 0 0),(10,iA cl)],[(1000,cT d4),(5,.box [.sl false JS,.sl false AGS,iA c.per,iA c.cap,iA c.hold,iA c.lock]),(8,.box [iA 0,.s (.slice none 0 0),.s (.slice none 0 0),.s (.slice none 0 0)]),(9,.box [iA k,zC yA tk0,.s (.slice none 0 0),.s (.slice none 0 0)])]⟩ rfl ?_ ?_
 ·unfold qcl at hCe;clear hAe;have n2:=yH (ad d3) 2 zB zB
  cases cm with
  |true=>
   rw[yAd Z]at hCe;cases hCe;refine zV n2 ?_;exact⟨rfl,rfl⟩
  |false=>
   rw[yAc yAx]at hCe;cases hCe;refine WW ?_;exact⟨rfl,rfl⟩
 clear hCe c3
 (repeat' (first|refine WZC ?_|apply xM|apply xZ|intro hc|(refine zE ?_;first|refine SM ?_)|fail))
 have b4:=yD d4 4 zB;unfold zGr at hAe;by_cases k2:k=2
 ·rw[yAd k2]at hAe;cases hAe;have n1:=yH d4 5 zB zB;have n2:=yH (ad d4) 5 zB zB;have n3:=yH (ad (ad d4)) 4 zB zB;have w1:=yD d4 5 zB;have w3:=yD (ad (ad d4)) 4 zB;have h1:=zRg _ w1;have h3:=zRh _ w3;have hl5:([AV.s (.int .i64 63),AV.s (.int .i64 1),AV.s (.int .i64 3),AV.s (.int .i64 47),AV.s (.int .i64 64)]:List AV).length=5:=rfl;have hl4:([AV.s (.int .i64 0),AV.s (.int .i64 5),AV.s (.int .i64 30),AV.s (.int .i64 700)]:List AV).length=4:=rfl;generalize zGp (nx d4 5)=y1 at *;generalize zGq (nx (ad (ad d4)) 4)=y3 at *;clear hA hK hC hT;refine yQ (gG n1 n2 n3) ?_;exact zH [1000] Z Z Z Z
 rw[yAc k2]at hAe;by_cases k3:k=3∨k=8∨k=5∨k=10∨k=11
 ·rw[yAd k3]at hAe;cases hAe;have n1:=yH d4 4 zB zB;clear hA hK hC hT
  rcases k3 with h|h|h|h|h<;>((refine zV n1 ?_);exact zH [1000] Z Z Z Z)
 rw[yAc k3]at hAe;by_cases k4:k=4
 ·rw[yAd k4]at hAe;cases hAe;have n1:=yH d4 4 zB zB;clear hA hK hC hT;refine zV n1 ?_;exact zH [1000] Z Z Z Z
 rw[yAc k4]at hAe;by_cases k6:k=6
 ·rw[yAd k6]at hAe;have n1:=yH d4 4 zB zB;have n2:=yH (ad d4) 4 zB zB;have n3:=kW (ad (ad d4)) 1 60 zB zB zB;have w1:=yD d4 4 zB;have w2:=yD (ad d4) 4 zB;have w3:=yD (ad (ad d4)) (60-1+1) zB;have cq:=cqf [nx d4 4,nx (ad d4) 4,1+nx (ad (ad d4)) (60-1+1)] zS (.cons zB (.cons zB (.cons zB .nil))) (ad (ad (ad d4)));rw[hAe]at cq;clear cqf;clear hA hK hC hT hAe;generalize 1+nx (ad (ad d4)) (60-1+1)=x3 at *;generalize nx (ad d4) 4=x2 at *;generalize nx d4 4=x1 at *;refine yQ (ZB n1 n2 n3 cq) ?_;exact zH [1000] Z Z (yBa (λz=>AV.agg [iA k,zC yA tk0,.sl false z,zC yA []]) (yAh (l:=args.map iA))) Z
 rw[yAc k6]at hAe;by_cases k7:k=7
 ·rw[yAd k7]at hAe;have n1:=yH d4 4 zB zB;have n2:=yH (ad d4) 2 zB zB;have w2:=yD (ad d4) 2 zB;have w1:=yD d4 4 zB;have hnx:PG [nx d4 4]:= .cons zB .nil;clear w1;clear hA hK hC hT;generalize nx d4 4=x1 at *;generalize nx (ad d4) 2=n at *;generalize ad d4=e4 at *;generalize ad e4=e5 at *;obtain⟨N,hN⟩:∃N:Nat,1+n.toNat=N:=⟨_,rfl⟩;have hN2:1+n=(N:Int):=by omega
  rw[hN]at hAe;refine yQ (wV n1 n2) ?_;refine vY 114 Z ?_;refine zO (N) [9,1000,114,8] [8] [0,8,9] [11,0,8,9] Z (λi T U=>⟨(11,iA ((N:Int)-i))::T,(9,.box [iA k,zC yA tk0,.ref 114 0 ((VZ [x1] e5 i).1.map iA).length,.s (.slice none 0 0)])::(1000,cT (VZ [x1] e5 i).2)::(114,.arr 1 ((VZ [x1] e5 i).1.map iA) true)::U⟩) ?_;(conv=>whnf);refine⟨by(rw[show(N:Int)-(0:Nat)=1+n by omega];rfl),?_,?_⟩
  ·intro i hi;have hl:=(zB9 [x1] hnx e5 i).1;have eS:VZ [x1] e5 (i+1)=BZ (VZ [x1] e5 i).1 (VZ [x1] e5 i).2:=rfl;unfold BZ at eS;rw[show((N:Int)-((i+1:Nat):Int))=(N:Int)-i-1 by omega];generalize (VZ [x1] e5 i).1=p at *;generalize (VZ [x1] e5 i).2=e at *;have hk1:1<=(N:Int)-i:=by omega
   have hk2:(N:Int)-i<=10:=by omega
   have hp:p.length<=100:=by simp at hl;omega
   generalize (N:Int)-i=q at *;have n1:=yH e 3 zB zB;have n2:=yH (ad e) 40 zB zB;have w1:=yD e 3 zB;have w2:=yD (ad e) 40 zB;generalize nx (ad e) 40=y2 at *;generalize nx e 3=y1 at *;generalize ad e=e1 at *;generalize ad e1=e2 at *;rw[eS];refine yQ (wV n1 n2) ?_
   show restr _ _ _=_
   rw[yAn];rfl
  ·rw[show(N:Int)-(N:Int)=0 by omega,hAe];refine WW ?_;exact zH [1000] Z Z (yBa (λz=>AV.agg [iA k,zC yA tk0,.sl false z,zC yA []]) (yAh (l:=args.map iA))) Z
 ·rw[yAc k7]at hAe;cases hAe;clear hA hK hC hT;refine WW ?_;exact zH [1000] Z Z Z Z
section
variable (c:Cf) (d:xJ) (s now:Int) (tk0:List Int) (sl:Int)
def zMr:yY [wD c,zL d,iA s,yB ⟨1,tk0,[],[]⟩,iA sl,iA now] [] (hT d (OS d now) (-1) 0) []:=yF
def zWp (k:Int) (ar:List Int) (a:Int) (ar1:List Int) (har:ar=a::ar1) (hk:k=2∨k=3∨k=4∨k=5) (d':xJ) (p:Ms) (e:Int) (k4:yY [zL d,yB ⟨k,tk0,ar,[]⟩,iA sl,iA now] [] (.tup [zL d',yB p,iA e]) []):
 yY [wD c,zL d,iA s,yB ⟨k,tk0,ar,[]⟩,iA sl,iA now] [] (hT d' p (-1) e) []:=yF
def zMs (ar:List Int) (a:Int) (ar1:List Int) (har:ar=a::ar1) (h0:0<=sl) (h1:sl<(d.rg.tk.length:Int)) (d':xJ) (e:Int) (k4:yY [wD c,zL d,yB ⟨6,tk0,ar,[]⟩,iA (d.rg.tk.getD sl.toNat default).cls,iA now] [] (.tup [zL d',iA e]) []):
 yY [wD c,zL d,iA s,yB ⟨6,tk0,ar,[]⟩,iA sl,iA now] [] (hT d' (gE 6 a) (-1) e) []:=yF
def zMt (ar:List Int) (a:Int) (ar1:List Int) (har:ar=a::ar1) (d':xJ) (e:Int) (k4:yY [zL d,yB ⟨7,tk0,ar,[]⟩,iA now] [] (.tup [zL d',iA e]) []):
 yY [wD c,zL d,iA s,yB ⟨7,tk0,ar,[]⟩,iA sl,iA now] [] (hT d' (gE 7 a) (-1) e) []:=yF
def zWq (a:Int) (l:List Rq) (e:Int) (k4:yY [zC yL d.rq,iA a] [] (.tup [zC yL l,iA e]) []):
 yY [wD c,zL d,iA s,yB ⟨8,tk0,[a],[]⟩,iA sl,iA now] [] (hT (dkQ d (if e=0 then l else d.rq)) (gE 8 a) (-1) e) []:=yF
def zRi (k4:yY [zL d] [] (yB (aZ d)) []):yY [wD c,zL d,iA s,yB ⟨12,tk0,[],[]⟩,iA sl,iA now] [] (hT d (aZ d) (-1) 0) []:=yF
def zRj (a:Int) (ha:(c.js.length:Int)<=a):yY [wD c,zL d,iA s,yB ⟨11,tk0,[a],[]⟩,iA sl,iA now] [] (hT d (gE 11 a) (-1) 8) []:=yF
def zRk (a:Int) (ha:a<(c.js.length:Int)):yY [wD c,zL d,iA s,yB ⟨11,tk0,[a],[]⟩,iA sl,iA now] [] (hT d (gE 11 a) a 0) []:=yF
def zRl (a:Int) (ha:1<a):yY [wD c,zL d,iA s,yB ⟨10,tk0,[a],[]⟩,iA sl,iA now] [] (hT d (gE 10 a) (-1) 8) []:=yF
def zRm (a:Int) (ha:a<=1) (hs:¬(0<=s/\s<(d.au.length:Int))):yY [wD c,zL d,iA s,yB ⟨10,tk0,[a],[]⟩,iA sl,iA now] [] (hT d (gE 10 a) (-1) 0) []:=yF
def zRn (hb:dH d):yY [wD c,zL d,iA s,yB ⟨9,tk0,[],[]⟩,iA sl,iA now] [] (hT d (OT d) (-1) 0) []:=yF
end
def SI (d:xJ):AV:=wJ d.rg (zC yL d.rq) (zC qR d.dr) (.ref 1004 0 (d.au.map bA).length)
def auE (l:List Bool):xO:= .arr 1 (l.map bA) false
def hTO (d:xJ) (p:Ms) (k e:Int):AV:= .tup [SI d,yB p,iA k,iA e]
def zMu (l:List Bool) (h1:1<=l.length) (hl:l.length<=1073741824):zN 169 [zC bA l] [] (.ref 1004 0 (l.map bA).length) [(1004,auE l)]:=by
 have hll:=zA bA l;unfold auE;refine eM call169 λF hF=>?_
 refine yZ 0 Z (λcap hx=>?_) ?_
 ·have:l=[]:=by simpa using hx
  subst this;simp at h1
 ·repeat' (first|(refine zE ?_;first|refine vF tok Z Z ?_|(refine wE ?_;refine yJ (yS tok (.inl ⟨rfl,rfl⟩) Z Z Z Z) Z ?_)|(refine yV ?_;refine uT (nw:=[1004]) (yI tok 1004 (xs:=[]) Z Z Z Z Z Z Z Z Z) Z Z Z ?_)|(refine yK ?_;refine xU tok Z Z Z Z Z Z Z (yC _ _ (λ_=>rfl)) Z Z Z zB Z ?_)|refine uQ ?_)|(first|refine xQ ?_|refine xE ?_|refine vG Z ?_|refine zX Z ?_|refine zU Z ?_|refine xK Z (λhc=>?_) λhc=>?_|refine xA ?_|refine yW ?_|refine xD ?_|refine yU ?_))
  exact zK [1004] Z Z Z Z
def SJ (d:xJ) (hb:dH d) (h1:1<=d.au.length):zN 127 [zL d] [] (SI d) [(1004,auE d.au)]:=by
 have k1:=IG d.rg hb.rg;have hq:=hb.q;have hdn:=hb.n;have hau:=hb.a;have k2:=WQ d.rq zB;have k3:=OP d.dr zB;have k4:=zMu d.au h1 zB;have hlq:=zA yL d.rq;have hld:=zA qR d.dr;unfold SI zL wJ;unfold auE at *;unfold qG at k1;refine eM call127 λF hF=>?_
 refine yQ (wV k1 k2) ?_;refine zO ((d.rq.map yL).length) [1001,1,2] [1,2] [1,2,15] [16,1,2,15] Z (λi T U=>⟨(16,iA i)::T,(1001,.arr 5 (jI i (d.rq.map yL)) false)::U⟩) ?_;(conv=>whnf);refine⟨by rfl,?_,?_⟩
 ·intro i hi;have hi':i<d.rq.length:=by omega
  have hy:(jI i (d.rq.map yL))[i]? =some (yL (d.rq.getD i default)):=zM yL d.rq i hi';have e:=kN yL d.rq i hi';have c2:=bG (d.rq.getD i default).legs (hb.g (d.rq.getD i default) ZF);generalize (d.rq.getD i default)=t at *;generalize jI i (d.rq.map yL)=xs at *;generalize jI (i+1) (d.rq.map yL)=ys at *;subst e;refine zV c2 ?_;rfl
 ·(refine zV k3 ?_)
  refine zO ((d.dr.map qR).length) [1002,1,2,1001] [1,2,1001] [1,2,38] [39,1,2,38] Z (λi T U=>⟨(39,iA i)::T,(1002,.arr 1 (jI i (d.dr.map qR)) false)::U⟩) ?_;(conv=>whnf);refine⟨by rfl,?_,?_⟩
  ·intro i hi;have hi':i<d.dr.length:=by omega
   have hy:(jI i (d.dr.map qR))[i]? =some (qR (d.dr.getD i default)):=zM qR d.dr i hi';have e:=kN qR d.dr i hi';have c2:=wL (d.dr.getD i default) (by have:=hb.e (d.dr.getD i default) ZF;omega);generalize (d.dr.getD i default)=t at *;generalize jI i (d.dr.map qR)=xs at *;generalize jI (i+1) (d.dr.map qR)=ys at *;subst e;refine zV c2 ?_;rfl
  ·(refine zV k4 ?_)
   refine zH [1004] Z Z ?_ Z
   show wJ d.rg (.sl false ((d.rq.map yL).take (d.rq.map yL).length)) (.sl false ((d.dr.map qR).take (d.dr.map qR).length)) (.ref 1004 0 (d.au.map bA).length)=_
   rw[yAh,yAh];rfl
def zCa (d:xJ) (hb:dH d):yY [zL d] [] (SI d) [(1004,auE d.au)]:=yF
def zRo (c:Cf) (d:xJ) (s now:Int) (pa tk0:List Int) (a:Int) (h0:0<=a) (h1:a<=1) (k2:zN 69 [iA 10,zC yA pa] [] (.tup [yB ⟨10,tk0,[a],[]⟩,iA 0]) []) (r:Rg) (sl:Int)
  (k3:zN 200 [qG d.rg,yB ⟨10,tk0,[a],[]⟩,iA now] [] (.tup [qG r,iA sl,iA 0]) []) (hs:0<=s/\s<(d.au.length:Int)):
  zN 170 [wD c,SI d,iA s,wI ⟨0,10,pa⟩,iA now] [(1004,auE d.au)] (hTO ⟨r,d.rq,d.dr,d.au.set s.toNat (a==1)⟩ (gE 10 a) (-1) 0) [(1004,auE (d.au.set s.toNat (a==1)))]:=by
 have k1:=fS 10;have k5:=IL 10 a;have hla:=zA bA d.au;have hya:=zM bA d.au s.toNat zB;unfold gE yB at k5;rw[show yB ⟨10,tk0,[a],[]⟩= .agg [iA 10,zC yA tk0,.sl false [iA a],.sl false []]from Z]at k2 k3;unfold qG at k3;have hls:(d.au.set s.toNat (a==1)).map bA=(d.au.map bA).set s.toNat (bA (a==1)):=yCk;unfold wD hTO SI wJ wI gE yB auE;dsimp only;rw[hls,yB7];generalize d.au.getD s.toNat default=b0 at *;generalize d.au.map bA=xs at*
 obtain rfl|rfl:a=0∨a=1:=by omega
 all_goals
  refine eM call170 λF hF=>?_
  refine IZ (ZB k1 k2 k3 k5) ?_;exact zH [1004] Z Z Z Z
def zRp (c:Cf) (d:xJ) (s now:Int) (tk0:List Int) (sl:Int) (a:Int) (h0:0<=a) (h1:a<=1) (hs:0<=s/\s<(d.au.length:Int)):
 yY [wD c,SI d,iA s,yB ⟨10,tk0,[a],[]⟩,iA sl,iA now] [(1004,auE d.au)] (hTO ⟨d.rg,d.rq,d.dr,d.au.set s.toNat (a==1)⟩ (gE 10 a) (-1) 0) [(1004,auE (d.au.set s.toNat (a==1)))]:=yF
def jR (k e:Int):Ms:=⟨15,[],[k,e],[]⟩
def KB (a k e:Int):AV:= .agg [iA a,iA k,iA e]
structure Hd where
 d:xJ
 p:Ms
 k:Int
 e:Int
def AA (n ki:Int) (h:Hd):AV:= .tup [zL h.d,yB h.p,KB n ki h.e,iA h.k]
def MO (d:xJ):AV:=wJ d.rg (zC yL d.rq) (.ref 1005 0 (d.dr.map qR).length) (zC bA d.au)
def dkD (d:xJ):xO:= .arr 1 (d.dr.map qR) true
def AB (n ki:Int) (h:Hd):AV:= .tup [MO h.d,yB h.p,KB n ki h.e,iA h.k]
def gV (d:xJ) (hb:dH d):yY [zL d] [] (MO d) [(1005,dkD d)]:=yF
def HRc (c:Cf) (d:xJ) (s now:Int) (i:It) (h:Hd):Prop:=
 yY [wD c,zL d,iA s,wI i,iA now] [] (AA d.rg.num i.kind h) []/\yY [wD c,zL d,iA s,wI i,iA now] [] (AB d.rg.num i.kind h) [(1005,dkD h.d)]
def hdM (ki:Int) (d:xJ) (p:Ms) (k e:Int):Hd:=if e=0 then⟨d,p,k,0⟩else⟨d,jR ki e,-1,e⟩
def zS2 (c:Cf) (d:xJ) (s now:Int) (i:It) (hb:dH d) (d':xJ) (p:Ms) (k e:Int) (k4:zN 170 [wD c,zL d,iA s,wI i,iA now] [] (hT d' p k e) []):
  zN 128 [wD c,zL d,iA s,wI i,iA now] [] (AA d'.rg.num i.kind (hdM i.kind d' p k e)) []:=by
 have k1:=bE d hb;unfold hT wD wI at k4;unfold wD wI;unfold zL wJ yB at *;by_cases he:e=0
 ·subst he;unfold hdM AA KB zL wJ yB;rw[yAd Z];refine eM call128 λF hF=>?_
  refine IZ (wV k1 k4) ?_;exact zJ
 ·unfold hdM AA KB jR zL wJ yB;rw[yAc he];refine eM call128 λF hF=>?_
  refine IZ (wV k1 k4) ?_;exact zJ
def zWr (c:Cf) (d:xJ) (s now:Int) (i:It) (hb:dH d) (h1:1<=d.au.length) (d':xJ) (p:Ms) (k:Int) (k4:zN 170 [wD c,SI d,iA s,wI i,iA now] [(1004,auE d.au)] (hTO d' p k 0) [(1004,auE d'.au)]):
  zN 128 [wD c,zL d,iA s,wI i,iA now] [] (AA d'.rg.num i.kind ⟨d',p,k,0⟩) []:=by
 have k1:=SJ d hb h1;unfold hTO wD wI at k4;unfold wD wI;unfold auE SI at *;unfold zL wJ yB at *;unfold AA KB zL wJ yB;refine eM call128 λF hF=>?_
 refine IZ (wV k1 k4) ?_;refine zH [] Z Z ?_ Z
 show AV.tup [wJ d'.rg (zC yL d'.rq) (zC qR d'.dr) (.sl false ((d'.au.map bA).take (d'.au.map bA).length)),yB p,KB d'.rg.num i.kind 0,iA k]=_
 rw[yAh];rfl
section
variable (c:Cf) (d:xJ) (s now:Int) (hb:dH d)
include hb
theorem zRq (i:It) (hc:i.code≠0):HRc c d s now i ⟨d,jR i.kind i.code,-1,i.code⟩:=by
 have kd:=gV d hb;have k1:=jN d hb;unfold HRc wD AA AB jR KB wI zL MO dkD wJ yB at *;refine⟨?_,?_⟩
 ·exact yF
 ·exact yF
theorem zRr (i:It) (hc:i.code=0) (hk:¬(1<=i.kind/\i.kind<=12)):HRc c d s now i ⟨d,jR i.kind 5,-1,5⟩:=by
 have kd:=gV d hb;have k1:=jN d hb;have k2:=aB i.kind;rw[yAl hk]at k2;obtain⟨co,ki,pa⟩:=i;dsimp only at *;subst hc;unfold HRc wD AA AB jR KB wI zL MO dkD wJ yB at *;refine⟨?_,?_⟩
 ·exact yF
 ·exact yF
theorem zRs (k:Int) (pa:List Int) (h0:1<=k) (h1:k<=12) (k3:zN 71 [iA k,zC yA pa] [] (deT k (pa.take 10) none) []):HRc c d s now ⟨0,k,pa⟩ ⟨d,jR k 6,-1,6⟩:=by
 have kd:=gV d hb;have k1:=jN d hb;have k2:=aB k;rw[yAj ⟨h0,h1⟩]at k2;unfold deT yB at k3;unfold HRc wD AA AB jR KB wI zL MO dkD wJ yB at *;refine⟨?_,?_⟩
 ·exact yF
 ·exact yF
variable (k:Int) (pa tk0 ar:List Int) (h0:1<=k) (h1:k<=12) (k3:zN 71 [iA k,zC yA pa] [] (.tup [yB ⟨k,tk0,ar,[]⟩,iA 0]) [])
include h0 h1 k3
theorem zRt (r:Rg) (sl e:Int) (he:e≠0) (k4:yY [qG d.rg,yB ⟨k,tk0,ar,[]⟩,iA now] [] (.tup [qG r,iA sl,iA e]) []):
  HRc c d s now ⟨0,k,pa⟩ ⟨d,jR k e,-1,e⟩:=by
 have kd:=gV d hb;have k1:=jN d hb;have k2:=aB k;rw[yAj ⟨h0,h1⟩]at k2;unfold qG at k4;unfold HRc wD AA AB jR KB wI zL MO dkD wJ yB at *;refine⟨?_,?_⟩
 ·exact yF
 ·exact yF
theorem zS3 (r:Rg) (sl:Int) (k4:yY [qG d.rg,yB ⟨k,tk0,ar,[]⟩,iA now] [] (.tup [qG r,iA sl,iA 0]) []) (d':xJ) (hb':dH d') (p:Ms) (kk e:Int)
  (k5:yY [wD c,zL (wB d r),iA s,yB ⟨k,tk0,ar,[]⟩,iA sl,iA now] [] (hT d' p kk e) []):
  HRc c d s now ⟨0,k,pa⟩ (hdM k d' p kk e):=by
 have kd:=gV d' hb';have k1:=jN d hb;have k6:=jN d' hb';have k2:=aB k;rw[yAj ⟨h0,h1⟩]at k2;unfold qG at k4;unfold hT wB at k5;unfold HRc wD wI zL MO dkD wJ yB at *;by_cases he:e=0
 ·subst he;unfold hdM AA AB KB zL MO wJ yB;rw[yAd Z];refine⟨?_,?_⟩
  ·exact yF
  ·exact yF
 ·unfold hdM AA AB KB jR zL MO wJ yB;rw[yAc he];refine⟨?_,?_⟩
  ·exact yF
  ·exact yF
theorem zWs (r:Rg) (sl:Int) (k4:yY [qG d.rg,yB ⟨k,tk0,ar,[]⟩,iA now] [] (.tup [qG r,iA sl,iA 0]) []) (d':xJ) (hb':dH d') (p:Ms) (kk:Int)
  (k5:yY [wD c,SI (wB d r),iA s,yB ⟨k,tk0,ar,[]⟩,iA sl,iA now] [(1004,auE d.au)] (hTO d' p kk 0) [(1004,auE d'.au)]):
  HRc c d s now ⟨0,k,pa⟩ ⟨d',p,kk,0⟩:=by
 have kd:=gV d' hb';have k1:=zCa d hb;have k6:=jN d' hb';have k2:=aB k;rw[yAj ⟨h0,h1⟩]at k2;unfold qG at k4;unfold hTO wB at k5;unfold auE SI at *;unfold HRc wD wI zL MO dkD wJ yB at *;unfold AA AB KB zL MO wJ yB;refine⟨?_,?_⟩
 ·exact yF
 ·exact yF
end
def zRu (r:Rg) (m:Ms) (now:Int) (hr:EZ r) (hm:BY m.tok) (hl:r.bk.level<=1000000):yY [qG r,yB m,iA now] [] (.tup [qG (opR r m now),iA (opS r m now),iA (opE r m now)]) []:=yF
def zYx (c:Cf) (l:List Rq):Prop:=∀r∈l,∀g∈r.legs,g.jn<(c.js.length:Int)/\g.ph<((c.js.getD g.jn.toNat default).ph.length:Int)
structure uU (c:Cf) (d:xJ):Prop where
 b:EZ d.rg
 v:ZL d.rq
 q:(d.rq.length:Int)<=d.rg.ag.req
 lg:zYx c d.rq
 a:AgV d.rg.ag
 n:0<=d.rg.num/\d.rg.num<4
 t8:d.rg.tk.length=8
 br:d.rg.bk.rate=d.rg.ag.rate
 bb:d.rg.bk.burst=d.rg.ag.burst
 bl:0<=d.rg.bk.level/\d.rg.bk.level<=d.rg.ag.burst
 au:(d.au.length:Int)=d.rg.ag.ses
 dn:d.dr.length<=1000
 dr:∀x∈d.dr,x.length=8/\BY x
 vh:d.rg.vh.length<=8
theorem uU.bd {c:Cf} {d:xJ} (h:uU c d):dH d:=
 ⟨h.b,by have:=h.v.n4;omega,λr hr=>by have:=h.v.lg3 hr;omega,h.dn,λx hx=>by have:=(h.dr x hx).1;omega,by have:=h.au;have:=h.a.e;omega⟩
theorem zS4:∀(n:Nat) (l:List Int),l.length=4*n->∃qs:List Qd,l=XR qs/\qs.length=n
 |0,l,h=>⟨[],yBb zB,rfl⟩
 |n+1,a::b::c::e::l,h=>by
  obtain⟨qs,h1,h2⟩:=zS4 n l (by simp only[yAp]at h;omega);exact⟨⟨a,b,c,e⟩::qs,by rw[h1];rfl,by rw[yAp,h2]⟩
 |n+1,[],h=>by simp at h
 |n+1,[_],h=>by simp at h;omega
 |n+1,[_,_],h=>by simp at h;omega
 |n+1,[_,_,_],h=>by simp at h;omega
theorem zS5:∀(n:Nat) (l:List Int),l.length=2*n->∃ws:List (Int×Int),l=IB ws/\ws.length=n
 |0,l,h=>⟨[],yBb zB,rfl⟩
 |n+1,a::b::l,h=>by
  obtain⟨ws,h1,h2⟩:=zS5 n l (by simp only[yAp]at h;omega);exact⟨(a,b)::ws,by rw[h1];rfl,by rw[yAp,h2]⟩
 |n+1,[],h=>by simp at h
 |n+1,[_],h=>by simp at h;omega
def zRv {fx gr:Nat} {p a:List Int} (hb:BY p) (h:OW fx gr p=some a):p.length<=200/\10<=p.length/\(∀x∈a,0<=x/\x<=4294967295)/\(gr=0->a.length=fx)/\(gr≠0->∃c:Nat,1<=c/\c<=3/\a.length=fx+c*gr):=by
 unfold OW at h;by_cases hl:200<p.length∨p.length<10
 ·rw[yAd hl]at h;cases h
 rw[yAc hl]at h;have hbd:BY (p.drop 10):=λx hx=>hb x (yBc hx)
 cases h1:aE fx (p.drop 10)with
 |none=>rw[h1]at h;cases h
 | some ar=>
  obtain⟨a1,r1⟩:=ar;rw[h1]at h;obtain⟨l1,b1,v1,_⟩:=fQ fx _ a1 r1 hbd h1;dsimp only at h;by_cases hg:gr=0
  ·rw[yAd hg]at h;by_cases hr:r1=[]
   ·rw[yAd hr]at h;cases h;exact⟨zB,zB,v1,λ_=>l1,λh=>absurd hg h⟩
   ·rw[yAc hr]at h;cases h
  ·rw[yAc hg]at h
   cases h2:aE 1 r1 with
   |none=>rw[h2]at h;cases h
   | some cr=>
    obtain⟨c1,r2⟩:=cr;rw[h2]at h;obtain⟨l2,b2,v2,_⟩:=fQ 1 _ c1 r2 b1 h2;dsimp only at h;by_cases hc:c1.getD 0 0<1∨3<c1.getD 0 0
    ·rw[yAd hc]at h;cases h
    rw[yAc hc]at h
    cases h3:aE ((c1.getD 0 0).toNat*gr) r2 with
    |none=>rw[h3]at h;cases h
    |some fr=>
     obtain⟨f1,r3⟩:=fr;rw[h3]at h;obtain⟨l3,b3,v3,_⟩:=fQ _ _ f1 r3 b2 h3;dsimp only at h;by_cases hr:r3=[]
     ·rw[yAd hr]at h;cases h;refine⟨zB,zB,λx hx=>?_,λh=>absurd h hg,λ_=>⟨(c1.getD 0 0).toNat,zB,zB,by rw[yAf,l1,l3]⟩⟩;rw[yAz]at hx;exact hx.elim (v1 x) (v3 x)
     ·rw[yAc hr]at h;cases h
def Opn (d:xJ) (i:It) (now:Int) (a:List Int):Prop:=i.code=0/\1<=i.kind/\i.kind<=12/\OW (vS i.kind) (xX i.kind) i.pay=some a/\opE d.rg ⟨i.kind,i.pay.take 10,a,[]⟩ now=0
def opD (d:xJ) (i:It) (now:Int) (a:List Int):xJ:=wB d (opR d.rg ⟨i.kind,i.pay.take 10,a,[]⟩ now)
def QC (c:Cf) (d:xJ) (s:Int) (i:It) (now:Int) (h:Hd):Prop:=
 zN 128 [wD c,zL d,iA s,wI i,iA now] [] (AA d.rg.num i.kind h) []/\HRc c d s now i h
def RpF (d:xJ) (i:It) (now:Int) (a:List Int) (h:Hd):Prop:=
 (i.kind=1/\h.p=OS d now/\h.d=d)∨(i.kind=9/\h.p=OT d/\h.d=d)∨(i.kind=12/\h.p=aZ d/\h.d=d)∨
 (i.kind=2/\∃(k:Nat) (sec:List Int),k<8/\(sec.length=8/\BY sec)/\h.p=⟨16,[],[(k:Int)],d.rg.num::(k:Int)::sec⟩)∨
 ((3<=i.kind/\i.kind<=8∨i.kind=10∨i.kind=11)/\∃x,0<=x/\x<=4294967295/\h.p=gE i.kind x)
def T0 (d:xJ):Prop:=d.rg.tk.getD 0 default=⟨true,d.rg.ag.sec,-1,d.rg.ag.rights,d.rg.ag.cls,0⟩
def AC (d d':xJ):Prop:=NoT d.rg.tk->NoT d'.rg.tk/\d'.au=d.au
theorem AC.refl (d:xJ):AC d d:=λh=>⟨h,rfl⟩
theorem AC.trans {a b d:xJ} (h:AC a b) (k:AC b d):AC a d:=λx=>⟨(k (h x).1).1,(k (h x).1).2.trans (h x).2⟩
theorem T0.of {d d':xJ} (h1:d'.rg.tk=d.rg.tk) (h3:d'.au=d.au):AC d d':=λh=>⟨h1▸h,h3⟩
def UA (l l':List Rq):Prop:=∀r∈l',∀g∈r.legs,g.sc= -1∨∃r0∈l,r0.id=r.id/\∃g0∈r0.legs,g0.jn=g.jn/\g0.ph=g.ph/\g0.sc=g.sc
theorem UA.refl (l:List Rq):UA l l:=λr hr g hg=> .inr ⟨r,hr,rfl,g,hg,rfl,rfl,rfl⟩
theorem UA.filter (l:List Rq) (p:Rq->Bool):UA l (l.filter p):=λr hr g hg=> .inr ⟨r,(yDz.1 hr).1,rfl,g,hg,rfl,rfl,rfl⟩
theorem UA.trans {a b c:List Rq} (h1:UA a b) (h2:UA b c):UA a c:=λr hr g hg=>by
 rcases h2 r hr g hg with h|⟨r1,hr1,e1,g1,hg1,a1,a2,a3⟩
 ·exact .inl h
 ·rcases h1 r1 hr1 g1 hg1 with h|⟨r0,hr0,e0,g0,hg0,b1,b2,b3⟩
  ·exact .inl (a3▸h)
  ·exact .inr ⟨r0,hr0,e0.trans e1,g0,hg0,b1.trans a1,b2.trans a2,b3.trans a3⟩
structure HdP (c:Cf) (d:xJ) (s:Int) (i:It) (now:Int) (h:Hd):Prop where
 inv:uU c h.d
 ag:h.d.rg.ag=d.rg.ag
 num:h.d.rg.num=d.rg.num
 no:h.e≠0->h.k= -1/\h.p=jR i.kind h.e/\(h.d=d∨∃a,Opn d i now a/\h.d=opD d i now a)
 yes:h.e=0->∃a,Opn d i now a/\RpF d i now a h
 rst:h.k= -1∨(i.kind=11/\0<=h.k/\h.k<(c.js.length:Int))
 dl:h.d.dr.length<=d.dr.length
 t0:AC d h.d
 eb:0<=i.code/\i.code<=100->0<=h.e/\h.e<=100
 ax:∀k:Nat,(k:Int)≠s->h.d.au[k]? =d.au[k]?
 sc:UA d.rq h.d.rq
def QD {r:Rg} {m:Ms} {now:Int} (h:opE r m now=0):opR r m now=⟨r.num,r.ag,r.tk,r.vh,if KH m.kind=true then EW r.bk else r.bk⟩/\ckB r.tk r.num m.tok m.kind now=true/\(KH m.kind=true->0<r.bk.level)/\opS r m now=m.tok.getD 1 default:=by
 have h1:ckB r.tk r.num m.tok m.kind now=true:=by
  cases hc:ckB r.tk r.num m.tok m.kind now with
  |true=>rfl
  |false=>rw[opE,hc,yAc yAx]at h;omega
 refine⟨?_,h1,λhk=>?_,by rw[opS,yAd h]⟩
 ·rw[opR,yAd h]
  split<;>rfl
 ·rw[opE,yAd h1]at h;by_cases hl:r.bk.level<=0
  ·rw[yAd ⟨hk,hl⟩]at h;omega
  ·omega
def zS6 {c:Cf} {d:xJ} (hI:uU c d) {i:It} {now:Int} {a:List Int} (h:Opn d i now a):uU c (opD d i now a):=by
 obtain⟨h1,_,h3,_⟩:=QD h.2.2.2.2;unfold opD wB;rw[h1];have hl:=hI.bl;refine⟨⟨hI.b.tk,hI.b.s,hI.b.l,hI.b.v⟩,hI.v,hI.q,hI.lg,hI.a,hI.n,hI.t8,?_,?_,?_,hI.au,hI.dn,hI.dr,hI.vh⟩
 ·dsimp only;split
  ·unfold EW;split
   ·exact hI.br
   ·exact hI.br
  ·exact hI.br
 ·dsimp only;split
  ·unfold EW;split
   ·exact hI.bb
   ·exact hI.bb
  ·exact hI.bb
 ·dsimp only;split
  ·rename_i hk;have:=h3 hk;unfold EW;split
   ·exact hl
   ·dsimp only;omega
  ·exact hl
def MP {d:xJ} {i:It} {now:Int} {a:List Int} (h:Opn d i now a) (hk:i.kind=1∨9<=i.kind):opD d i now a=d:=by
 obtain⟨h1,_,_,_⟩:=QD h.2.2.2.2;unfold opD wB;rw[h1,yAc (λh=>by unfold KH at h;rw[yAm]at h;dsimp only at h;omega)]
def zMv {ki:Int} {d:xJ} {p:Ms} {k e:Int} (h:e≠0):hdM ki d p k e=⟨d,jR ki e,-1,e⟩:=yAc h
def zEk {ki:Int} {d:xJ} {p:Ms} {k:Int}:hdM ki d p k 0=⟨d,p,k,0⟩:=yAd Z
def AD {c:Cf} {d:xJ} {s now:Int} {i:It} (hI:uU c d) {e:Int} (he:e≠0) (p:Ms) (d':xJ) (hd:d'=d∨∃a,Opn d i now a/\d'=opD d i now a)
  (h1:zN 170 [wD c,zL d,iA s,wI i,iA now] [] (hT d' p (-1) e) []) (h2:HRc c d s now i ⟨d',jR i.kind e,-1,e⟩) (heb:0<=i.code/\i.code<=100->0<=e/\e<=100:=by(intro _;omega)):∃h,QC c d s i now h/\HdP c d s i now h:=by
 have hi:uU c d'/\d'.rg.ag=d.rg.ag/\d'.rg.num=d.rg.num/\d'.dr=d.dr/\d'.rg.tk=d.rg.tk:=by
  rcases hd with rfl|⟨a,ho,rfl⟩
  ·exact⟨hI,rfl,rfl,rfl,rfl⟩
  ·refine⟨zS6 hI ho,?_,?_,?_,?_⟩<;>(unfold opD wB;rw[(QD ho.2.2.2.2).1])
 have h3:=zS2 c d s now i hI.bd d' p (-1) e h1;rw[zMv he,hi.2.2.1]at h3;exact⟨⟨d',jR i.kind e,-1,e⟩,⟨h3,h2⟩,hi.1,hi.2.1,hi.2.2.1,λ_=>⟨rfl,rfl,hd⟩,λh=>absurd h he,.inl Z,by rw[hi.2.2.2.1];exact yAg _,T0.of hi.2.2.2.2 (by rcases hd with h|⟨a,_,h⟩<;>rw[h];rfl),heb,λ_ _=>by rw[show d'.au=d.au by rcases hd with h|⟨a,_,h⟩<;>rw[h];rfl],by dsimp only;rw[show d'.rq=d.rq by rcases hd with h|⟨a,_,h⟩<;>rw[h];rfl];exact UA.refl _⟩
def zWt {c:Cf} {d:xJ} {s now:Int} {i:It} (hI:uU c d) (a:List Int) (ho:Opn d i now a) (p:Ms) (k:Int) (d':xJ) (hi:uU c d') (ha:d'.rg.ag=d.rg.ag) (hn:d'.rg.num=d.rg.num)
  (hr:RpF d i now a ⟨d',p,k,0⟩) (hk:k= -1∨(i.kind=11/\0<=k/\k<(c.js.length:Int))) (hdl:d'.dr.length<=d.dr.length) (ht0:AC d d')
  (h1:zN 170 [wD c,zL d,iA s,wI i,iA now] [] (hT d' p k 0) []) (h2:HRc c d s now i ⟨d',p,k,0⟩) (hau:d'.au=d.au) (hsc:UA d.rq d'.rq):∃h,QC c d s i now h/\HdP c d s i now h:=by
 have h3:=zS2 c d s now i hI.bd d' p k 0 h1;rw[zEk,hn]at h3;exact⟨⟨d',p,k,0⟩,⟨h3,h2⟩,hi,ha,hn,λh=>absurd Z h,λ_=>⟨a,ho,hr⟩,hk,hdl,ht0,λ_=>by dsimp only;omega,λ_ _=>by dsimp only;rw[hau],hsc⟩
end Av
end Go.Proofs.YteajjdidebfcjaaGreat
