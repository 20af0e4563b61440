/- Part 17. -/
import Derived.Test.YtmamjhmoegjapaaGreatP16
namespace Go.Proofs.YtmamjhmoegjapaaGreat
namespace Av
open Tryz
set_option linter.all false
set_option maxRecDepth 4000
set_option maxHeartbeats 2000000
def CfW (c:Cf):Prop:=c.js.length<=4/\∀j∈c.js,1<=j.ph.length/\j.ph.length<=8
theorem CfW.at {c:Cf} (h:CfW c) {j:Int} (h0:0<=j) (h1:j<((c.js.map wC).length:Int)):1<=(c.js.getD j.toNat default).ph.length/\(c.js.getD j.toNat default).ph.length<=8:=by
 rw[zYq]at h1;refine h.2 _ ?_;rw[zY0,zZd zB,yA1];exact yBm _
def qJ (c:Cf) (e:Dk) (k:Nat):Int:=Int.tmod (nx e 3+k) (max 1 (((c.js.map wC).length:Int)+(nx (ad e) 12).tdiv 11))
def qP (c:Cf) (j:Int):Int:=if j<((c.js.map wC).length:Int)then(((c.js.getD j.toNat default).ph.map vE).length:Int)else 2
theorem JF (x:Int) (h:0<=x/\x<12):0<=x.tdiv 11/\x.tdiv 11<=1/\XB .i64 (x.tdiv 11):=by
 have:x.tdiv 11=x/11:=yAh h.1;rw[this];refine⟨zB,zB,by unfold XB;omega⟩
theorem zGj (a b:Int) (h0:0<=a) (h1:1<=b) (h2:b<=1000):0<=a.tmod b/\a.tmod b<=1000/\XB .i64 (a.tmod b):=by
 have:=yEh b h0;have h3:a.tmod b<b:=yD7 a zB;exact⟨this,zB,by unfold XB;omega⟩
theorem zV6 {c:Cf} (h:CfW c) (e:Dk) (k:Nat):0<=qJ c e k/\qJ c e k<=1000:=by
 have w1:=yD e 3 zB;have w2:=yD (ad e) 12 zB;obtain⟨v2,u2,i2⟩:=JF _ w2;have h1:=h.1;have h2:(c.js.map wC).length=c.js.length:=zYq ..;have:=zGj (nx e 3+k) (max 1 (((c.js.map wC).length:Int)+(nx (ad e) 12).tdiv 11)) zB zB zB;exact⟨this.1,this.2.1⟩
theorem zV7 {c:Cf} (h:CfW c) {j:Int} (h0:0<=j):1<=qP c j/\qP c j<=8:=by
 unfold qP;split
 ·rename_i h1;have:=h.at h0 h1;rw[zYq];omega
 ·omega
def FG (c:Cf) (k:Nat) (l:List Int) (e:Dk):List Int×Dk:=
 (l++[qJ c e k,nx (ad (ad (ad (ad e)))) (qP c (qJ c e k)+(nx (ad (ad (ad e))) 12).tdiv 11),nx (ad (ad e)) 3,nx (ad (ad e)) 3+nx (ad (ad (ad (ad (ad e))))) 50],ad (ad (ad (ad (ad (ad e))))))
def aE (c:Cf) (l:List Int) (d:Dk):Nat->List Int×Dk
 |0=>(l,d)
 |i+1=>FG c i (aE c l d i).1 (aE c l d i).2
def RH (l:List Int):Prop:=∀x∈l,0<=x/\x<=4294967295
theorem RH.app {a b:List Int} (h1:RH a) (h2:RH b):RH (a++b):=λx hx=>(zZa.1 hx).elim (h1 x) (h2 x)
theorem RH.cons {x:Int} {b:List Int} (h1:0<=x/\x<=4294967295) (h2:RH b):RH (x::b):=λy hy=>(zZ5.1 hy).elim (λe=>e▸h1) (h2 y)
theorem RH.nil:RH []:=λx hx=>by cases hx
theorem AH {c:Cf} (hc:CfW c) (l:List Int) (hl:RH l) (d:Dk):∀i,(aE c l d i).1.length=l.length+i*4/\rem (aE c l d i).2<=rem d/\RH (aE c l d i).1
 |0=>⟨rfl,zYs _,hl⟩
 |i+1=>by
  have ih:=AH hc l hl d i
  show(FG c i _ _).1.length=_/\rem (FG c i _ _).2<=_/\RH (FG c i _ _).1
  generalize (aE c l d i).2=e at *;have r1:=wP e;have r2:=wP (ad e);have r3:=wP (ad (ad e));have r4:=wP (ad (ad (ad e)));have r5:=wP (ad (ad (ad (ad e))));have r6:=wP (ad (ad (ad (ad (ad e)))));have j1:=zV6 hc e i;have j2:=zV7 hc j1.1;have w3:=yD (ad (ad e)) 3 zB;have w4:=yD (ad (ad (ad e))) 12 zB;have w6:=yD (ad (ad (ad (ad (ad e))))) 50 zB;obtain⟨v4,u4,_⟩:=JF _ w4;have w5:=yD (ad (ad (ad (ad e)))) (qP c (qJ c e i)+(nx (ad (ad (ad e))) 12).tdiv 11) zB;refine⟨by simp only[FG,zYr,zY2,zZz];omega,by simp only[FG];omega,?_⟩;exact ih.2.2.app (.cons zB (.cons zB (.cons zB (.cons zB .nil))))
theorem zNk (c:Cf) (hc:CfW c) (l:List Int) (hl:l.length<=1000) (hn:RH l) (d:Dk):zO 96 [.ptr 1000 0 0,wJ c,.ref 107 0 (l.map iA).length] [(1000,cG d),(107,.arr 1 (l.map iA) false)] (.ref 107 0 ((aE c l (ad d) (1+(nx d 2).toNat)).1.map iA).length) [(1000,cG (aE c l (ad d) (1+(nx d 2).toNat)).2),(107,.arr 1 ((aE c l (ad d) (1+(nx d 2).toNat)).1.map iA) true)]:=by
 have c1:=yJ d 2 zB zB;have b1:=yD d 2 zB;generalize nx d 2=n at *;generalize ad d=d1 at *;obtain⟨N,hN⟩:∃N:Nat,1+n.toNat=N:=⟨_,rfl⟩;have hN2:1+n=(N:Int):=by omega
 rw[hN];have hjs:=hc.1;have hjl:(c.js.map wC).length=c.js.length:=zYq ..;unfold wJ zD;refine eM call96 λF hF=>?_
 refine zW c1 ?_;refine vZ 107 rfl ?_;refine zP (N) [1000,107,4] [4] [0,4,15] [2,16,0,4,15] rfl (λi T U=>⟨(2,.ref 107 0 ((aE c l d1 i).1.map iA).length)::(16,iA i)::T,(1000,cG (aE c l d1 i).2)::(107,.arr 1 ((aE c l d1 i).1.map iA) true)::U⟩) ?_;(conv=>whnf);refine⟨by rfl,?_,?_⟩
 ·intro i hi;have hl:=(AH hc l hn d1 i).1;have eS:aE c l d1 (i+1)=FG c i (aE c l d1 i).1 (aE c l d1 i).2:=rfl;unfold FG at eS;generalize (aE c l d1 i).1=p at *;generalize (aE c l d1 i).2=e at *;have hi2:(i:Int)<=1:=by omega
  have n1:=yJ e 3 zB zB;have n2:=yJ (ad e) 12 zB zB;have n3:=yJ (ad (ad e)) 3 zB zB;have n4:=yJ (ad (ad (ad e))) 12 zB zB;have w1:=yD e 3 zB;have w2:=yD (ad e) 12 zB;have w3:=yD (ad (ad e)) 3 zB;have w4:=yD (ad (ad (ad e))) 12 zB;obtain⟨v2,u2,i2⟩:=JF _ w2;obtain⟨v4,u4,i4⟩:=JF _ w4;have jb:=zV6 hc e i;have pb:=zV7 hc jb.1;have n5:=yJ (ad (ad (ad (ad e)))) (qP c (qJ c e i)+(nx (ad (ad (ad e))) 12).tdiv 11) zB zB;have n6:=yJ (ad (ad (ad (ad (ad e))))) 50 zB zB;have w6:=yD (ad (ad (ad (ad (ad e))))) 50 zB;generalize hx5:nx (ad (ad (ad (ad e)))) (qP c (qJ c e i)+(nx (ad (ad (ad e))) 12).tdiv 11)=x5 at *;clear hx5;have hat:=λh=>yP wC c.js (qJ c e i) jb.1 h
  have hat2:=λh=>hc.at (c:=c) (j:=qJ c e i) jb.1 h
  have hm:1<=max 1 (((c.js.map wC).length:Int)+(nx (ad e) 12).tdiv 11)/\max 1 (((c.js.map wC).length:Int)+(nx (ad e) 12).tdiv 11)<=1000:=by omega
  have tb:=zGj (nx e 3+i) _ zB hm.1 hm.2;unfold qP at n5 pb;unfold qJ at n5 eS jb hat hat2 pb;rw[eS];clear eS hc;generalize nx (ad (ad (ad (ad (ad e))))) 50=x6 at *;generalize nx (ad (ad (ad e))) 12=x4 at *;generalize nx (ad (ad e)) 3=x3 at *;generalize nx (ad e) 12=x2 at *;generalize nx e 3=x1 at *;generalize ad e=e1 at *;generalize ad e1=e2 at *;generalize ad e2=e3 at *;generalize ad e3=e4 at *;generalize ad e4=e5 at *;generalize ad e5=e6 at *;obtain⟨hm1,hm2⟩:=hm;obtain⟨tb1,tb2,tb3⟩:=tb;by_cases hj:Int.tmod (x1+i) (max 1 (((c.js.map wC).length:Int)+x2.tdiv 11))<((c.js.map wC).length:Int)
  ·rw[zYp hj]at n5 pb;have hy:=hat zB;have hz:=hat2 hj;clear hat hat2;generalize c.js.getD (Int.tmod (x1+i) (max 1 (((c.js.map wC).length:Int)+x2.tdiv 11))).toNat default=J at *;have hpl:(J.ph.map vE).length=J.ph.length:=zYq ..;unfold wC zD at hy;generalize J.ph.map vE=P at *;generalize J.cf.map iA=Cz at *;refine xA (zt6 n1 n2 n3 n4 n5 n6) ?_
   show restr _ _ _=_
   rw[zYz];rfl
  ·rw[zYo hj]at n5 pb;clear hat hat2;refine xA (zt6 n1 n2 n3 n4 n5 n6) ?_
   show restr _ _ _=_
   rw[zYz];rfl
 ·(refine WW ?_)
  exact zJ [1000,107] rfl rfl rfl rfl
def AI (g:Int) (d:Dk):List Int×Dk:=
 if nx d 9=7 then(g::nx (ad d) 4::dS (2000+10*g+nx (ad (ad d)) 3),ad (ad (ad d)))
 else if nx d 9=8 then(nx (ad d) 3::0::dS (1000+nx (ad (ad d)) 3),ad (ad (ad d)))
 else(g::0::dS (1000+g),ad d)
theorem zSi (g:Int) (hg:0<=g/\g<256) (d:Dk):BY (AI g d).1/\rem (AI g d).2<=rem d:=by
 have r1:=wP d;have r2:=wP (ad d);have r3:=wP (ad (ad d));have b1:=yD (ad d) 4 zB;have b2:=yD (ad d) 3 zB;unfold AI;split
 ·exact⟨JR hg zB (ZX _),by dsimp only;omega⟩
 ·split
  ·exact⟨JR zB zB (ZX _),by dsimp only;omega⟩
  ·exact⟨JR hg zB (ZX _),by dsimp only;omega⟩
def zSj (q:Int):Int:=if q=1 then 4 else if q=3 then 7 else 6
theorem zNl (q:Int) (h:0<=q/\q<4):([AV.s (.int .i64 6),AV.s (.int .i64 4),AV.s (.int .i64 6),AV.s (.int .i64 7)]:List AV)[q.toNat]? =some (AV.s (.int .i64 (zSj q))):=by
 have:q=0∨q=1∨q=2∨q=3:=by omega
 rcases this with rfl|rfl|rfl|rfl<;>rfl
def zD0 (k:Int) (d:Dk):Int×Dk:=if nx d 2=0 then(zSj (nx (ad d) 4),ad (ad d))else(k,ad d)
theorem zSk (k:Int) (hk:1<=k/\k<=12) (d:Dk):(1<=(zD0 k d).1/\(zD0 k d).1<=12)/\rem (zD0 k d).2<=rem d:=by
 have r1:=wP d;have r2:=wP (ad d);unfold zD0 zSj;split
 ·refine⟨?_,by dsimp only;omega⟩;dsimp only;split
  ·omega
  ·split<;>omega
 ·exact⟨hk,by dsimp only;omega⟩
def FH (l:List Int) (d:Dk):List Int×Dk:=(l++[nx d 3,nx d 3+nx (ad d) 40],ad (ad d))
def XK (l:List Int) (d:Dk):Nat->List Int×Dk
 |0=>(l,d)
 |i+1=>FH (XK l d i).1 (XK l d i).2
theorem AJ (l:List Int) (hl:RH l) (d:Dk):∀i,(XK l d i).1.length=l.length+i*2/\rem (XK l d i).2<=rem d/\RH (XK l d i).1
 |0=>⟨rfl,zYs _,hl⟩
 |i+1=>by
  have ih:=AJ l hl d i
  show(FH _ _).1.length=_/\rem (FH _ _).2<=_/\RH (FH _ _).1
  generalize (XK l d i).2=e at *;have r1:=wP e;have r2:=wP (ad e);have w1:=yD e 3 zB;have w2:=yD (ad e) 40 zB;refine⟨by simp only[FH,zYr,zY2,zZz];omega,by simp only[FH];omega,?_⟩;exact ih.2.2.app (.cons zB (.cons zB .nil))
def zD1 (q:Int):Int:=if q=0 then 63 else if q=1 then 1 else if q=2 then 3 else if q=3 then 47 else 64
def zD2 (q:Int):Int:=if q=0 then 0 else if q=1 then 5 else if q=2 then 30 else 700
theorem zNm (q:Int) (h:0<=q/\q<5):([AV.s (.int .i64 63),AV.s (.int .i64 1),AV.s (.int .i64 3),AV.s (.int .i64 47),AV.s (.int .i64 64)]:List AV)[q.toNat]? =some (AV.s (.int .i64 (zD1 q))):=by
 have:q=0∨q=1∨q=2∨q=3∨q=4:=by omega
 rcases this with rfl|rfl|rfl|rfl|rfl<;>rfl
theorem zNn (q:Int) (h:0<=q/\q<4):([AV.s (.int .i64 0),AV.s (.int .i64 5),AV.s (.int .i64 30),AV.s (.int .i64 700)]:List AV)[q.toNat]? =some (AV.s (.int .i64 (zD2 q))):=by
 have:q=0∨q=1∨q=2∨q=3:=by omega
 rcases this with rfl|rfl|rfl|rfl<;>rfl
def zD3 (cf:Cf) (k c:Int) (d:Dk):List Int×Dk:=
 if k=2 then([zD1 (nx d 5),nx (ad d) 5,zD2 (nx (ad (ad d)) 4)],ad (ad (ad d)))
 else if k=3∨k=8∨k=5∨k=10∨k=11 then([nx d 4],ad d)
 else if k=4 then([nx d 4,c],ad d)
 else if k=6 then aE cf [nx d 4,nx (ad d) 4,1+nx (ad (ad d)) (60-1+1)] (ad (ad (ad (ad d)))) (1+(nx (ad (ad (ad d))) 2).toNat)
 else if k=7 then XK [nx d 4] (ad (ad d)) (1+(nx (ad d) 2).toNat)
 else([],d)
theorem zGk (g:Int) (d:Dk):(AI g d).1.length=10:=by
 unfold AI;split
 ·simp[jG]
 ·split<;>simp[jG]
theorem zSl {cf:Cf} (hc:CfW cf) (k c:Int) (h0:0<=c/\c<=10) (hk:1<=k/\k<=12) (d:Dk):rem (zD3 cf k c d).2<=rem d/\RH (zD3 cf k c d).1/\∃n:Nat,n<=2/\(uR k≠0->1<=n)/\(zD3 cf k c d).1.length=jQ k+n*uR k:=by
 have r1:=wP d;have r2:=wP (ad d);have r3:=wP (ad (ad d));have r4:=wP (ad (ad (ad d)));have w1:=yD d 4 zB;have w2:=yD (ad d) 4 zB;have w3:=yD (ad (ad d)) (60-1+1) zB;have w4:=yD (ad (ad (ad d))) 2 zB;have w5:=yD (ad d) 2 zB;have w6:=yD (ad d) 5 zB;have g1:0<=zD1 (nx d 5)/\zD1 (nx d 5)<=64:=by unfold zD1;repeat' split;all_goals omega
 have g2:0<=zD2 (nx (ad (ad d)) 4)/\zD2 (nx (ad (ad d)) 4)<=700:=by unfold zD2;repeat' split;all_goals omega
 unfold zD3;split
 ·rename_i h;subst h;exact⟨by dsimp only;omega,.cons zB (.cons zB (.cons zB .nil)),0,zB,λh=>absurd rfl h,rfl⟩
 split
 ·rename_i h
  refine⟨by dsimp only;omega,.cons zB .nil,0,zB,λh2=>?_,?_⟩<;>rcases h with rfl|rfl|rfl|rfl|rfl
  all_goals first|rfl|exact absurd rfl h2
 split
 ·rename_i h;subst h;exact⟨by dsimp only;omega,.cons zB (.cons zB .nil),0,zB,λh=>absurd rfl h,rfl⟩
 split
 ·rename_i h;subst h;obtain⟨p1,p2,p3⟩:=AH hc [nx d 4,nx (ad d) 4,1+nx (ad (ad d)) (60-1+1)] (.cons zB (.cons zB (.cons zB .nil))) (ad (ad (ad (ad d)))) (1+(nx (ad (ad (ad d))) 2).toNat);exact⟨zB,p3,_,zB,λ_=>by omega,p1⟩
 split
 ·rename_i h;subst h;obtain⟨p1,p2,p3⟩:=AJ [nx d 4] (.cons zB .nil) (ad (ad d)) (1+(nx (ad d) 2).toNat);exact⟨zB,p3,_,zB,λ_=>by omega,p1⟩
 ·rename_i h1 h2 h3 h4 h5;have:k=1∨k=9∨k=12:=by omega
  refine⟨zYs _,.nil,0,zB,λh2=>?_,?_⟩<;>rcases this with rfl|rfl|rfl
  all_goals first|rfl|exact absurd rfl h2
structure MgP (m:Ms):Prop where
 t:BY m.tok
 l:m.tok.length=10
 k:1<=m.kind/\m.kind<=12
 n:RH m.args
 c:∃n:Nat,n<=2/\(uR m.kind≠0->1<=n)/\m.args.length=jQ m.kind+n*uR m.kind
 d:m.data=[]
def qcl (cm:Bool) (d:Dk):Int×Dk:=if cm=true then(nx (ad d) 2,ad (ad d))else(nx d 4,ad d)
theorem zV8 (cm:Bool) (d:Dk):(0<=(qcl cm d).1/\(qcl cm d).1<=10)/\rem (qcl cm d).2<=rem d:=by
 have r1:=wP d;have r2:=wP (ad d);have w1:=yD d 4 zB;have w2:=yD (ad d) 2 zB;unfold qcl
 split<;>(refine⟨?_,?_⟩<;>dsimp only<;>omega)
theorem ST (c:Cf) (hc:CfW c) (g:Int) (hg:0<=g/\g<256) (cm:Bool) (d:Dk):∃(m:Ms) (d':Dk),MgP m/\rem d'<=rem d/\zO 48 [.ptr 1000 0 0,wJ c,iA g,bA cm] [(1000,cG d)] (yB m) [(1000,cG d')]:=by
 have c1:=yJ d 12 zB zB;have b1:=yD d 12 zB;have r1:=wP d;have cs0:=eX (1000+g);have cb0:=aP g 0 (dS (1000+g)) (by rw[jG];omega) hg.1 hg.2 zB zB;generalize hx:nx d 12=x at *;generalize ad d=d1 at *;have hT:=zSi g hg d1;have hTl:=zGk g d1;generalize hTe:AI g d1=v at *;obtain⟨tk0,d2⟩:=v;dsimp only at hT hTl;have hK:=zSk (1+x) zB d2;generalize hKe:zD0 (1+x) d2=v at *;obtain⟨k,d3⟩:=v;dsimp only at hK;have hC:=zV8 cm d3;generalize hCe:qcl cm d3=v at *;obtain⟨cl,d4⟩:=v;dsimp only at hC;have hA:=zSl hc k cl hC.1 hK.1 d4;generalize hAe:zD3 c k cl d4=v at *;obtain⟨args,d5⟩:=v;dsimp only at hA;refine⟨⟨k,tk0,args,[]⟩,d5,⟨hT.1,hTl,hK.1,hA.2.1,hA.2.2,rfl⟩,by have:=hT.2;have:=hK.2;have:=hC.2;have:=hA.1;omega,?_⟩;clear hTl;have n9:=yJ d1 9 zB zB;have cqf:=zNk c hc;unfold wJ at *;rw[show zD wC c.js= .sl false (c.js.map wC)from rfl,show zD wN c.ags= .sl false (c.ags.map wN)from rfl]at *; generalize c.js.map wC=JS at *;generalize c.ags.map wN=AGS at *;refine eM call48 λF hF=>?_
 (have zc1:=c1;have zc2:=n9;have zc3:=cs0;have zc4:=cb0;(repeat' (first|refine WZB ?_|refine xR (λhc=>?_) (λhc=>?_)|refine wE (λhc=>?_)|(refine zE ?_;first|refine SM ?_)|fail))<;>clear zc1 zc2 zc3 zc4)
 refine UH [1000,5,8,9] [0,2,3,5,8,9] ⟨[(0,.ptr 1000 0 0),(2,iA g),(3,bA cm),(5,.ptr 5 0 0),(8,.ptr 8 0 0),(9,.ptr 9 0 0)],[(1000,cG d2),(5,.box [.sl false JS,.sl false AGS,iA c.per,iA c.cap,iA c.hold,iA c.lock]),(8,.box [iA 0,.s (.slice none 0 0),.s (.slice none 0 0),.s (.slice none 0 0)]),(9,.box [iA (1+x),zD yA tk0,.s (.slice none 0 0),.s (.slice none 0 0)])]⟩ rfl ?_ ?_
 ·unfold AI at hTe;by_cases h7:nx d1 9=7
  ·rw[zYp h7]at hTe;cases hTe;have n1:=yJ (ad d1) 4 zB zB;have n2:=yJ (ad (ad d1)) 3 zB zB;have w1:=yD (ad d1) 4 zB;have w2:=yD (ad (ad d1)) 3 zB;have cs:=eX (2000+10*g+nx (ad (ad d1)) 3);have cb:=aP g (nx (ad d1) 4) (dS (2000+10*g+nx (ad (ad d1)) 3)) (by rw[jG];omega) hg.1 hg.2 zB zB;clear hT hKe;refine xA (aG n1 n2 cs cb) ?_;exact⟨rfl,rfl⟩
  rw[zYo h7]at hTe;by_cases h8:nx d1 9=8
  ·rw[zYp h8]at hTe;cases hTe;have n1:=yJ (ad d1) 3 zB zB;have n2:=yJ (ad (ad d1)) 3 zB zB;have w1:=yD (ad d1) 3 zB;have w2:=yD (ad (ad d1)) 3 zB;have cs:=eX (1000+nx (ad (ad d1)) 3);have cb:=aP (nx (ad d1) 3) 0 (dS (1000+nx (ad (ad d1)) 3)) (by rw[jG];omega) zB zB zB zB;clear hT hKe;refine xA (aG n1 n2 cs cb) ?_;exact⟨rfl,rfl⟩
  ·rw[zYo h8]at hTe;cases hTe;clear hT hKe;refine WW ?_;exact⟨rfl,rfl⟩
 clear hTe n9 c1 cs0 cb0;have n2:=yJ d2 2 zB zB
 (have zc1:=n2;(repeat' (first|refine WZB ?_|refine xR (λhc=>?_) (λhc=>?_)|refine wE (λhc=>?_)|(refine zE ?_;first|refine SM ?_)|fail))<;>clear zc1)
 refine UH [1000,5,8,9] [0,2,3,5,8,9] ⟨[(0,.ptr 1000 0 0),(2,iA g),(3,bA cm),(5,.ptr 5 0 0),(8,.ptr 8 0 0),(9,.ptr 9 0 0)],[(1000,cG d3),(5,.box [.sl false JS,.sl false AGS,iA c.per,iA c.cap,iA c.hold,iA c.lock]),(8,.box [iA 0,.s (.slice none 0 0),.s (.slice none 0 0),.s (.slice none 0 0)]),(9,.box [iA k,zD yA tk0,.s (.slice none 0 0),.s (.slice none 0 0)])]⟩ rfl ?_ ?_
 ·unfold zD0 at hKe;have n3:=yJ (ad d2) 4 zB zB;have w3:=yD (ad d2) 4 zB;have hy:=zNl _ w3;have hl4:([AV.s (.int .i64 6),AV.s (.int .i64 4),AV.s (.int .i64 6),AV.s (.int .i64 7)]:List AV).length=4:=rfl;clear hAe hCe hK;by_cases h0:nx d2 2=0
  ·rw[zYp h0]at hKe;cases hKe;refine zW n3 (I2 (λhc=>?_) (λhc=>?_))
   all_goals first|(exfalso;omega;done)|exact⟨rfl,rfl⟩
  ·rw[zYo h0]at hKe;cases hKe;refine zW n3 (I2 (λhc=>?_) (λhc=>?_))
   all_goals first|(exfalso;omega;done)|exact⟨rfl,rfl⟩
 clear hKe n2;have c3:=yJ d3 4 zB zB
 (have zc1:=c3;(repeat' (first|refine WZB ?_|refine xR (λhc=>?_) (λhc=>?_)|refine wE (λhc=>?_)|(refine zE ?_;first|refine SM ?_)|fail))<;>clear zc1)
 refine UH [1000,5,8,9] [0,2,3,5,8,9,10] ⟨[(0,.ptr 1000 0 0),(2,iA g),(3,bA cm),(5,.ptr 5 0 0),(8,.ptr 8 0 0),(9,.ptr 9 0 0),(10,iA cl)],[(1000,cG d4),(5,.box [.sl false JS,.sl false AGS,iA c.per,iA c.cap,iA c.hold,iA c.lock]),(8,.box [iA 0,.s (.slice none 0 0),.s (.slice none 0 0),.s (.slice none 0 0)]),(9,.box [iA k,zD yA tk0,.s (.slice none 0 0),.s (.slice none 0 0)])]⟩ rfl ?_ ?_
 ·unfold qcl at hCe;clear hAe;have n2:=yJ (ad d3) 2 zB zB
  cases cm with
  |true=>
   rw[zYp rfl]at hCe;cases hCe;refine zW n2 ?_;exact⟨rfl,rfl⟩
  |false=>
   rw[zYo zZb]at hCe;cases hCe;refine WW ?_;exact⟨rfl,rfl⟩
 clear hCe c3
 (repeat' (first|refine WZC ?_|refine xR (λhc=>?_) (λhc=>?_)|refine wE (λhc=>?_)|(refine zE ?_;first|refine SM ?_)|fail))
 have b4:=yD d4 4 zB;unfold zD3 at hAe;by_cases k2:k=2
 ·rw[zYp k2]at hAe;cases hAe;have n1:=yJ d4 5 zB zB;have n2:=yJ (ad d4) 5 zB zB;have n3:=yJ (ad (ad d4)) 4 zB zB;have w1:=yD d4 5 zB;have w3:=yD (ad (ad d4)) 4 zB;have h1:=zNm _ w1;have h3:=zNn _ w3;have hl5:([AV.s (.int .i64 63),AV.s (.int .i64 1),AV.s (.int .i64 3),AV.s (.int .i64 47),AV.s (.int .i64 64)]:List AV).length=5:=rfl;have hl4:([AV.s (.int .i64 0),AV.s (.int .i64 5),AV.s (.int .i64 30),AV.s (.int .i64 700)]:List AV).length=4:=rfl;generalize zD1 (nx d4 5)=y1 at *;generalize zD2 (nx (ad (ad d4)) 4)=y3 at *;clear hA hK hC hT;refine xA (gK n1 n2 n3) ?_;exact zI [1000] rfl rfl rfl rfl
 rw[zYo k2]at hAe;by_cases k3:k=3∨k=8∨k=5∨k=10∨k=11
 ·rw[zYp k3]at hAe;cases hAe;have n1:=yJ d4 4 zB zB;clear hA hK hC hT
  rcases k3 with h|h|h|h|h<;>((refine zW n1 ?_);exact zI [1000] rfl rfl rfl rfl)
 rw[zYo k3]at hAe;by_cases k4:k=4
 ·rw[zYp k4]at hAe;cases hAe;have n1:=yJ d4 4 zB zB;clear hA hK hC hT;refine zW n1 ?_;exact zI [1000] rfl rfl rfl rfl
 rw[zYo k4]at hAe;by_cases k6:k=6
 ·rw[zYp k6]at hAe;have n1:=yJ d4 4 zB zB;have n2:=yJ (ad d4) 4 zB zB;have n3:=kX (ad (ad d4)) 1 60 zB zB zB;have w1:=yD d4 4 zB;have w2:=yD (ad d4) 4 zB;have w3:=yD (ad (ad d4)) (60-1+1) zB;have cq:=cqf [nx d4 4,nx (ad d4) 4,1+nx (ad (ad d4)) (60-1+1)] zU (.cons zB (.cons zB (.cons zB .nil))) (ad (ad (ad d4)));rw[hAe]at cq;clear cqf;clear hA hK hC hT hAe;generalize 1+nx (ad (ad d4)) (60-1+1)=x3 at *;generalize nx (ad d4) 4=x2 at *;generalize nx d4 4=x1 at *;refine xA (aG n1 n2 n3 cq) ?_;exact zI [1000] rfl rfl (zZl (λz=>AV.agg [iA k,zD yA tk0,.sl false z,zD yA []]) (zYv (l:=args.map iA))) rfl
 rw[zYo k6]at hAe;by_cases k7:k=7
 ·rw[zYp k7]at hAe;have n1:=yJ d4 4 zB zB;have n2:=yJ (ad d4) 2 zB zB;have w2:=yD (ad d4) 2 zB;have w1:=yD d4 4 zB;have hnx:RH [nx d4 4]:= .cons zB .nil;clear w1;clear hA hK hC hT;generalize nx d4 4=x1 at *;generalize nx (ad d4) 2=n at *;generalize ad d4=e4 at *;generalize ad e4=e5 at *;obtain⟨N,hN⟩:∃N:Nat,1+n.toNat=N:=⟨_,rfl⟩;have hN2:1+n=(N:Int):=by omega
  rw[hN]at hAe;refine xA (vD n1 n2) ?_;refine vZ 114 rfl ?_;refine zP (N) [9,1000,114,8] [8] [0,8,9] [11,0,8,9] rfl (λi T U=>⟨(11,iA ((N:Int)-i))::T,(9,.box [iA k,zD yA tk0,.ref 114 0 ((XK [x1] e5 i).1.map iA).length,.s (.slice none 0 0)])::(1000,cG (XK [x1] e5 i).2)::(114,.arr 1 ((XK [x1] e5 i).1.map iA) true)::U⟩) ?_;(conv=>whnf);refine⟨by(rw[show(N:Int)-(0:Nat)=1+n by omega];rfl),?_,?_⟩
  ·intro i hi;have hl:=(AJ [x1] hnx e5 i).1;have eS:XK [x1] e5 (i+1)=FH (XK [x1] e5 i).1 (XK [x1] e5 i).2:=rfl;unfold FH at eS;rw[show((N:Int)-((i+1:Nat):Int))=(N:Int)-i-1 by omega];generalize (XK [x1] e5 i).1=p at *;generalize (XK [x1] e5 i).2=e at *;have hk1:1<=(N:Int)-i:=by omega
   have hk2:(N:Int)-i<=10:=by omega
   have hp:p.length<=100:=by simp at hl;omega
   generalize (N:Int)-i=q at *;have n1:=yJ e 3 zB zB;have n2:=yJ (ad e) 40 zB zB;have w1:=yD e 3 zB;have w2:=yD (ad e) 40 zB;generalize nx (ad e) 40=y2 at *;generalize nx e 3=y1 at *;generalize ad e=e1 at *;generalize ad e1=e2 at *;rw[eS];refine xA (vD n1 n2) ?_
   show restr _ _ _=_
   rw[zYz];rfl
  ·rw[show(N:Int)-(N:Int)=0 by omega,hAe];refine WW ?_;exact zI [1000] rfl rfl (zZl (λz=>AV.agg [iA k,zD yA tk0,.sl false z,zD yA []]) (zYv (l:=args.map iA))) rfl
 ·rw[zYo k7]at hAe;cases hAe;clear hA hK hC hT;refine WW ?_;exact zI [1000] rfl rfl rfl rfl
theorem ZV (k:Int):zO 139 [iA k] [] (bA (decide (1<=k/\k<=12))) []:=by
 cases hb:decide (1<=k/\k<=12)with
 |false=>(rw[zY9]at hb;(refine eM call139 λF hF=>?_);((refine WW (I2 (λhc=>?_) (λhc=>?_))));all_goals (first|exact zL|exact zXO|exact zFB))
 |true=>(rw[zYx]at hb;(refine eM call139 λF hF=>?_);((refine WW ?_));all_goals (first|exact zL|exact zXO|exact zFB))
theorem fO (k:Int):zO 212 [iA k] [] (bA (decide (1<=k/\k<=12))) []:=by
 cases hb:decide (1<=k/\k<=12)with
 |false=>(rw[zY9]at hb;(refine eM call212 λF hF=>?_);((refine WW (I2 (λhc=>?_) (λhc=>?_))));all_goals (first|exact zL|exact zXO|exact zFB))
 |true=>(rw[zYx]at hb;(refine eM call212 λF hF=>?_);((refine WW ?_));all_goals (first|exact zL|exact zXO|exact zFB))
theorem JG (fx gr:Nat) (c:Int):∀(l:List Int) (i:Nat),(BN fx gr c i l).length<=6*l.length
 | [],i=>by simp[BN]
 |x::r,i=>by
  have h1:=JG fx gr c r (i+1);have h2:=fD x;rw[BN,zYr,zYr,zY2]
  have h3:(if i=fx/\gr≠0 then [c]else []).length<=1:=by split<;>simp
  omega
def vmF (gr c:Nat) (d:List Int):Bool:=decide (d.length=0/\(gr=0∨1<=c))
theorem AK (k:Int):uR k=0∨uR k=2∨uR k=4:=by
 unfold uR
 repeat' split
 all_goals omega
theorem AL (k:Int):jQ k<=3:=by
 unfold jQ
 repeat' split
 all_goals omega
theorem zGl (k:Int) (h0:1<=k) (h1:k<=12) (m:Ms) (c:Nat) (hk:m.kind=k) (ht:m.tok.length=10) (hd:m.data.length<=100000) (ha:∀x∈m.args,0<=x/\x<=4294967295) (hc:m.args.length=jQ k+c*uR k) (hc3:c<=3):
  zO 84 [yB m] [] (bA (vmF (uR k) c m.data)) []:=by
 have c1:=zI0 k h0 h1;have c2:=ZV k;have hf:=AL k;rw[zYu ⟨h0,h1⟩]at c2;have c3:=LZ k h0 h1 m c hk ht hd ha (by have:=AK k;rcases this with h|h|h<;>rw[h]at hc<;>omega) (λ_=>hc) hc3
 have hpl:(NC (jQ k) (uR k) c m).length<=10+(6*m.args.length+(1+m.data.length)):=by
  have h1:=JG (jQ k) (uR k) c m.args 0
  have h3:(if uR k≠0/\m.args.length=jQ k then [(0:Int)]else []).length<=1:=by split<;>simp
  unfold NC;rw[zYr,zYr,zYr];omega
 have hlp:=zA yA (NC (jQ k) (uR k) c m);have hg:=AK k;subst hk;generalize NC (jQ m.kind) (uR m.kind) c m=pl at *;generalize jQ m.kind=fx at *;generalize uR m.kind=gr at *;unfold zTp at c1;have hlt:=zA yA m.tok;have hla:=zA iA m.args;have hld:=zA yA m.data
 cases hb:vmF gr c m.data with
 | true=>
  unfold vmF at hb;rw[zYx]at hb;obtain⟨hb1,hb2⟩:=hb
  rcases hg with rfl|rfl|rfl
  ·rw[zYp rfl,zYp rfl]at c1;refine eM call84 λF hF=>?_
   refine xA (vD c1 c2) ?_;refine yS (m.args) [1] [1] [1,97,98] [99,1,97,98] rfl (λi pre T U=>⟨(99,iA i)::T,U⟩) ?_;(conv=>whnf);refine⟨by rfl,?_,?_⟩
   ·intro i pre x post hx hi;have hy:=xO iA hx hi;have hlt2:=yX hx hi;have hxr:=ha x (wY hx);clear hx;refine WW ?_;rfl
   ·(refine zW c3 ?_)
    exact zL
  all_goals
   rw[zYo xN,zYo xN]at c1;have hm2:(((m.args.map iA).length:Int)-(fx:Int)).tmod ((2:Nat):Int)=0:=by rw[yAi zB];omega
   have hm4:(((m.args.map iA).length:Int)-(fx:Int)).tmod ((4:Nat):Int)=(((m.args.map iA).length:Int)-(fx:Int)) % 4:=yAi zB;refine eM call84 λF hF=>?_
   refine xA (vD c1 c2) ?_;refine yS (m.args) [1] [1] [1,97,98] [99,1,97,98] rfl (λi pre T U=>⟨(99,iA i)::T,U⟩) ?_;(conv=>whnf);refine⟨by rfl,?_,?_⟩
   ·intro i pre x post hx hi;have hy:=xO iA hx hi;have hlt2:=yX hx hi;have hxr:=ha x (wY hx);clear hx;refine WW ?_;rfl
   ·(refine zW c3 ?_)
    exact zL
 | false=>
  unfold vmF at hb;rw[zY9]at hb
  rcases hg with rfl|rfl|rfl
  ·rw[zYp rfl,zYp rfl]at c1;have hd0:m.data.length≠0:=λh=>hb ⟨h,.inl rfl⟩
   refine eM call84 λF hF=>?_
   refine xA (vD c1 c2) ?_;exact zL
  all_goals
   rw[zYo xN,zYo xN]at c1;have hm2:(((m.args.map iA).length:Int)-(fx:Int)).tmod ((2:Nat):Int)=0:=by rw[yAi zB];omega
   have hm4:(((m.args.map iA).length:Int)-(fx:Int)).tmod ((4:Nat):Int)=(((m.args.map iA).length:Int)-(fx:Int)) % 4:=yAi zB;by_cases hc1:1<=c
   ·have hd0:m.data.length≠0:=λh=>hb ⟨h,.inr hc1⟩
    refine eM call84 λF hF=>?_
    refine xA (vD c1 c2) ?_;exact zL
   ·(refine eM call84 λF hF=>?_)
    refine xA (vD c1 c2) ?_;exact zL
theorem zD4 (k:Int) (h0:1<=k) (h1:k<=12) (p:List Int) (hb:BY p) (hn:p.length<=100000):yU [iA k,zD yA p] [] (deT k (p.take 10) (dcF (jQ k) (uR k) p)) []:=yG
theorem zD5 (l:List Rq) (q:Int) (hv:aM l) (hq:¬(l.length:Int)<=q):zO 269 [zD yL l,iA q] [] (bA false) []:=by
 have hl:=zA yL l;have h4:=hv.n4;refine eM call269 λF hF=>?_
 refine WW ?_;exact zL
theorem zD6 (l:List Rq) (q id:Int) (v:Vh) (life:Int) (x:List Lg) (now:Int) (hv:aM l) (hq:¬(l.length:Int)<=q):
  zO 268 [zD yL l,iA q,iA id,vQ v,iA life,zD xW x,iA now] [] (.tup [zD yL [],iA 1]) []:=by
 have c1:=zD5 l q hv hq;refine eM call268 λF hF=>?_
 refine zW c1 ?_;exact zL
theorem PD {l:List Rq} {r x:Rq}:x∈aI l r->x=r∨x∈l:=λh=>by
 unfold aI at h
 rcases zZa.1 h with h|h
 ·exact .inr (zZ1 h)
 ·rcases zZ5.1 h with h|h
  ·exact .inl h
  ·exact .inr (zZn h)
theorem zSm {l:List Rq} {q id life now:Int} {v:Vh} {x:List Lg} (hv:aM l) (he:suE l q id life x=0) (v0:0<=v.id) (v1:v.id<=4294967295) (w0:0<=v.cls) (w1:v.cls<=3) (n0:0<=now) (n1:now<=1073741824):aM (aI l (bU id v life x now)):=by
 have h1:0<=id/\id<=4294967295/\1<=life/\life<=600/\vgF x=true:=by
  by_cases h:0<=id/\id<=4294967295/\1<=life/\life<=600/\vgF x=true
  ·exact h
  ·rw[suE,zYp h]at he;cases he
 rw[suE,zYo (λh=>h h1)]at he
 have hh:gI l id=false:=by
  cases h:gI l id with
  |false=>rfl
  |true=>rw[zYp h]at he;cases he
 rw[zYo (by rw[hh];decide)]at he;have hq:¬(q<=l.length∨4<=(l.length:Int)):=λh=>by rw[zYp h]at he;cases he
 have hno:∀r∈l,r.id≠id:=by simpa [gI]using hh
 have hle:=IX l id;refine⟨λr hr=>?_,?_,?_⟩
 ·rcases PD hr with rfl|hr
  ·exact⟨h1.1,h1.2.1,v0,v1,w0,w1,by show 0<=now+life;omega,by show now+life<=2147483648;omega,h1.2.2.2.2⟩
  ·exact hv.ok r hr
 ·have hs:=hv.so;unfold aI
  show((l.take (RB l id))++bU id v life x now::l.drop (RB l id)).Pairwise _
  rw[yCr,yCz];have hs2:=hs;rw[<-yCe (RB l id) l,yCr]at hs2
  have hlo:∀y∈l.take (RB l id),y.id<id:=λy hy=>by
   obtain⟨i,hi,rfl⟩:=yCq.1 hy;rw[zY5]at hi;have:=zIs (l:=l) (id:=id) (i:=i) zB;rw[List.getElem_take];simpa [List.getD,show i<l.length by omega]using this
  have hhi:∀y∈l.drop (RB l id),id<y.id:=λy hy=>by
   have hne:=hno y (zZn hy);by_cases hk:RB l id<l.length
   ·have h2:=zIt hk;rw[yBo hk]at hy;have e:l.getD (RB l id) default=l[RB l id]:=by simp[List.getD,hk]
    rw[e]at h2
    rcases zZ5.1 hy with rfl|hy
    ·omega
    ·have hs3:=hs2.2.1;rw[yBo hk,yCz]at hs3;have:=hs3.1 y hy;omega
   ·rw[yCj zB]at hy;cases hy
  refine⟨hs2.1,⟨hhi,hs2.2.1⟩,λa ha b hb=>?_⟩
  rcases zZ5.1 hb with rfl|hb
  ·exact hlo a ha
  ·have:=hlo a ha;have:=hhi b hb;omega
 ·unfold aI;rw[zYr,zY2,zY5,zZk]
  show min (RB l id) l.length+(l.length-RB l id+1)<=4
  omega
theorem zSn {now:Int} {g:Lg} {p:Int×Int} (hg:JT g=true) (h:okW now g p=true):JT (nwL now g p)=true:=by
 unfold JT at hg;unfold okW mwB at h;rw[zYx]at hg h;unfold JT nwL;rw[zYx];dsimp only;omega
theorem zBs {now:Int}:∀(gs:List Lg) (w:List (Int×Int)) (pre pre':List Lg),pre'.map (·.jn)=pre.map (·.jn)->w.length=gs.length->(gs.zipWith (okW now) w).all id=true->fX pre gs=true->fX pre' (gs.zipWith (nwL now) w)=true
 | [],w,pre,pre',_,_,_,_=>by cases w<;>rfl
 |g::gs,[],pre,pre',_,hl,_,_=>by simp at hl
 |g::gs,p::w,pre,pre',hp,hl,ha,h=>by
  rw[yB8,yEq,zY6]at ha;rw[fX,zY6,zY6]at h;obtain⟨h1,h2,h3⟩:=h;rw[yB8,fX,zY6,zY6];refine⟨zSn h1 ha.1,?_,zBs gs w (pre++[g]) (pre'++[nwL now g p]) (by rw[zYz,zYz,hp];rfl) EK ha.2 h3⟩;have e:∀l:List Lg,(l.any λy=>y.jn==g.jn)=(l.map (·.jn)).any (· ==g.jn):=λl=>by rw[List.any_map];rfl
  show(!(pre'.any λy=>y.jn==g.jn))=true
  rw[e,hp,<-e];exact h2
theorem zSo {l:List Rq} {id now:Int} {w:List (Int×Int)} (hv:aM l) (he:bT l id w now=0):aM (MV l id w now):=by
 have hh:gI l id=true:=by
  cases h:gI l id with
  |true=>rfl
  |false=>rw[bT,zYo (by rw[h];decide)]at he;cases he
 obtain⟨pre,x,post,hL,hx,_,hf,_⟩:=LX hh;rw[bT,zYp hh,hf]at he
 have hw:w.length=x.legs.length/\DD x.legs w now=true:=by
  by_cases h:w.length=x.legs.length/\DD x.legs w now=true
  ·exact h
  ·rw[zYo h]at he;cases he
 have hxo:=hv.ok x (by rw[hL];simp);rw[zCg hL hv hx];have hs:=hv.so;have h4:=hv.n4;rw[hL]at hs h4;rw[yCr,yCz]at hs;refine⟨λr hr=>?_,?_,by simpa using h4⟩
 ·rw[zZa,zZ5]at hr
  rcases hr with hr|rfl|hr
  ·exact hv.ok r (by rw[hL];simp[hr])
  ·refine⟨hxo.i0,hxo.i1,hxo.v0,hxo.v1,hxo.c0,hxo.c1,hxo.t0,hxo.t1,?_⟩;have h1:=JU hxo.lg
   have h2:fX [] x.legs=true:=by
    have:=hxo.lg;rw[vgF,zY6]at this;exact this.2
   unfold vgF;rw[zY6];exact⟨zYu (by rw[yCv];omega),zBs x.legs w [] [] rfl hw.1 hw.2 h2⟩
  ·exact hv.ok r (by rw[hL];simp[hr])
 ·rw[yCr,yCz];refine⟨hs.1,⟨hs.2.1.1,hs.2.1.2⟩,λa ha b hb=>?_⟩
  rcases zZ5.1 hb with rfl|hb
  ·exact hs.2.2 a ha x zU
  ·exact hs.2.2 a ha b (by simp[hb])
theorem JH (r:Rg) (hb:FT r):zO 150 [qG r] [] (qG r) []:=by
 have hs:=hb.s;have hlm:=hb.l;have k1:=wK r.ag.sec zB;have k2:=VH r.ag.lim zB;have hn:=hb.tk.n;have hv:=hb.v;have c2:=XO r.tk zB;have c3:=FR r.vh zB;have hll:=zA xE r.tk;refine eM call150 λF hF=>?_
 refine xA (gK k1 k2 c2) ?_;refine zP ((r.tk.map xE).length) [1001,1,2] [1,2] [1,2,22] [23,1,2,22] rfl (λi T U=>⟨(23,iA i)::T,(1001,.arr 6 (jC i (r.tk.map xE)) false)::U⟩) ?_;(conv=>whnf);refine⟨by rfl,?_,?_⟩
 ·intro i hi;have hi':i<r.tk.length:=by omega
  have hy:(jC i (r.tk.map xE))[i]? =some (xE (r.tk.getD i default)):=zN xE r.tk i hi';have e:=kO xE r.tk i hi';have c2:=wK (r.tk.getD i default).sec (by have:=hb.tk.s (r.tk.getD i default) aH;omega);generalize (r.tk.getD i default)=t at *;generalize jC i (r.tk.map xE)=xs at *;generalize jC (i+1) (r.tk.map xE)=ys at *;subst e;refine zW c2 ?_;rfl
 ·(refine zW c3 ?_)
  exact zI [] rfl rfl (zZl (rgX r) zYv) rfl
structure xQ where
 rg:Rg
 rq:List Rq
 dr:List (List Int)
 au:List Bool
def qV (l:List Int):AV:=zD yA l
def wH (r:Rg) (a b c:AV):AV:= .agg [iA r.num,zD yA r.ag.sec,iA r.ag.rights,iA r.ag.cls,zD iA r.ag.lim,iA r.ag.req,iA r.ag.ses,iA r.ag.rate,iA r.ag.burst,zD xE r.tk,zD vQ r.vh,iA r.bk.level,iA r.bk.rate,iA r.bk.burst,a,b,c]
def zK (d:xQ):AV:=wH d.rg (zD yL d.rq) (zD qV d.dr) (zD bA d.au)
structure eU (d:xQ):Prop where
 rg:FT d.rg
 q:d.rq.length<=1000
 g:∀r∈d.rq,r.legs.length<=1000
 n:d.dr.length<=1000
 e:∀b∈d.dr,b.length<=1000
 a:d.au.length<=1000
theorem XL (l:List Rq) (hl:l.length<=1073741824):zO 151 [zD yL l] [] (.ref 1001 0 (l.map yL).length) [(1001,.arr 5 (l.map yL) false)]:=by
 have hll:=zA yL l;refine eM call151 λF hF=>?_
 refine xD 0 rfl (λcap hx=>?_) ?_
 ·have:l=[]:=by simpa using hx
  subst this
  (repeat' (first|refine AX ?_|refine xR (λhc=>?_) (λhc=>?_)|refine wE (λhc=>?_)|fail))
  refine uB 2 1001 5 rfl rfl rfl (yQ ?_);exact zJ [1001] rfl rfl rfl rfl
 ·repeat' (first|(refine zE ?_;first|refine wZ tok rfl rfl ?_|(refine wS ?_;refine yF (yM tok (.inl ⟨rfl,rfl⟩) rfl rfl rfl rfl) rfl ?_)|(refine yZ ?_;refine uF (nw:=[1001]) (yK tok 1001 (xs:=[]) rfl rfl rfl rfl rfl rfl rfl rfl rfl) rfl rfl rfl ?_)|(refine yW ?_;refine xX tok rfl rfl rfl rfl rfl rfl rfl (yY _ _ (λ_=>rfl)) rfl rfl rfl zB rfl ?_)|refine uM ?_)|(first|refine xM ?_|refine xB ?_|refine wU rfl ?_|refine zV rfl ?_|refine zQ rfl ?_|refine xF rfl (λhc=>?_) (λhc=>?_)|refine yV ?_|refine yQ ?_|refine xC ?_|refine yN ?_))
  exact zJ [1001] rfl rfl rfl rfl
theorem PE (l:List (List Int)) (hl:l.length<=1073741824):zO 153 [zD qV l] [] (.ref 1002 0 (l.map qV).length) [(1002,.arr 1 (l.map qV) false)]:=by
 have hll:=zA qV l;refine eM call153 λF hF=>?_
 refine xD 0 rfl (λcap hx=>?_) ?_
 ·have:l=[]:=by simpa using hx
  subst this
  (repeat' (first|refine AX ?_|refine xR (λhc=>?_) (λhc=>?_)|refine wE (λhc=>?_)|fail))
  refine uB 2 1002 1 rfl rfl rfl (yQ ?_);exact zJ [1002] rfl rfl rfl rfl
 ·repeat' (first|(refine zE ?_;first|refine wZ tok rfl rfl ?_|(refine wS ?_;refine yF (yM tok (.inl ⟨rfl,rfl⟩) rfl rfl rfl rfl) rfl ?_)|(refine yZ ?_;refine uF (nw:=[1002]) (yK tok 1002 (xs:=[]) rfl rfl rfl rfl rfl rfl rfl rfl rfl) rfl rfl rfl ?_)|(refine yW ?_;refine xX tok rfl rfl rfl rfl rfl rfl rfl (yY _ _ (λ_=>rfl)) rfl rfl rfl zB rfl ?_)|refine uM ?_)|(first|refine xM ?_|refine xB ?_|refine wU rfl ?_|refine zV rfl ?_|refine zQ rfl ?_|refine xF rfl (λhc=>?_) (λhc=>?_)|refine yV ?_|refine yQ ?_|refine xC ?_|refine yN ?_))
  exact zJ [1002] rfl rfl rfl rfl
theorem FI (l:List Bool) (hl:l.length<=1073741824):zO 154 [zD bA l] [] (zD bA l) []:=by
 have hll:=zA bA l;refine eM call154 λF hF=>?_
 refine xD 0 rfl (λcap hx=>?_) ?_
 ·have:l=[]:=by simpa using hx
  subst this;refine WW ?_;exact zL
 ·(refine WW ?_)
  refine zI [] rfl rfl (bI _ _) rfl
theorem cQ (d:xQ) (hb:eU d):zO 102 [zK d] [] (zK d) []:=by
 have k1:=JH d.rg hb.rg;have hq:=hb.q;have hdn:=hb.n;have hau:=hb.a;have k2:=XL d.rq zB;have k3:=PE d.dr zB;have k4:=FI d.au zB;have hlq:=zA yL d.rq;have hld:=zA qV d.dr;unfold zK wH;unfold qG at k1;refine eM call102 λF hF=>?_
 refine xA (vD k1 k2) ?_;refine zP ((d.rq.map yL).length) [1001,1,2] [1,2] [1,2,15] [16,1,2,15] rfl (λi T U=>⟨(16,iA i)::T,(1001,.arr 5 (jC i (d.rq.map yL)) false)::U⟩) ?_;(conv=>whnf);refine⟨by rfl,?_,?_⟩
 ·intro i hi;have hi':i<d.rq.length:=by omega
  have hy:(jC i (d.rq.map yL))[i]? =some (yL (d.rq.getD i default)):=zN yL d.rq i hi';have e:=kO yL d.rq i hi';have c2:=cT (d.rq.getD i default).legs (hb.g (d.rq.getD i default) aH);generalize (d.rq.getD i default)=t at *;generalize jC i (d.rq.map yL)=xs at *;generalize jC (i+1) (d.rq.map yL)=ys at *;subst e;refine zW c2 ?_;rfl
 ·(refine zW k3 ?_)
  refine zP ((d.dr.map qV).length) [1002,1,2,1001] [1,2,1001] [1,2,38] [39,1,2,38] rfl (λi T U=>⟨(39,iA i)::T,(1002,.arr 1 (jC i (d.dr.map qV)) false)::U⟩) ?_;(conv=>whnf);refine⟨by rfl,?_,?_⟩
  ·intro i hi;have hi':i<d.dr.length:=by omega
   have hy:(jC i (d.dr.map qV))[i]? =some (qV (d.dr.getD i default)):=zN qV d.dr i hi';have e:=kO qV d.dr i hi';have c2:=wK (d.dr.getD i default) (by have:=hb.e (d.dr.getD i default) aH;omega);generalize (d.dr.getD i default)=t at *;generalize jC i (d.dr.map qV)=xs at *;generalize jC (i+1) (d.dr.map qV)=ys at *;subst e;refine zW c2 ?_;rfl
  ·(refine zW k4 ?_)
   refine zI [] rfl rfl ?_ rfl
   show wH d.rg (.sl false ((d.rq.map yL).take (d.rq.map yL).length)) (.sl false ((d.dr.map qV).take (d.dr.map qV).length)) (zD bA d.au)=_
   rw[zYv,zYv];rfl
theorem jM (d:xQ) (hb:eU d):yU [zK d] [] (zK d) []:=yG
def cR (l:List Vh) (id:Int):Vh:=(l.find? λv=>v.id==id).getD ⟨0,0⟩
def TJ (l:List Vh) (id:Int):Bool:=l.any λv=>v.id==id
theorem zD7 {l pre post:List Vh} {x:Vh} {id:Int} (h:l=pre++x::post) (hn:∀y∈pre,y.id≠id) (hx:x.id=id):cR l id=x/\TJ l id=true:=by
 subst h;have h1:pre.find? (λv=>v.id==id)=none:=yDk.2 λy hy=>by simpa using hn y hy
 refine⟨?_,by simp[TJ,hx]⟩;unfold cR;rw[yEb,h1];simp[hx]
theorem AM {l:List Vh} {id:Int} (hn:∀y∈l,y.id≠id):cR l id=⟨0,0⟩/\TJ l id=false:=by
 have h1:l.find? (λv=>v.id==id)=none:=yDk.2 λy hy=>by simpa using hn y hy
 exact⟨by unfold cR;rw[h1];rfl,by simpa [TJ]using hn⟩
theorem zNo (l:List Vh) (id:Int) (hn:l.length<=1000000):yU [zD vQ l,iA id] [] (.tup [vQ (cR l id),bA (TJ l id)]) []:=yG
def jB (l:List Vh) (c:Int):Nat:=(l.filter λv=>v.cls==c).length
theorem zGm (l:List Vh) (c:Int) (hn:l.length<=1000000):yU [zD vQ l,iA c] [] (iA (jB l c)) []:=yG
def TK (l:List Vh) (i:Nat):Bool:=decide (0<=(l.getD i default).id/\(l.getD i default).id<=4294967295/\0<=(l.getD i default).cls/\(l.getD i default).cls<=3/\(0<i->(l.getD (i-1) default).id<(l.getD i default).id))
def GI (l:List Vh):Bool:=((List.range l.length).all λi=>TK l i)&&decide ((l.length:Int)<=8)
theorem zSp {l:List Vh} {i:Nat} (hi:i<l.length) (h:TK l i=false):GI l=false:=by
 unfold GI;have:((List.range l.length).all λi=>TK l i)=false:=yBp.2 ⟨i,zZi.2 hi,by simp[h]⟩;rw[this];simp
theorem zD8 (l:List Vh) (hn:l.length<=1000000):yU [zD vQ l] [] (bA (GI l)) []:=yG
def gG (k v:Int):Ms:=⟨14,[],[k,v],[]⟩
theorem JJ (k v:Int):zO 216 [iA k,iA v] [] (yB (gG k v)) []:=by
 refine eM call216 λF hF=>?_
 refine WL ?_;exact zL
def JK (l:List Tk):Nat:=(l.filter λt=>!t.used).length
def bY (d:xQ):Ms:=⟨20,[],[(JK d.rg.tk:Int),8-(d.rg.vh.length:Int),d.rg.ag.req-(d.rq.length:Int),d.rg.bk.level],[]⟩
theorem zD9 (pre:List Tk) (x:Tk):JK (pre++[x])=JK pre+(if x.used=true then 0 else 1):=by
 unfold JK;rw[yBz,zYr]
 cases hu:x.used<;>simp[hu]
theorem zNp (d:xQ) (hb:eU d) (h0:0<=d.rg.ag.req) (h1:d.rg.ag.req<=1000):yU [zK d] [] (yB (bY d)) []:=yG
theorem AN (d:xQ) (k now:Int) (hk1:k≠1) (hk9:k≠9) (hb:eU d) (h0:0<=d.rg.ag.req) (h1:d.rg.ag.req<=1000):zO 217 [zK d,iA k,iA now] [] (yB (bY d)) []:=by
 have hq:=hb.q;have hn:=hb.rg.tk.n;have hv:=hb.rg.v;have hlt:=zA xE d.rg.tk;have hlv:=zA vQ d.rg.vh;have hlq:=zA yL d.rq;unfold bY;rw[<-hlv,<-hlq];unfold zK wH;refine eM call217 λF hF=>?_
 refine WW ?_;refine yS (d.rg.tk) [3,6] [3,6] [3,6,45,46] [10,47,3,6,45,46] rfl (λi pre T U=>⟨(10,iA (JK pre))::(47,iA i)::T,U⟩) ?_;(conv=>whnf);refine⟨by rfl,?_,?_⟩
 ·intro i pre x post hx hi;have hy:=xO xE hx hi;have hlt2:=yX hx hi;have hle:JK pre<=i:=by rw[<-hi];exact yAv _ _
  have e:=zD9 pre x;clear hx
  cases hu:x.used with
  |true=>
   rw[hu,zYp rfl,yBi]at e;rw[e];generalize JK pre=m at *;obtain⟨us,sec,par,ri,cl,ti⟩:=x;cases hu;refine WW ?_;rfl
  |false=>
   rw[hu,zYo zZb]at e;rw[e];generalize JK pre=m at *;obtain⟨us,sec,par,ri,cl,ti⟩:=x;cases hu;refine WW ?_;rfl
 ·(refine WL ?_)
  exact zL
def PF (d:xQ) (now:Int):Ms:=⟨13,[],[d.rg.num,now],[]⟩
theorem FJ (d:xQ) (now:Int):zO 217 [zK d,iA 1,iA now] [] (yB (PF d now)) []:=by
 unfold PF zK wH;refine eM call217 λF hF=>?_
 refine WL ?_;exact zL
def fG (l:List Rq):List Int:=(l.map λr=>[r.id,r.til]).flatten
def PG (d:xQ):Ms:=⟨19,[],fG d.rq,[]⟩
theorem AO (pre:List Rq) (x:Rq):(fG (pre++[x])).map iA=(fG pre).map iA++[iA x.id,iA x.til]:=by simp[fG]
theorem TL:∀l:List Rq,(fG l).length=2*l.length
 | []=>rfl
 |x::l=>by
  have:=TL l
  show(x.id::x.til::fG l).length=_
  rw[zY2,zY2,zY2];omega
theorem AP (d:xQ) (now:Int) (hb:eU d):zO 217 [zK d,iA 9,iA now] [] (yB (PG d)) []:=by
 have hq:=hb.q;have hlq:=zA yL d.rq;unfold PG zK wH;refine eM call217 λF hF=>?_
 refine WW ?_;refine vW 7 2 1001 1 rfl rfl rfl rfl rfl ?_;refine yS (d.rq) [7,1001,6] [6] [6,7,26,27] [28,6,7,26,27] rfl (λi pre T U=>⟨(28,iA i)::T,(7,.box [iA 19,.s (.slice none 0 0),.ref 1001 0 ((fG pre).map iA).length,.s (.slice none 0 0)])::(1001,.arr 1 ((fG pre).map iA) true)::U⟩) ?_;(conv=>whnf);refine⟨by rfl,?_,?_⟩
 ·intro i pre x post hx hi;have hy:=xO yL hx hi;have hlt2:=yX hx hi;have hle:=TL pre;have hlm:=zA iA (fG pre);have e:=AO pre x;clear hx;rw[e];generalize (fG pre).map iA=xs at *;refine WW ?_;rfl
 ·(refine WW ?_)
  refine zI [] rfl rfl ?_ rfl
  show AV.agg [iA 19,.sl false [],.sl false (((fG d.rq).map iA).take ((fG d.rq).map iA).length),.sl false []]=_
  rw[zYv];rfl
theorem zNq (l:List Vh) (id:Int) (hn:l.length<=1000000):zO 266 [zD vQ l,iA id] [] (.tup [vQ (cR l id),bA (TJ l id)]) []:=by
 have hl:=zA vQ l;refine eM call266 λF hF=>?_
 refine WW ?_;refine kR (l) [4] [] [1,4,8,9] [10,1,4,8,9] rfl (λi pre T U zs=>(∀y∈pre,y.id≠id)/\zs=⟨(10,iA i)::T,(4,.box [.s (.int .i64 0),.s (.int .i64 0)])::U⟩) ?_;(conv=>whnf);refine⟨?_,?_,?_⟩
 ·exact⟨by simp,rfl⟩
 ·rintro i pre x post st hx hi ⟨hp,rfl⟩;have hy:=xO vQ hx hi;have hlt:=yX hx hi;by_cases he:x.id=id
  ·obtain⟨e1,e2⟩:=zD7 hx hp he;rw[e1,e2];clear hx;refine WW ?_;exact zL
  ·clear hx;refine WW ?_;exact⟨λy hy=>by simp only[zZa,zZu]at hy;rcases hy with hy|rfl;exact hp y hy;exact he,rfl⟩
 ·rintro st ⟨hp,rfl⟩;obtain⟨e1,e2⟩:=AM hp;rw[e1,e2];refine WW ?_;exact zL
theorem zEa (l:List Rq) (q id:Int) (v:Vh) (life:Int) (x:List Lg) (now:Int) (hv:aM l) (hq:(l.length:Int)<=q) (hb:¬((0<=v.id/\v.id<=4294967295)/\(0<=v.cls/\v.cls<=3))):
  zO 268 [zD yL l,iA q,iA id,vQ v,iA life,zD xW x,iA now] [] (.tup [zD yL [],iA 1]) []:=by
 have c1:=VG l q hv hq;have c2:=PL v.id;have c3:=AY v.cls;by_cases h1:0<=v.id/\v.id<=4294967295
 ·have h2:¬(0<=v.cls/\v.cls<=3):=λh=>hb ⟨h1,h⟩
  rw[zYu h1]at c2;rw[zYw h2]at c3;refine eM call268 λF hF=>?_
  refine xA (gK c1 c2 c3) ?_;exact zL
 ·rw[zYw h1]at c2;refine eM call268 λF hF=>?_
  refine xA (vD c1 c2) ?_;exact zL
structure Qd where
 j:Int
 p:Int
 f:Int
 t:Int
def q4 (q:Qd):List Int:=[q.j,q.p,q.f,q.t]
def YR (qs:List Qd):List Int:=(qs.map q4).flatten
def MJ (c:Cf) (now:Int) (q:Qd):Bool:=decide (q.j<(c.js.length:Int))&&(decide (q.p<((c.js.getD q.j.toNat default).ph.length:Int))&&mwB q.j q.p q.f q.t now)
def JL (now:Int) (q:Qd):Lg:=mwF q.j q.p q.f q.t now
def zGn (v:Vh):Bool:=decide ((0<=v.id/\v.id<=4294967295)/\(0<=v.cls/\v.cls<=3))
def sxE (l:List Rq) (q id life:Int) (v:Vh) (x:List Lg):Int:=if(l.length:Int)<=q then(if zGn v=true then suE l q id life x else 1)else 1
def sxL (l:List Rq) (q id life now:Int) (v:Vh) (x:List Lg):List Rq:=if sxE l q id life v x=0 then aI l (bU id v life x now)else []
theorem zX2 (l:List Rq) (q id:Int) (v:Vh) (life:Int) (x:List Lg) (now:Int) (hv:aM l) (n0:0<=now) (n1:now<=1073741824):
  zO 268 [zD yL l,iA q,iA id,vQ v,iA life,zD xW x,iA now] [] (.tup [zD yL (sxL l q id life now v x),iA (sxE l q id life v x)]) []:=by
 unfold sxL sxE;by_cases hq:(l.length:Int)<=q
 ·rw[zYp hq];by_cases hb:(0<=v.id/\v.id<=4294967295)/\(0<=v.cls/\v.cls<=3)
  ·have hv1:zGn v=true:=zYu hb;rw[zYp hv1];exact zIu l q id v life x now hv hq hb.1.1 hb.1.2 hb.2.1 hb.2.2 n0 n1
  ·have hv1:¬zGn v=true:=λh=>hb (yC3 h)
   rw[zYo hv1,zYo xN];exact zEa l q id v life x now hv hq hb
 ·rw[zYo hq,zYo xN];exact zD6 l q id v life x now hv hq
theorem QA:∀qs:List Qd,(YR qs).length=4*qs.length
 | []=>rfl
 |x::l=>by
  have:=QA l
  show(x.j::x.p::x.f::x.t::YR l).length=_
  simp only[zY2];omega
theorem zNr (a b:List Qd):YR (a++b)=YR a++YR b:=by simp[YR]
theorem zGo (x y z:Int) (pre post:List Qd) (i:Nat) (hi:pre.length=i):(x::y::z::YR (pre++post)).drop (3+4*i)=YR post:=by
 rw[zNr,show 3+4*i=4*i+1+1+1 by omega,yB6,yB6,yB6,yCf (by rw[QA];omega),yC1 (by rw[QA];omega),yA9]
theorem ZW {α:Type} {l:List α} {n:Nat} {r:List α} (h:l.drop n=r) (k:Nat):l[n+k]? =r[k]? :=by rw[<-h,yAj]
theorem zV9 (x y z:Int) (pre post:List Qd) (q:Qd) (I:Int) (hI:I=3+4*(pre.length:Int)):
  ((x::y::z::YR (pre++q::post)).map iA)[I.toNat]? =some (iA q.j)/\((x::y::z::YR (pre++q::post)).map iA)[(I+1).toNat]? =some (iA q.p)/\((x::y::z::YR (pre++q::post)).map iA)[(I+2).toNat]? =some (iA q.f)/\((x::y::z::YR (pre++q::post)).map iA)[(I+3).toNat]? =some (iA q.t):=by
 have h:=zGo x y z pre (q::post) pre.length rfl
 refine⟨?_,?_,?_,?_⟩<;>rw[zYt]
 ·rw[show I.toNat=3+4*pre.length+0 by omega,ZW h];rfl
 ·rw[show(I+1).toNat=3+4*pre.length+1 by omega,ZW h];rfl
 ·rw[show(I+2).toNat=3+4*pre.length+2 by omega,ZW h];rfl
 ·rw[show(I+3).toNat=3+4*pre.length+3 by omega,ZW h];rfl
def AQ (c:Cf) (d:xQ) (cls id v life now:Int) (qs:List Qd):Int:=
 if TJ d.rg.vh v=true then(if cls<(cR d.rg.vh v).cls then 17 else if qs.all (MJ c now)=true then sxE d.rq d.rg.ag.req id life (cR d.rg.vh v) (qs.map (JL now))else 8)else 12
def dsL (c:Cf) (d:xQ) (cls id v life now:Int) (qs:List Qd):List Rq:=
 if AQ c d cls id v life now qs=0 then aI d.rq (bU id (cR d.rg.vh v) life (qs.map (JL now)) now)else []
theorem zSq {α:Type} {p:α->Bool} {pre post:List α} {x:α} (h:p x=false):¬(pre++x::post).all p=true:=by
 simp[h]
theorem zEb (c:Cf) (d:xQ) (id v life slot now:Int) (qs:List Qd) (hb:eU d) (hv:aM d.rq) (s0:0<=slot) (s1:slot<(d.rg.tk.length:Int)) (hq:qs.length<=3) (hp:∀q∈qs,0<=q.j/\0<=q.p) (n0:0<=now) (n1:now<=1073741824):
  zO 238 [wJ c,zK d,zD iA (id::v::life::YR qs),iA slot,iA now] [] (.tup [zD yL (dsL c d (d.rg.tk.getD slot.toNat default).cls id v life now qs),iA (AQ c d (d.rg.tk.getD slot.toNat default).cls id v life now qs)]) []:=by
 have hfv:=zNq d.rg.vh v (by have:=hb.rg.v;omega);have hlt:=zA xE d.rg.tk;have hyt:=yP xE d.rg.tk slot s0 s1;have hsx:=zX2 d.rq d.rg.ag.req id (cR d.rg.vh v) life (qs.map (JL now)) now hv n0 n1;have hll:((id::v::life::YR qs).map iA).length=3+4*qs.length:=by simp[QA];omega
 have hlj:=zA wC c.js;have hnt:=hb.rg.tk.n;unfold dsL AQ;unfold wJ zK wH;generalize (d.rg.tk.getD slot.toNat default)=t at *;rw[show xE t= .agg [bA t.used,zD yA t.sec,iA t.par,iA t.rights,iA t.cls,iA t.til]from rfl]at hyt;generalize TJ d.rg.vh v=hv1 at*
 cases hv1 with
 |false=>
  rw[zYo zZb,zYo xN];refine eM call238 λF hF=>?_
  refine zW hfv ?_;exact zL
 |true=>
 rw[zYp rfl];generalize cR d.rg.vh v=vh at *;unfold vQ at hfv hsx;by_cases hcl:t.cls<vh.cls
 ·rw[zYp hcl,zYo xN];refine eM call238 λF hF=>?_
  refine zW hfv ?_;exact zL
 rw[zYo hcl];refine eM call238 λF hF=>?_
 refine zW hfv ?_;refine xK 15 1001 5 rfl rfl rfl ?_;refine gY (qs.length) [1001,5,6,12] [5,6,12] [2,4,5,6,12] [15,16,2,4,5,6,12] rfl (λzn T U zs=>∃(pre:List Qd) (post:List Qd),(qs=pre++post/\zn=post.length/\pre.all (MJ c now)=true)/\zs=⟨(15,.ref 1001 0 (pre.map λq=>xW (JL now q)).length)::(16,iA (3+4*(pre.length:Int)))::T,(1001,.arr 5 (pre.map λq=>xW (JL now q)) true)::U⟩) ?_;(conv=>whnf);refine⟨?_,?_⟩
 ·exact⟨[],qs,⟨rfl,rfl,rfl⟩,rfl⟩
 ·rintro zn st ⟨pre,post,⟨hqs,hzn,hok⟩,rfl⟩;have hln:qs.length=pre.length+post.length:=by rw[hqs,zYr]
  have hpl:=zA (λq=>xW (JL now q)) pre
  cases post with
  |nil=>
   rw[zZo]at hqs;subst hqs;rw[zYp hok];rw[zZz]at hln hzn;have e1:(qs.map λq=>xW (JL now q))=(qs.map (JL now)).map xW:=by rw[yC4];rfl
   unfold sxL at hsx;rw[e1]at *; generalize qs.map (JL now)=ls at *;generalize sxE d.rq d.rg.ag.req id life vh ls=e at *;generalize aI d.rq (bU id vh life ls now)=il at *;generalize hI:3+4*(qs.length:Int)=I at *;rw[show(id::v::life::YR qs).map iA=iA id::iA v::iA life::(YR qs).map iA from rfl]at *; generalize (YR qs).map iA=A at *;refine WD ?_;refine uQ [5,6,12] [2,4,5,6,12,15] rfl ?_
   (conv=>whnf)
   simp only[zZv,zYv];refine zW hsx ?_;exact zL
  | cons q post=>
   have hpq:=hp q (by rw[hqs];simp);obtain⟨y0,y1,y2,y3⟩:=zV9 id v life pre post q _ rfl;rw[<-hqs]at y0 y1 y2 y3;rw[zY2]at hln hzn;have hno:MJ c now q=false->¬qs.all (MJ c now)=true:=λh=>by rw[hqs];exact zSq h
   have hyes:MJ c now q=true->(pre++[q]).all (MJ c now)=true:=λh=>by rw[List.all_append,hok,yEq,h];rfl
   have hmp:((pre++[q]).map λq=>xW (JL now q))=(pre.map λq=>xW (JL now q))++[xW (JL now q)]:=by simp
   have hw:=zBv q.j q.p q.f q.t now;rw[show MJ c now q=(decide (q.j<(c.js.length:Int))&&(decide (q.p<((c.js.getD q.j.toNat default).ph.length:Int))&&mwB q.j q.p q.f q.t now))from rfl]at hno hyes;generalize hA:(id::v::life::YR qs).map iA=A at *;have hA2:zD iA (id::v::life::YR qs)= .sl false A:=by rw[<-hA];rfl
   have hI:0<=3+4*(pre.length:Int)/\3+4*(pre.length:Int)+4=3+4*((pre++[q]).length:Int)/\3+4*(pre.length:Int)+3<A.length:=⟨zB,by simp;omega,zB⟩;by_cases g1:q.j<(c.js.length:Int)
   case neg=>
    rw[zYw g1]at hno;rw[zYo (hno rfl),zYo xN];generalize 3+4*(pre.length:Int)=I at *;clear hno hyes hw hmp hqs;refine WW ?_;exact zL
   have hyj:=yP wC c.js q.j hpq.1 g1;rw[zYu g1]at hno hyes;rw[show wC (c.js.getD q.j.toNat default)= .agg [zD vE (c.js.getD q.j.toNat default).ph,zD iA (c.js.getD q.j.toNat default).cf,iA (c.js.getD q.j.toNat default).st]from rfl]at hyj;generalize c.js.getD q.j.toNat default=jn at *;have hlp:=zA vE jn.ph;by_cases g2:q.p<(jn.ph.length:Int)
   case neg=>
    rw[zYw g2]at hno;rw[zYo (hno rfl),zYo xN];generalize 3+4*(pre.length:Int)=I at *;clear hno hyes hw hmp hqs;refine WW ?_;exact zL
   rw[zYu g2]at hno hyes
   cases g3:mwB q.j q.p q.f q.t now with
   |false=>
    rw[g3]at hno hw;rw[zYo zZb]at hw;rw[zYo (hno rfl),zYo xN];generalize 3+4*(pre.length:Int)=I at *;generalize mwF q.j q.p q.f q.t now=lg at *;clear hno hyes hmp hqs;refine zW hw ?_;exact zL
   |true=>
    rw[g3]at hyes hw;rw[zYp rfl]at hw;have hy2:=hyes rfl;obtain⟨hI0,hI1,hI2⟩:=hI;have hfin:qs=(pre++[q])++post:=by rw[hqs];simp
    rw[show mwF q.j q.p q.f q.t now=JL now q from rfl]at hw;generalize JL now q=lg at *;clear hno hyes hqs;generalize hqq:pre++[q]=pq at *;generalize (pre.map λq=>xW (JL now q))=xs at *;generalize 3+4*(pre.length:Int)=I at *;refine zW hw ?_;exact⟨post.length,zB,pq,post,⟨hfin,rfl,hy2⟩,by rw[hmp,<-hI1];rfl⟩
def dkQ (d:xQ) (l:List Rq):xQ:=⟨d.rg,l,d.dr,d.au⟩
theorem AR (c:Cf) (d:xQ) (k:Int) (tkn:List Int) (id v life cls now:Int) (qs:List Qd) (hb:eU d) (hv:aM d.rq) (hq:qs.length<=3) (hp:∀q∈qs,0<=q.j/\0<=q.p) (n0:0<=now) (n1:now<=1073741824):
 yU [wJ c,zK d,yB ⟨k,tkn,id::v::life::YR qs,[]⟩,iA cls,iA now] [] (.tup [zK (dkQ d (if AQ c d cls id v life now qs=0 then dsL c d cls id v life now qs else d.rq)),iA (AQ c d cls id v life now qs)]) []:=yG
end Av
end Go.Proofs.YtmamjhmoegjapaaGreat
