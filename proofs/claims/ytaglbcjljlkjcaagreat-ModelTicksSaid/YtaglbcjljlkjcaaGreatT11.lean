/- Part 11. -/
import Derived.Test.YtaglbcjljlkjcaaGreatT10
namespace Go.Proofs.YtaglbcjljlkjcaaGreat.Av
open Tryz
set_option linter.all false
set_option maxRecDepth 4000
set_option maxHeartbeats 2000000
open List renaming length->ln,getD->oj
open Inhabited renaming default->dd
variable {c:Cf}{f3:Int}{l:List Rq}
def Gy (d:Dk):Dk:=ad (ad (ad (ad d)))
def LU (d:Dk):Nat->List Jn×Dk
 |0=>([],d)
 |i+1=>((LU d i).1++[MG (LU d i).2],K7 (LU d i).2)
def SO (d:Dk) (u:Int):Nat->List Ag×Dk
 |0=>([],d)
 |i+1=>((SO d u i).1++[Cm (SO d u i).2 i u],ad (Kr (SO d u i).2))
theorem OK (d:Dk):∀i,(LU d i).1.length=i
 |0=>rfl
 |i+1=>by simp[LU,OK d i]
theorem cX (d:Dk) (u:Int):∀i,(SO d u i).1.length=i
 |0=>rfl
 |i+1=>by simp[SO,cX d u i]
def G4 (d:Dk) (u:Int) (i:Nat):(SO d u (i+1)).2=ad (Kr (SO d u i).2):=by simp only[SO]
def Mp (d:Dk) (u:Int) (i:Nat):(SO d u (i+1)).1=(SO d u i).1++[Cm (SO d u i).2 i u]:=by simp only[SO]
def J6 (d:Dk):Nat:=(1+nx (Gy d) 2).toNat
def Si (d:Dk):List Jn×Dk:=LU (ad (Gy d)) (J6 d)
def F4 (d:Dk):Nat:=(1+nx (Si d).2 3).toNat
def E4 (d:Dk) (u:Int):List Ag×Dk:=SO (ad (Si d).2) u (F4 d)
def EA (d:Dk) (u:Int):Cf:=⟨(Si d).1,(E4 d u).1,1+nx d (4-1+1),nx (ad d) 4,1+nx (ad (ad d)) (3-1+1),nx (ad (ad (ad d))) 5⟩
def cfD (d:Dk) (u:Int):Dk:=(E4 d u).2
theorem Kp (d:Dk) (u:Int):zM 40 [.ptr 1000 0 0,iA u] [(1000,fI d)] (wH (EA d u)) [(1000,fI (cfD d u))]:=by
 have hn:=yQ (Gy d) 2 zB;have hm:=yQ (Si d).2 3 zB;have en:1+nx (Gy d) 2=(J6 d:Int):=(zE0 zB).symm;have em:1+nx (Si d).2 3=(F4 d:Int):=(zE0 zB).symm;have ej:Si d=LU (ad (Gy d)) (J6 d):=rfl;have eg:E4 d u=SO (ad (Si d).2) u (F4 d):=rfl;have ef:EA d u=⟨(Si d).1,(E4 d u).1,1+nx d (4-1+1),nx (ad d) 4,1+nx (ad (ad d)) (3-1+1),nx (ad (ad (ad d))) 5⟩:=rfl;have ed:cfD d u=(E4 d u).2:=rfl;rw[ef,ed];unfold Gy at *;generalize Si d=jj,E4 d u=gg,J6 d=N,F4 d=M at *;have jc:=λi=>Ic (LU (ad (ad (ad (ad (ad d))))) i).2
 refine eM call40 λF hF=>?_
 (repeat' (first|refine aQ ?_|refine yW (λhc=>?_) λhc=>?_|(apply zG;apply xP;(first|(refine vH 68 ?_;first|refine wJ (zL (jP _ _ _ zB zB zB) Z Z Z Z Z) Z ?_|refine uX (zL (jP _ _ _ zB zB zB) Z Z Z Z Z) Z Z Z ?_|refine aK (zL (jP _ _ _ zB zB zB) Z Z Z Z Z) Z Z Z ?_)|(refine vH 16 ?_;first|refine wJ (zL (yS _ _ zB zB) Z Z Z Z Z) Z ?_|refine uX (zL (yS _ _ zB zB) Z Z Z Z Z) Z Z Z ?_|refine aK (zL (yS _ _ zB zB) Z Z Z Z Z) Z Z Z ?_)))|fail))
 generalize nx d (4-1+1)=S,nx (ad d) 4=U,nx (ad (ad d)) (3-1+1)=V,nx (ad (ad (ad d))) 5=W,nx (ad (ad (ad (ad d)))) 2=O,ad (ad (ad (ad (ad d))))=C at *;refine gJ 5 0 1001 3 Z Z Z Z Z ?_
 refine wQ (λn st=>∃i:Nat,n+i=N/\st=⟨[(0,.ptr 1000 0 0),(1,iA u),(4,.ptr 4 0 0),(5,.ptr 5 0 0),(6,iA (1+O-i))],
   [(1000,fI (LU C i).2),(4,.box [.s (.slice none 0 0),.s (.slice none 0 0),iA 0,iA 0,iA 0,iA 0]),(5,.box [.ref 1001 0 ((LU C i).1.map wK).length,.s (.slice none 0 0),iA (1+S),iA U,iA (1+V),iA W]),(1001,.arr 3 ((LU C i).1.map wK) true)]⟩)
  N [1000,4,5,1001] [0,1,4,5,6] Z ⟨0,rfl,by rw[show 1+O-(0:Nat)=1+O by omega];rfl⟩ ?_
 rintro n st ⟨i,hi,rfl⟩;by_cases I:i<N
 .have A:(LU C (i+1)).1.map wK=(LU C i).1.map wK++[wK (MG (LU C i).2)]:=zBc;have z:(LU C (i+1)).2=K7 (LU C i).2:=rfl;have c:=jc i;have G:=OK C i;generalize L:LU C (i+1)=q' at A z;generalize LU C i=q at *;obtain⟨ql,R⟩:=q;dsimp only at A z G c⊢;generalize MG R=jf,K7 R=jd at *;refine zU c ?_;exact⟨n-1,zB,i+1,zB,by rw[L,A,z,show 1+O-((i+1:Nat):Int)=1+O-i-1 by omega];rfl⟩
 obtain rfl:i=N:=by omega
 have ap:jj.1.length=i:=by rw[ej];exact OK _ _
 rw[<-ej];clear ej jc ef ed;obtain⟨E,Y⟩:=jj;dsimp only at *;have ar:(E.map wK).length=ln E:=by simp
 have ag:=cX (ad Y) u M;have ac:=λk (hk:k<M)=>Bm (SO (ad Y) u k).2 k u zB zB
 rw[<-eg]at ag
 (repeat' (first|refine aQ ?_|refine yW (λhc=>?_) λhc=>?_|(apply zG;apply xP;(first|(refine vH 16 ?_;first|refine wJ (zL (yS _ _ zB zB) Z Z Z Z Z) Z ?_|refine uX (zL (yS _ _ zB zB) Z Z Z Z Z) Z Z Z ?_|refine aK (zL (yS _ _ zB zB) Z Z Z Z Z) Z Z Z ?_)))|fail))
 generalize nx Y 3=n3,ad Y=B at *
 refine kW (st':=⟨[(0,.ptr 1000 0 0),(1,iA u),(4,.ptr 4 0 0),(5,.ptr 5 0 0),(33,iA (1+n3)),(34,iA 0)],
   [(1000,fI B),(4,.box [.s (.slice none 0 0),.s (.slice none 0 0),iA 0,iA 0,iA 0,iA 0]),(5,.box [zE wK E,.s (.slice none 0 0),iA (1+S),iA U,iA (1+V),iA W])]⟩) [1000,4,5] [0,1,4,5,33,34] Z (by
  have e1:zE wK E= .sl false (List.take (E.map wK).length (List.drop 0 (E.map wK))):=by
   rw[zBr,zA8];rfl
  rw[e1]
  rfl) ?_
 refine gJ 5 1 1002 8 Z Z Z Z Z ?_
 refine wQ (λn st=>∃k:Nat,n+k=M/\st=⟨[(0,.ptr 1000 0 0),(1,iA u),(4,.ptr 4 0 0),(5,.ptr 5 0 0),(33,iA (1+n3)),(34,iA k)],
   [(1000,fI (SO B u k).2),(4,.box [.s (.slice none 0 0),.s (.slice none 0 0),iA 0,iA 0,iA 0,iA 0]),(5,.box [zE wK E,.ref 1002 0 ((SO B u k).1.map uK).length,iA (1+S),iA U,iA (1+V),iA W]),(1002,.arr 8 ((SO B u k).1.map uK) true)]⟩)
  M [1000,4,5,1002] [0,1,4,5,33,34] Z ⟨0,rfl,rfl⟩ ?_
 clear n hi I;rintro n st ⟨k,hk,rfl⟩;by_cases I:k<M
 .have A:(SO B u (k+1)).1.map uK=(SO B u k).1.map uK++[uK (Cm (SO B u k).2 k u)]:=by rw[Mp];exact zBc
  have z:(SO B u (k+1)).2=ad (Kr (SO B u k).2):=G4 B u k;have c:=ac k I;have G:=cX B u k;clear ac;generalize L:SO B u (k+1)=q' at A z;generalize SO B u k=q at *;obtain⟨ql,R⟩:=q;dsimp only at A z G c⊢;generalize Cm R k u=jf,ad (Kr R)=jd at *;refine zU c ?_;exact⟨n-1,zB,k+1,zB,by rw[L,A,z];rfl⟩
 obtain rfl:k=M:=by omega
 rw[<-eg];clear eg ac;refine WW ?_;exact zP [1000] Z Z (zBp (λx=>AV.agg [zE wK E,AV.sl false x,iA (1+S),iA U,iA (1+V),iA W]) zA8) Z
def IT (c:Cf):Prop:=ln c.js<=4/\∀j∈c.js,1<=ln j.ph/\j.ph.length<=8
theorem IT.at (h:IT c) {j:Int} (u:0<=j) (h1:j<((c.js.map wK).length:Int)):1<=(c.js.getD j.toNat dd).ph.length/\(c.js.getD j.toNat dd).ph.length<=8:=by grind [IT,wK]
def qJ (c:Cf) (e:Dk) (k:Nat):Int:=Int.tmod (nx e 3+k) (max 1 (((c.js.map wK).length:Int)+(nx (ad e) 12).tdiv 11))
def qP (c:Cf) (j:Int):Int:=if j<((c.js.map wK).length:Int)then(((c.js.getD j.toNat dd).ph.map xN).length:Int)else 2
theorem EB (x:Int) (h:0<=x/\x<12):0<=x.tdiv 11/\x.tdiv 11<=1/\bI .i64 (x.tdiv 11):=by grind [bI]
theorem Jp (a b:Int) (u:0<=a) (h1:1<=b) (h2:b<=1000):0<=a.tmod b/\a.tmod b<=1000/\bI .i64 (a.tmod b):=by
 have:=zGn b u;have z:a.tmod b<b:=zF7 a zB
 grind [bI]
theorem f8 (h:IT c) (e:Dk) (k:Nat):0<=qJ c e k/\qJ c e k<=1000:=by
 have B:=yQ e 3 zB;have w2:=yQ (ad e) 12 zB;obtain⟨A,z,u⟩:=EB _ w2;have h1:=h.1;have h2:(c.js.map wK).length=ln c.js:=zA5 ..;have:=Jp (nx e 3+k) (max 1 (((c.js.map wK).length:Int)+(nx (ad e) 12).tdiv 11)) zB zB zB
 grind [IT,Dk,qJ]
theorem d8 (h:IT c) {j:Int} (u:0<=j):1<=qP c j/\qP c j<=8:=by grind [IT,qP]
def Wa (c:Cf) (k:Nat) (l:List Int) (e:Dk):List Int×Dk:=
 (l++[qJ c e k,nx (ad (ad (ad (ad e)))) (qP c (qJ c e k)+(nx (ad (ad (ad e))) 12).tdiv 11),nx (ad (ad e)) 3,nx (ad (ad e)) 3+nx (ad (ad (ad (ad (ad e))))) 50],ad (ad (ad (ad (ad (ad e))))))
def ZD (c:Cf) (l:List Int) (d:Dk):Nat->List Int×Dk
 |0=>(l,d)
 |i+1=>Wa c i (ZD c l d i).1 (ZD c l d i).2
def RW (l:List Int):Prop:=∀x∈l,0<=x/\x<=4294967295
theorem RW.app {a b:List Int} (h1:RW a) (h2:RW b):RW (a++b):=λx u=>(zBq.1 u).elim (h1 x) (h2 x)
theorem RW.cons {x:Int} {b:List Int} (h1:0<=x/\x<=4294967295) (h2:RW b):RW (x::b):=λy u=>(zCt.1 u).elim (λe=>e▸h1) (h2 y)
theorem RW.nil:RW []:=λx u=>by cases u
theorem Gd (hc:IT c) (l:List Int) (hl:RW l) (d:Dk):∀i,(ZD c l d i).1.length=ln l+i*4/\rem (ZD c l d i).2<=rem d/\RW (ZD c l d i).1
 |0=>⟨rfl,zBa _,hl⟩
 |i+1=>by
  have u:=Gd hc l hl d i
  show(Wa c i _ _).1.length=_/\rem (Wa c i _ _).2<=_/\RW (Wa c i _ _).1
  generalize (ZD c l d i).2=e at *;have A:=vG e;have B:=vG (ad e);have C:=vG (ad (ad e));have E:=vG (ad (ad (ad e)));have G:=vG (ad (ad (ad (ad e))));have I:=vG (ad (ad (ad (ad (ad e)))));have j1:=f8 hc e i;have j2:=d8 hc j1.1;have O:=yQ (ad (ad e)) 3 zB;have z:=yQ (ad (ad (ad e))) 12 zB;have S:=yQ (ad (ad (ad (ad (ad e))))) 50 zB;obtain⟨M,L,_⟩:=EB _ z;have R:=yQ (ad (ad (ad (ad e)))) (qP c (qJ c e i)+(nx (ad (ad (ad e))) 12).tdiv 11) zB;refine⟨by simp only[Wa,zA9,zBj,zCb];omega,by simp only[Wa];omega,?_⟩;exact u.2.2.app (.cons zB (.cons zB (.cons zB (.cons zB .nil))))
theorem Cv (c:Cf) (hc:IT c) (l:List Int) (hl:ln l<=1000) (hn:RW l) (d:Dk):zM 67 [.ptr 1000 0 0,wH c,.ref 107 0 (l.map iA).length] [(1000,fI d),(107,.arr 1 (l.map iA) false)] (.ref 107 0 ((ZD c l (ad d) (1+(nx d 2).toNat)).1.map iA).length) [(1000,fI (ZD c l (ad d) (1+(nx d 2).toNat)).2),(107,.arr 1 ((ZD c l (ad d) (1+(nx d 2).toNat)).1.map iA) true)]:=by
 have c1:=yS d 2 zB zB;have b1:=yQ d 2 zB;generalize nx d 2=n,ad d=z at *;obtain⟨N,hN⟩:∃N:Nat,1+n.toNat=N:=⟨_,rfl⟩;have ac:1+n=(N:Int):=by omega
 rw[hN];have ar:=hc.1;have ap:(c.js.map wK).length=ln c.js:=zA5 ..;unfold wH zE;refine eM call67 λF hF=>?_
 refine zU c1 ?_;refine vS 107 Z ?_;refine zO (N) [1000,107,4] [4] [0,4,15] [2,16,0,4,15] Z (λi T U=>⟨(2,.ref 107 0 ((ZD c l z i).1.map iA).length)::(16,iA i)::T,(1000,fI (ZD c l z i).2)::(107,.arr 1 ((ZD c l z i).1.map iA) true)::U⟩) (Lq ?_ ?_)
 .intro i hi;have hl:=(Gd hc l hn z i).1;have C:ZD c l z (i+1)=Wa c i (ZD c l z i).1 (ZD c l z i).2:=rfl;unfold Wa at C;generalize (ZD c l z i).1=p at *;generalize (ZD c l z i).2=e at *;have ag:(i:Int)<=1:=by omega
  have M:=yS e 3 zB zB;have O:=yS (ad e) 12 zB zB;have R:=yS (ad (ad e)) 3 zB zB;have S:=yS (ad (ad (ad e))) 12 zB zB;have w1:=yQ e 3 zB;have w2:=yQ (ad e) 12 zB;have w3:=yQ (ad (ad e)) 3 zB;have w4:=yQ (ad (ad (ad e))) 12 zB;obtain⟨v2,u2,i2⟩:=EB _ w2;obtain⟨v4,u4,i4⟩:=EB _ w4;have E:=f8 hc e i;have G:=d8 hc E.1;have B:=yS (ad (ad (ad (ad e)))) (qP c (qJ c e i)+(nx (ad (ad (ad e))) 12).tdiv 11) zB zB;have V:=yS (ad (ad (ad (ad (ad e))))) 50 zB zB;have w6:=yQ (ad (ad (ad (ad (ad e))))) 50 zB;generalize L:nx (ad (ad (ad (ad e)))) (qP c (qJ c e i)+(nx (ad (ad (ad e))) 12).tdiv 11)=x5 at *;clear L;have A:=λh=>yF wK c.js (qJ c e i) E.1 h
  have u:=λh=>hc.at (c:=c) (j:=qJ c e i) E.1 h
  have I:1<=max 1 (((c.js.map wK).length:Int)+(nx (ad e) 12).tdiv 11)/\max 1 (((c.js.map wK).length:Int)+(nx (ad e) 12).tdiv 11)<=1000:=by omega
  have tb:=Jp (nx e 3+i) _ zB I.1 I.2;unfold qP at B G;unfold qJ at B C E A u G;rw[C];clear C hc;generalize nx (ad (ad (ad (ad (ad e))))) 50=x6,nx (ad (ad (ad e))) 12=x4,nx (ad (ad e)) 3=x3,nx (ad e) 12=Y,nx e 3=W at *;generalize ad e=e1 at *;generalize ad e1=e2 at *;generalize ad e2=e3 at *;generalize ad e3=e4 at *;generalize ad e4=e5 at *;generalize ad e5=e6 at *;obtain⟨au,av⟩:=I;obtain⟨az,a1,a2⟩:=tb;by_cases hj:Int.tmod (W+i) (max 1 (((c.js.map wK).length:Int)+Y.tdiv 11))<((c.js.map wK).length:Int)
  .rw[zA4 hj]at B G;have hy:=A zB;have hz:=u hj;clear A u;generalize c.js.getD (Int.tmod (W+i) (max 1 (((c.js.map wK).length:Int)+Y.tdiv 11))).toNat dd=J at *;have ax:(J.ph.map xN).length=ln J.ph:=zA5 ..;unfold wK zE at hy;generalize J.ph.map xN=P at *;generalize J.cf.map iA=Cz at *;refine yH (Wb M O R S B V) ?_
   show restr _ _ _=_
   rw[zBc];rfl
  .rw[Os hj]at B G;clear A u;refine yH (Wb M O R S B V) ?_
   show restr _ _ _=_
   rw[zBc];rfl
 ·(refine WW ?_)
  exact zP [1000,107] Z Z Z Z
def Fd (g:Int) (d:Dk):List Int×Dk:=
 if nx d 9=7 then(g::nx (ad d) 4::cO (2000+10*g+nx (ad (ad d)) 3),ad (ad (ad d)))
 else if nx d 9=8 then(nx (ad d) 3::0::cO (1000+nx (ad (ad d)) 3),ad (ad (ad d)))
 else(g::0::cO (1000+g),ad d)
theorem D4 (g:Int) (u:0<=g/\g<256) (d:Dk):BY (Fd g d).1/\rem (Fd g d).2<=rem d:=by grind [Dk,BY,Fd,rem,vG,ad,yQ,yo,OC]
def Bv (q:Int):Int:=if q=1 then 4 else if q=3 then 7 else 6
theorem zw (q:Int) (h:0<=q/\q<4):([AV.s (.int .i64 6),AV.s (.int .i64 4),AV.s (.int .i64 6),AV.s (.int .i64 7)]:List AV)[q.toNat]? =some (AV.s (.int .i64 (Bv q))):=by grind [Bv]
def Ri (k:Int) (d:Dk):Int×Dk:=if nx d 2=0 then(Bv (nx (ad d) 4),ad (ad d))else(k,ad d)
theorem C4 (k:Int) (hk:1<=k/\k<=12) (d:Dk):(1<=(Ri k d).1/\(Ri k d).1<=12)/\rem (Ri k d).2<=rem d:=by grind [Dk,Ri,rem,vG,ad,Bv]
def Va (l:List Int) (d:Dk):List Int×Dk:=(l++[nx d 3,nx d 3+nx (ad d) 40],ad (ad d))
def VT (l:List Int) (d:Dk):Nat->List Int×Dk
 |0=>(l,d)
 |i+1=>Va (VT l d i).1 (VT l d i).2
theorem Ed (l:List Int) (hl:RW l) (d:Dk):∀i,(VT l d i).1.length=ln l+i*2/\rem (VT l d i).2<=rem d/\RW (VT l d i).1
 |0=>⟨rfl,zBa _,hl⟩
 |i+1=>by
  have u:=Ed l hl d i
  show(Va _ _).1.length=_/\rem (Va _ _).2<=_/\RW (Va _ _).1
  generalize (VT l d i).2=e at *;have z:=vG e;have A:=vG (ad e);have B:=yQ e 3 zB;have w2:=yQ (ad e) 40 zB;refine⟨by simp only[Va,zA9,zBj,zCb];omega,by simp only[Va];omega,?_⟩;exact u.2.2.app (.cons zB (.cons zB .nil))
def Qi (q:Int):Int:=if q=0 then 63 else if q=1 then 1 else if q=2 then 3 else if q=3 then 47 else 64
def Dd (q:Int):Int:=if q=0 then 0 else if q=1 then 5 else if q=2 then 30 else 700
def yw (q:Int) (h:0<=q/\q<5):([AV.s (.int .i64 63),AV.s (.int .i64 1),AV.s (.int .i64 3),AV.s (.int .i64 47),AV.s (.int .i64 64)]:List AV)[q.toNat]? =some (AV.s (.int .i64 (Qi q))):=by
 have:q=0\/q=1\/q=2\/q=3\/q=4:=by omega
 rcases this with rfl|rfl|rfl|rfl|rfl<;>rfl
theorem xw (q:Int) (h:0<=q/\q<4):([AV.s (.int .i64 0),AV.s (.int .i64 5),AV.s (.int .i64 30),AV.s (.int .i64 700)]:List AV)[q.toNat]? =some (AV.s (.int .i64 (Dd q))):=by grind [Dd]
def Cd (u:Cf) (k c:Int) (d:Dk):List Int×Dk:=
 if k=2 then([Qi (nx d 5),nx (ad d) 5,Dd (nx (ad (ad d)) 4)],ad (ad (ad d)))
 else if k=3\/k=8\/k=5\/k=10\/k=11 then([nx d 4],ad d)
 else if k=4 then([nx d 4,c],ad d)
 else if k=6 then ZD u [nx d 4,nx (ad d) 4,1+nx (ad (ad d)) (60-1+1)] (ad (ad (ad (ad d)))) (1+(nx (ad (ad (ad d))) 2).toNat)
 else if k=7 then VT [nx d 4] (ad (ad d)) (1+(nx (ad d) 2).toNat)
 else([],d)
theorem Ip (g:Int) (d:Dk):(Fd g d).1.length=10:=by grind [Dk,Fd,gZ]
theorem B4 {u:Cf} (hc:IT u) (k c:Int) (E:0<=c/\c<=10) (hk:1<=k/\k<=12) (d:Dk):rem (Cd u k c d).2<=rem d/\RW (Cd u k c d).1/\∃n:Nat,n<=2/\(wE k≠0->1<=n)/\(Cd u k c d).1.length=vU k+n*wE k:=by
 have M:=vG d;have O:=vG (ad d);have R:=vG (ad (ad d));have S:=vG (ad (ad (ad d)));have U:=yQ d 4 zB;have w2:=yQ (ad d) 4 zB;have V:=yQ (ad (ad d)) (60-1+1) zB;have W:=yQ (ad (ad (ad d))) 2 zB;have Y:=yQ (ad d) 2 zB;have w6:=yQ (ad d) 5 zB;have B:0<=Qi (nx d 5)/\Qi (nx d 5)<=64:=by unfold Qi;repeat' split;all_goals omega
 have C:0<=Dd (nx (ad (ad d)) 4)/\Dd (nx (ad (ad d)) 4)<=700:=by unfold Dd;repeat' split;all_goals omega
 unfold Cd;split
 .rename_i h;subst h;exact⟨by dsimp only;omega,.cons zB (.cons zB (.cons zB .nil)),0,zB,λh=>absurd Z h,rfl⟩
 split
 .rename_i h
  refine⟨by dsimp only;omega,.cons zB .nil,0,zB,λh2=>?_,?_⟩<;>rcases h with rfl|rfl|rfl|rfl|rfl
  all_goals first|rfl|exact absurd Z h2
 split
 .rename_i h;subst h;exact⟨by dsimp only;omega,.cons zB (.cons zB .nil),0,zB,λh=>absurd Z h,rfl⟩
 split
 .grind [IT,Dk,rem,Cd,RW,wE,vU,p2,Gd,nx,ad]
 split
 .rename_i h;subst h;obtain⟨z,p2,A⟩:=Ed [nx d 4] (.cons zB .nil) (ad (ad d)) (1+(nx (ad d) 2).toNat);exact⟨zB,A,_,zB,λ_=>by omega,z⟩
 .rename_i h1 h2 G I L;have:k=1\/k=9\/k=12:=by omega
  refine⟨zBa _,.nil,0,zB,λh2=>?_,?_⟩<;>rcases this with rfl|rfl|rfl
  all_goals first|rfl|exact absurd Z h2
structure A4 (m:Ms):Prop where
 t:BY m.tok
 l:m.tok.length=10
 k:1<=m.kind/\m.kind<=12
 n:RW m.args
 c:∃n:Nat,n<=2/\(wE m.kind≠0->1<=n)/\m.args.length=vU m.kind+n*wE m.kind
 d:m.data=[]
def H6 (u:Bool) (d:Dk):Int×Dk:=if u=true then(nx (ad d) 2,ad (ad d))else(nx d 4,ad d)
theorem p8 (u:Bool) (d:Dk):(0<=(H6 u d).1/\(H6 u d).1<=10)/\rem (H6 u d).2<=rem d:=by
 have z:=vG d;have A:=vG (ad d);have B:=yQ d 4 zB;have w2:=yQ (ad d) 2 zB
 grind [Dk,H6,rem]
theorem YI (c:Cf) (hc:IT c) (g:Int) (hg:0<=g/\g<256) (cm:Bool) (d:Dk):∃(m:Ms) (d':Dk),A4 m/\rem d'<=rem d/\zM 20 [.ptr 1000 0 0,wH c,iA g,bA cm] [(1000,fI d)] (zX m) [(1000,fI d')]:=by
 have c1:=yS d 12 zB zB;have b1:=yQ d 12 zB;have r1:=vG d;have ar:=cE (1000+g);have ag:=YA g 0 (cO (1000+g)) (by rw[gZ];omega) hg.1 hg.2 zB zB;generalize hx:nx d 12=x at *;generalize ad d=B at *;have hT:=D4 g hg B;have ac:=Ip g B;generalize E:Fd g B=v at *;obtain⟨M,d2⟩:=v;dsimp only at hT ac;have O:=C4 (1+x) zB d2;generalize C:Ri (1+x) d2=v at *;obtain⟨k,d3⟩:=v;dsimp only at O;have W:=p8 cm d3;generalize I:H6 cm d3=v at *;obtain⟨cl,A⟩:=v;dsimp only at W;have R:=B4 hc k cl W.1 O.1 A;generalize u:Cd c k cl A=v at *;obtain⟨args,d5⟩:=v;dsimp only at R;refine⟨⟨k,M,args,[]⟩,d5,⟨hT.1,ac,O.1,R.2.1,R.2.2,rfl⟩,by have:=hT.2;have:=O.2;have:=W.2;have:=R.1;omega,?_⟩;clear ac;have n9:=yS B 9 zB zB;have ap:=Cv c hc;unfold wH at *;rw[show zE wK c.js= .sl false (c.js.map wK)from Z,show zE uK c.ags= .sl false (c.ags.map uK)from Z]at *; generalize c.js.map wK=JS,c.ags.map uK=Y at *;refine eM call20 λF hF=>?_
 (have ga:=c1;have ge:=n9;have gn:=ar;have gt:=ag;(repeat' (first|refine AF ?_|apply yW|apply xG|intro hc|(apply zG;first|refine SM ?_)|fail))<;>clear ga ge gn gt)
 refine gY [1000,5,8,9] [0,2,3,5,8,9] ⟨[(0,.ptr 1000 0 0),(2,iA g),(3,bA cm),(5,.ptr 5 0 0),(8,.ptr 8 0 0),(9,.ptr 9 0 0)],[(1000,fI d2),(5,.box [.sl false JS,.sl false Y,iA c.per,iA c.cap,iA c.hold,iA c.lock]),(8,.box [iA 0,.s (.slice none 0 0),.s (.slice none 0 0),.s (.slice none 0 0)]),(9,.box [iA (1+x),zE yA M,.s (.slice none 0 0),.s (.slice none 0 0)])]⟩ rfl ?_ ?_
 .unfold Fd at E;by_cases h7:nx B 9=7
  .rw[zA4 h7]at E;cases E;have L:=yS (ad B) 4 zB zB;have G:=yS (ad (ad B)) 3 zB zB;have w1:=yQ (ad B) 4 zB;have w2:=yQ (ad (ad B)) 3 zB;have cs:=cE (2000+10*g+nx (ad (ad B)) 3);have cb:=YA g (nx (ad B) 4) (cO (2000+10*g+nx (ad (ad B)) 3)) (by rw[gZ];omega) hg.1 hg.2 zB zB;clear hT C;refine yH (cL L G cs cb) ?_;exact⟨rfl,rfl⟩
  rw[Os h7]at E;by_cases h8:nx B 9=8
  .rw[zA4 h8]at E;cases E;have L:=yS (ad B) 3 zB zB;have G:=yS (ad (ad B)) 3 zB zB;have w1:=yQ (ad B) 3 zB;have w2:=yQ (ad (ad B)) 3 zB;have cs:=cE (1000+nx (ad (ad B)) 3);have cb:=YA (nx (ad B) 3) 0 (cO (1000+nx (ad (ad B)) 3)) (by rw[gZ];omega) zB zB zB zB;clear hT C;refine yH (cL L G cs cb) ?_;exact⟨rfl,rfl⟩
  .rw[Os h8]at E;cases E;clear hT C;refine WW ?_;exact⟨rfl,rfl⟩
 clear E n9 c1 ar ag;have G:=yS d2 2 zB zB
 (have ga:=G;(repeat' (first|refine AF ?_|apply yW|apply xG|intro hc|(apply zG;first|refine SM ?_)|fail))<;>clear ga)
 refine gY [1000,5,8,9] [0,2,3,5,8,9] ⟨[(0,.ptr 1000 0 0),(2,iA g),(3,bA cm),(5,.ptr 5 0 0),(8,.ptr 8 0 0),(9,.ptr 9 0 0)],[(1000,fI d3),(5,.box [.sl false JS,.sl false Y,iA c.per,iA c.cap,iA c.hold,iA c.lock]),(8,.box [iA 0,.s (.slice none 0 0),.s (.slice none 0 0),.s (.slice none 0 0)]),(9,.box [iA k,zE yA M,.s (.slice none 0 0),.s (.slice none 0 0)])]⟩ rfl ?_ ?_
 .unfold Ri at C;have n3:=yS (ad d2) 4 zB zB;have w3:=yQ (ad d2) 4 zB;have hy:=zw _ w3;have au:([AV.s (.int .i64 6),AV.s (.int .i64 4),AV.s (.int .i64 6),AV.s (.int .i64 7)]:List AV).length=4:=rfl;clear u I O;by_cases h0:nx d2 2=0
  .rw[zA4 h0]at C;cases C;refine zU n3 (I2 (λhc=>?_) λhc=>?_)
   all_goals first|(exfalso;omega;done)|exact⟨rfl,rfl⟩
  .rw[Os h0]at C;cases C;refine zU n3 (I2 (λhc=>?_) λhc=>?_)
   all_goals first|(exfalso;omega;done)|exact⟨rfl,rfl⟩
 clear C G;have c3:=yS d3 4 zB zB
 (have ga:=c3;(repeat' (first|refine AF ?_|apply yW|apply xG|intro hc|(apply zG;first|refine SM ?_)|fail))<;>clear ga)
 refine gY [1000,5,8,9] [0,2,3,5,8,9,10] ⟨[(0,.ptr 1000 0 0),(2,iA g),(3,bA cm),(5,.ptr 5 0 0),(8,.ptr 8 0 0),(9,.ptr 9 0 0),(10,iA cl)],[(1000,fI A),(5,.box [.sl false JS,.sl false Y,iA c.per,iA c.cap,iA c.hold,iA c.lock]),(8,.box [iA 0,.s (.slice none 0 0),.s (.slice none 0 0),.s (.slice none 0 0)]),(9,.box [iA k,zE yA M,.s (.slice none 0 0),.s (.slice none 0 0)])]⟩ rfl ?_ ?_
 .unfold H6 at I;clear u;have G:=yS (ad d3) 2 zB zB
  cases cm with
  |true=>
   rw[zA4 Z]at I;cases I;refine zU G ?_;exact⟨rfl,rfl⟩
  |false=>
   rw[Os zBl]at I;cases I;refine WW ?_;exact⟨rfl,rfl⟩
 clear I c3
 (repeat' (first|refine O9 ?_|apply yW|apply xG|intro hc|(apply zG;first|refine SM ?_)|fail))
 have b4:=yQ A 4 zB;unfold Cd at u;by_cases k2:k=2
 .rw[zA4 k2]at u;cases u;have L:=yS A 5 zB zB;have G:=yS (ad A) 5 zB zB;have n3:=yS (ad (ad A)) 4 zB zB;have w1:=yQ A 5 zB;have w3:=yQ (ad (ad A)) 4 zB;have h1:=yw _ w1;have h3:=xw _ w3;have a2:([AV.s (.int .i64 63),AV.s (.int .i64 1),AV.s (.int .i64 3),AV.s (.int .i64 47),AV.s (.int .i64 64)]:List AV).length=5:=rfl;have au:([AV.s (.int .i64 0),AV.s (.int .i64 5),AV.s (.int .i64 30),AV.s (.int .i64 700)]:List AV).length=4:=rfl;generalize Qi (nx A 5)=y1,Dd (nx (ad (ad A)) 4)=y3 at *;clear R O W hT;refine yH (qL L G n3) ?_;exact zI [1000] Z Z Z Z
 rw[Os k2]at u;by_cases k3:k=3\/k=8\/k=5\/k=10\/k=11
 .rw[zA4 k3]at u;cases u;have L:=yS A 4 zB zB;clear R O W hT
  rcases k3 with h|h|h|h|h<;>((refine zU L ?_);exact zI [1000] Z Z Z Z)
 rw[Os k3]at u;by_cases k4:k=4
 .rw[zA4 k4]at u;cases u;have L:=yS A 4 zB zB;clear R O W hT;refine zU L ?_;exact zI [1000] Z Z Z Z
 rw[Os k4]at u;by_cases k6:k=6
 .rw[zA4 k6]at u;have L:=yS A 4 zB zB;have G:=yS (ad A) 4 zB zB;have n3:=jP (ad (ad A)) 1 60 zB zB zB;have w1:=yQ A 4 zB;have w2:=yQ (ad A) 4 zB;have w3:=yQ (ad (ad A)) (60-1+1) zB;have cq:=ap [nx A 4,nx (ad A) 4,1+nx (ad (ad A)) (60-1+1)] zW (.cons zB (.cons zB (.cons zB .nil))) (ad (ad (ad A)));rw[u]at cq;clear ap;clear R O W hT u;generalize 1+nx (ad (ad A)) (60-1+1)=x3,nx (ad A) 4=x2,nx A 4=S at *;refine yH (cL L G n3 cq) ?_;exact zI [1000] Z Z (zBp (λz=>AV.agg [iA k,zE yA M,.sl false z,zE yA []]) (zA8 (l:=args.map iA))) Z
 rw[Os k6]at u;by_cases k7:k=7
 .rw[zA4 k7]at u;have L:=yS A 4 zB zB;have G:=yS (ad A) 2 zB zB;have w2:=yQ (ad A) 2 zB;have w1:=yQ A 4 zB;have av:RW [nx A 4]:= .cons zB .nil;clear w1;clear R O W hT;generalize nx A 4=S at *;generalize nx (ad A) 2=n at *;generalize ad A=e4 at *;generalize ad e4=V at *;obtain⟨N,hN⟩:∃N:Nat,1+n.toNat=N:=⟨_,rfl⟩;have ax:1+n=(N:Int):=by omega
  rw[hN]at u;refine yH (xU L G) ?_;refine vS 114 Z ?_;refine zO (N) [9,1000,114,8] [8] [0,8,9] [11,0,8,9] Z (λi T U=>⟨(11,iA ((N:Int)-i))::T,(9,.box [iA k,zE yA M,.ref 114 0 ((VT [S] V i).1.map iA).length,.s (.slice none 0 0)])::(1000,fI (VT [S] V i).2)::(114,.arr 1 ((VT [S] V i).1.map iA) true)::U⟩) ?_;(conv=>whnf);refine⟨by(rw[show(N:Int)-(0:Nat)=1+n by omega];rfl),?_,?_⟩
  .intro i hi;have hl:=(Ed [S] av V i).1;have eS:VT [S] V (i+1)=Va (VT [S] V i).1 (VT [S] V i).2:=rfl;unfold Va at eS;rw[show((N:Int)-((i+1:Nat):Int))=(N:Int)-i-1 by omega];generalize (VT [S] V i).1=p at *;generalize (VT [S] V i).2=e at *;have az:1<=(N:Int)-i:=by omega
   have a1:(N:Int)-i<=10:=by omega
   have hp:ln p<=100:=by simp at hl;omega
   generalize (N:Int)-i=q at *;have L:=yS e 3 zB zB;have G:=yS (ad e) 40 zB zB;have w1:=yQ e 3 zB;have w2:=yQ (ad e) 40 zB;generalize nx (ad e) 40=y2,nx e 3=y1 at *;generalize ad e=e1 at *;generalize ad e1=e2 at *;rw[eS];refine yH (xU L G) ?_
   show restr _ _ _=_
   rw[zBc];rfl
  .rw[show(N:Int)-(N:Int)=0 by omega,u];refine WW ?_;exact zI [1000] Z Z (zBp (λz=>AV.agg [iA k,zE yA M,.sl false z,zE yA []]) (zA8 (l:=args.map iA))) Z
 .rw[Os k7]at u;cases u;clear R O W hT;refine WW ?_;exact zI [1000] Z Z Z Z
def cY (k:Int):zM 142 [iA k] [] (bA (decide (1<=k/\k<=12))) []:=by
 cases hb:decide (1<=k/\k<=12)with
 |false=>(rw[zBh]at hb;(refine eM call142 λF hF=>?_);((refine WW (I2 (λhc=>?_) λhc=>?_)));all_goals (first|exact zH|exact MJ|exact OA))
 |true=>(rw[zBb]at hb;(refine eM call142 λF hF=>?_);((refine WW ?_));all_goals (first|exact zH|exact MJ|exact OA))
def dI (k:Int):zM 266 [iA k] [] (bA (decide (1<=k/\k<=12))) []:=by
 cases hb:decide (1<=k/\k<=12)with
 |false=>(rw[zBh]at hb;(refine eM call266 λF hF=>?_);((refine WW (I2 (λhc=>?_) λhc=>?_)));all_goals (first|exact zH|exact MJ|exact OA))
 |true=>(rw[zBb]at hb;(refine eM call266 λF hF=>?_);((refine WW ?_));all_goals (first|exact zH|exact MJ|exact OA))
theorem EC (u z:Nat) (c:Int):∀(l:List Int) (i:Nat),(ZC u z c i l).length<=6*ln l
 | [],i=>by simp[ZC]
 |x::r,i=>by
  have h1:=EC u z c r (i+1);have h2:=gD x;rw[ZC,zA9,zA9,zBj]
  have A:(if i=u/\z≠0 then [c]else []).length<=1:=by split<;>simp
  omega
def Dr (u c:Nat) (d:List Int):Bool:=decide (ln d=0/\(u=0\/1<=c))
theorem ED (k:Int):wE k=0\/wE k=2\/wE k=4:=by grind [wE]
theorem EE (k:Int):vU k<=3:=by grind [vU]
theorem LF (k:Int) (E:1<=k) (h1:k<=12) (m:Ms) (c:Nat) (hk:m.kind=k) (ht:ln m.tok=10) (hd:ln m.data<=100000) (G:∀x∈m.args,0<=x/\x<=4294967295) (hc:ln m.args=vU k+c*wE k) (L:c<=3):
  zM 69 [zX m] [] (bA (Dr (wE k) c m.data)) []:=by
 have u:=Jc k E h1;have A:=cY k;have hf:=EE k;rw[zA7 ⟨E,h1⟩]at A;have V:=XA k E h1 m c hk ht hd G (by have:=ED k;rcases this with h|h|h<;>rw[h]at hc<;>omega) (λ_=>hc) L
 have ax:(dO (vU k) (wE k) c m).length<=10+(6*ln m.args+(1+ln m.data)):=by
  have h1:=EC (vU k) (wE k) c m.args 0
  have h3:(if wE k≠0/\m.args.length=vU k then [(0:Int)]else []).length<=1:=by split<;>simp
  unfold dO;rw[zA9,zA9,zA9];omega
 have au:=zA yA (dO (vU k) (wE k) c m);have W:=ED k;subst hk;generalize dO (vU m.kind) (wE m.kind) c m=pl at *;generalize vU m.kind=B at *;generalize wE m.kind=Y at *;unfold Kc at u;have av:=zA yA m.tok;have ap:=zA iA m.args;have ar:=zA yA m.data
 cases hb:Dr Y c m.data with
 | true=>
  unfold Dr at hb;rw[zBb]at hb;obtain⟨ac,ag⟩:=hb
  rcases W with rfl|rfl|rfl
  .rw[zA4 Z,zA4 Z]at u;refine eM call69 λF hF=>?_
   refine yH (xU u A) ?_;refine zQ (m.args) [1] [1] [1,97,98] [99,1,97,98] Z (λi f4 T U=>⟨(99,iA i)::T,U⟩) (Lq ?_ ?_)
   .intro i f4 x post z hi;have hy:=zZ iA z hi;have C:=zV z hi;have S:=G x (yU z);clear z;refine WW ?_;rfl
   .exact mx V
  all_goals
   rw[Os xA,Os xA]at u;have O:(((m.args.map iA).length:Int)-(B:Int)).tmod ((2:Nat):Int)=0:=by rw[zCf zB];omega
   have R:(((m.args.map iA).length:Int)-(B:Int)).tmod ((4:Nat):Int)=(((m.args.map iA).length:Int)-(B:Int)) % 4:=zCf zB;refine eM call69 λF hF=>?_
   refine yH (xU u A) ?_;refine zQ (m.args) [1] [1] [1,97,98] [99,1,97,98] Z (λi f4 T U=>⟨(99,iA i)::T,U⟩) (Lq ?_ ?_)
   .intro i f4 x post z hi;have hy:=zZ iA z hi;have C:=zV z hi;have S:=G x (yU z);clear z;refine WW ?_;rfl
   .exact mx V
 | false=>
  unfold Dr at hb;rw[zBh]at hb
  rcases W with rfl|rfl|rfl
  .rw[zA4 Z,zA4 Z]at u;have M:ln m.data≠0:=λh=>hb ⟨h,.inl Z⟩
   refine eM call69 λF hF=>?_
   exact mt (xU u A)
  all_goals
   rw[Os xA,Os xA]at u;have O:(((m.args.map iA).length:Int)-(B:Int)).tmod ((2:Nat):Int)=0:=by rw[zCf zB];omega
   have R:(((m.args.map iA).length:Int)-(B:Int)).tmod ((4:Nat):Int)=(((m.args.map iA).length:Int)-(B:Int)) % 4:=zCf zB;by_cases I:1<=c
   .have M:ln m.data≠0:=λh=>hb ⟨h,.inr I⟩
    refine eM call69 λF hF=>?_
    exact mt (xU u A)
   ·(refine eM call69 λF hF=>?_)
    exact mt (xU u A)
theorem LG:∀l:List Int,((l.map jS).flatten).length<=5*ln l
 | []=>by simp
 |x::l=>by
  have h1:=LG l;have h2:=gD x;rw[zCn,zD2,zA9,zBj];omega
theorem Hp (u:Nat) (c:Int):∀(l:List Int) (i:Nat),ZC u 0 c i l=(l.map jS).flatten
 | [],i=>rfl
 |x::l,i=>by
  rw[ZC,Hp u c l (i+1),Os (λh=>h.2 Z)];rfl
theorem Gp (u z:Nat) (c:Int):∀(l:List Int) (i:Nat),u<i->ZC u z c i l=(l.map jS).flatten
 | [],i,_=>rfl
 |x::l,i,h=>by
  rw[ZC,Gp u z c l (i+1) zB,Os (λh2=>by omega)];rfl
theorem EF (u z:Nat) (c:Int) (B:z≠0) (f:List Int) (A:f≠[]):∀(a:List Int) (i:Nat),i+ln a=u->ZC u z c i (a++f)=(a.map jS).flatten++([c]++(f.map jS).flatten)
 | [],i,h=>by
  cases f with
  |nil=>exact absurd Z A
  |cons x f=>
   have hi:i=u:=by simpa using h
   rw[zEf,ZC,zA4 ⟨hi,B⟩,Gp u z c f (i+1) zB];rfl
 |x::a,i,h=>by
  rw[zEk,ZC,EF u z c B f A a (i+1) (by rw[zBj]at h;omega),Os (λh2=>by rw[zBj]at h;omega),zEf,zCn,zD2,zBx]
theorem Pi (k:Int) (h0:1<=k) (h1:k<=12) (p:List Int) (hb:BY p) (hn:ln p<=100000):zM 191 [iA k,zE yA p] [] (O6 k (p.take 10) (MF (vU k) (wE k) p)) []:=by
 have hl:=zA yA p;have I:=Jc k h0 h1;have V:=cY k;rw[zA7 ⟨h0,h1⟩]at V;have hf:=EE k;have hg:=ED k;by_cases a7:ln p<10
 .rw[show MF (vU k) (wE k) p=none from zA4 (.inr a7)]
  show zM 191 [iA k,zE yA p] [] (.tup [zX ⟨0,[],[],[]⟩,iA 6]) []
  unfold Kc at I;refine eM call191 λF hF=>?_
  exact mt (xU I V)
 have a3:BY (p.drop 10):=λy hy=>hb y (zCd hy)
 have bb:(p.drop 10).length<=100000:=by rw[zB5];omega
 have bu:((p.take 10).map yA).length=10:=by rw[zA5,zBt];omega
 have b3:((p.take (10:Int).toNat).map yA).length=10:=bu;have R:=VL (p.drop 10) (vU k) a3 bb zB
 cases u:XP (vU k) (p.drop 10)with
 | none=>
  have e:MF (vU k) (wE k) p=none:=by
   unfold MF;rw[u]
   split<;>rfl
  rw[e];rw[u]at R
  show zM 191 [iA k,zE yA p] [] (.tup [zX ⟨0,[],[],[]⟩,iA 6]) []
  unfold mf at R;unfold Kc at I;refine eM call191 λF hF=>?_
  (have ga:=I;have ge:=V;have gn:=R;(repeat' (first|refine uQ ?_|apply yW|apply xG|intro hc|(apply zG;first|(apply yD;refine gQ tok Z Z Z Z Z Z (yM _ _ (λ_=>rfl)) Z Z Z zB Z Z Z ?_))|fail))<;>clear ga ge gn)
  exact zH
 |some q=>
 obtain⟨a,r⟩:=q;obtain⟨ha,a4,au,E⟩:=bF _ _ _ _ a3 u;have b5:=LG a
 have br:ln p=10+(((a.map jS).flatten).length+ln r):=by
  have:=zBp List.length E;rw[zA9,zB5]at this;omega
 have z:p=p.take 10++((a.map jS).flatten++r):=by rw[<-E,zEv]
 have b8:=zA yA r;have b6:=zA iA a;have a1:ln r<=100000:=by omega
 rw[u]at R;unfold mf at R
 rcases Nat.eq_zero_or_pos (wE k)with O|O
 .have U:=LF k h0 h1 ⟨k,p.take 10,a,r⟩ 0 Z JN a1 au (by rw[O];exact ha) zB;have v2:=XA k h0 h1 ⟨k,p.take 10,a,r⟩ 0 Z JN a1 au (by show (ln a)<=1000;omega) (λh=>absurd O h) zB;rw[O]at U v2 I⊢;unfold Kc at I;by_cases hr:r=[]
  .subst hr
   have e:MF (vU k) 0 p=some a:=by
    unfold MF;rw[Os (by rw[zCb]at br;omega),u];rfl
   have e2:dO (vU k) 0 0 ⟨k,p.take 10,a,[]⟩=p:=by
    unfold dO;rw[Hp]
    conv=>rhs;rw[z]
    simp
   rw[e];rw[show((0:Nat):Int)=0 from Z,e2]at v2;rw[show Dr 0 0 ([]:List Int)=true from Z]at U;have bd:=xS p;clear e2 z u E
   show zM 191 [iA k,zE yA p] [] (.tup [zX ⟨k,p.take 10,a,[]⟩,iA 0]) []
   generalize vU k=fx at *;refine eM call191 λF hF=>?_
   (have ga:=I;have ge:=V;have gn:=R;have gt:=U;have ic:=v2;(repeat' (first|refine uQ ?_|apply yW|apply xG|intro hc|(apply zG;first|(apply yD;first|(refine vX [4,6,7] [0,1,4,5,6,7,93] Z ?_;(conv=>whnf);(try simp only[zBr,zA8]);refine kX tok Z Z Z Z Z Z (yM _ _ (λ_=>rfl)) Z Z Z zB Z ?_)|refine gQ tok Z Z Z Z Z Z (yM _ _ (λ_=>rfl)) Z Z Z zB Z Z Z ?_))|fail))<;>clear ga ge gn gt ic)
   exact zH
  .have bs:ln r≠0:=λh=>hr (zB4 h)
   have e:MF (vU k) 0 p=none:=by
    unfold MF;rw[u];split
    .rfl
    .show(if(0:Nat)=0 then(if r=[]then some a else none)else _)=none
     rw[zA4 Z,Os hr]
   rw[e];rw[show Dr 0 0 r=false from zA6 (λh=>bs h.1)]at U;clear v2 z u E
   show zM 191 [iA k,zE yA p] [] (.tup [zX ⟨0,[],[],[]⟩,iA 6]) []
   generalize vU k=fx at *;refine eM call191 λF hF=>?_
   (have ga:=I;have ge:=V;have gn:=R;have gt:=U;(repeat' (first|refine uQ ?_|apply yW|apply xG|intro hc|(apply zG;first|(apply yD;first|(refine vX [4,6,7] [0,1,4,5,6,7,93] Z ?_;(conv=>whnf);(try simp only[zBr,zA8]);refine kX tok Z Z Z Z Z Z (yM _ _ (λ_=>rfl)) Z Z Z zB Z ?_)|refine gQ tok Z Z Z Z Z Z (yM _ _ (λ_=>rfl)) Z Z Z zB Z Z Z ?_))|fail))<;>clear ga ge gn gt)
   exact zH
 have bl:wE k<=4:=by omega
 have Y:=VL r 1 a4 a1 zB;unfold Kc at I;rw[Os zB,Os zB]at I
 cases A:XP 1 r with
 | none=>
  have e:MF (vU k) (wE k) p=none:=by
   unfold MF;rw[u];split
   .rfl
   .show(if wE k=0 then _ else match XP 1 r with|none=>none|some (c,r2)=>_)=none
    rw[Os zB,A]
  rw[e];rw[A]at Y;unfold mf at Y
  show zM 191 [iA k,zE yA p] [] (.tup [zX ⟨0,[],[],[]⟩,iA 6]) []
  clear z u E A e;generalize vU k=fx,wE k=gr at *;refine eM call191 λF hF=>?_
  (have ga:=I;have ge:=V;have gn:=R;have gt:=Y;(repeat' (first|refine uQ ?_|apply yW|apply xG|intro hc|(apply zG;first|(apply yD;first|(refine vX [4,6,7] [0,1,4,5,6,7,93] Z ?_;(conv=>whnf);(try simp only[zBr,zA8]);refine kX tok Z Z Z Z Z Z (yM _ _ (λ_=>rfl)) Z Z Z zB Z ?_)|refine gQ tok Z Z Z Z Z Z (yM _ _ (λ_=>rfl)) Z Z Z zB Z Z Z ?_))|fail))<;>clear ga ge gn gt)
  exact zH
 |some q2=>
 obtain⟨c,r2⟩:=q2;obtain⟨a5,ap,ba,B⟩:=bF _ _ _ _ a4 A
 obtain⟨v,rfl⟩:∃v,c=[v]:=by
  cases c with
  |nil=>cases a5
  |cons v c=>cases c with
   |nil=>exact⟨v,rfl⟩
   |cons w c=>simp at a5
 have bx:=(ba v zW).1
 have a8:ln r2<=100000:=by
  have:=zBp List.length B;rw[zA9]at this;omega
 rw[A]at Y;unfold mf at Y
 have eD:¬(200<ln p\/p.length<10)->MF (vU k) (wE k) p=if v<1\/3<v then none else match XP (v.toNat*wE k) r2 with
   |none=>none
   |some (f,W)=>if W=[]then some (a++f)else none:=λh=>by
  unfold MF;rw[Os h,u]
  show(if wE k=0 then _ else match XP 1 r with|none=>none|some (c,r2)=>_)=_
  rw[Os zB,A];rfl
 by_cases bz:3<v
 .have e:MF (vU k) (wE k) p=none:=by
   by_cases h:200<ln p\/p.length<10
   .exact zA4 h
   .rw[eD h,zA4 (.inr bz)]
  rw[e]
  show zM 191 [iA k,zE yA p] [] (.tup [zX ⟨0,[],[],[]⟩,iA 6]) []
  clear z u E A e eD B;generalize vU k=fx,wE k=gr at *;refine eM call191 λF hF=>?_
  (have ga:=I;have ge:=V;have gn:=R;have gt:=Y;(repeat' (first|refine uQ ?_|apply yW|apply xG|intro hc|(apply zG;first|(apply yD;first|(refine vX [4,6,7] [0,1,4,5,6,7,93] Z ?_;(conv=>whnf);(try simp only[zBr,zA8]);refine kX tok Z Z Z Z Z Z (yM _ _ (λ_=>rfl)) Z Z Z zB Z ?_)|refine gQ tok Z Z Z Z Z Z (yM _ _ (λ_=>rfl)) Z Z Z zB Z Z Z ?_))|fail))<;>clear ga ge gn gt)
  exact zH
 have a2:v.toNat*wE k<=12:=zB9 (zDw (show v.toNat<=3 by omega) bl) xA;have M:((v.toNat*wE k:Nat):Int)=v*(wE k:Int):=by rw[zFr,zE0 zB]
 have c4:=VL r2 (v.toNat*wE k) ap a8 zB;have hm:0<=v*(wE k:Int)/\v*(wE k:Int)<=12:=by rw[<-M];omega
 cases C:XP (v.toNat*wE k) r2 with
 | none=>
  have e:MF (vU k) (wE k) p=none:=by
   by_cases h:200<ln p\/p.length<10
   .exact zA4 h
   .rw[eD h,C]
    split<;>rfl
  rw[e];rw[C,M]at c4;unfold mf at c4
  show zM 191 [iA k,zE yA p] [] (.tup [zX ⟨0,[],[],[]⟩,iA 6]) []
  clear z u E A e eD B C M a2;generalize vU k=fx,wE k=gr at *;refine eM call191 λF hF=>?_
  (have ga:=I;have ge:=V;have gn:=R;have gt:=Y;have ic:=c4;(repeat' (first|refine uQ ?_|apply yW|apply xG|intro hc|(apply zG;first|(apply yD;first|(refine vX [4,6,7] [0,1,4,5,6,7,93] Z ?_;(conv=>whnf);(try simp only[zBr,zA8]);refine kX tok Z Z Z Z Z Z (yM _ _ (λ_=>rfl)) Z Z Z zB Z ?_)|refine gQ tok Z Z Z Z Z Z (yM _ _ (λ_=>rfl)) Z Z Z zB Z Z Z ?_))|fail))<;>clear ga ge gn gt ic)
  exact zH
 |some q3=>
 obtain⟨f,W⟩:=q3;obtain⟨G,b0,bk,L⟩:=bF _ _ _ _ ap C;have b7:=zA iA f;have b1:ln f<=12:=by omega
 have b2:=zA yA W
 have ar:ln W<=100000:=by
  have:=zBp List.length L;rw[zA9]at this;omega
 rw[C,M]at c4;unfold mf at c4;have S:(a++f).length=vU k+v.toNat*wE k:=by rw[zA9,ha,G]
 have ag:∀x∈a++f,0<=x/\x<=4294967295:=λx hx=>by
  rcases zBq.1 hx with h|h
  .exact au x h
  .exact bk x h
 have U:=LF k h0 h1 ⟨k,p.take 10,a++f,W⟩ v.toNat Z JN ar ag S zB;have v2:=XA k h0 h1 ⟨k,p.take 10,a++f,W⟩ v.toNat Z JN ar ag (by show(a++f).length<=1000;omega) (λ_=>S) zB
 have ac:∀t:List Int,zX ⟨k,t,a++f,W⟩= .agg [iA k,zE yA t,.sl false (a.map iA++f.map iA),zE yA W]:=λt=>by
  rw[<-zBc];rfl
 rw[ac]at U v2;by_cases av:W=[]/\1<=v
 .obtain⟨rfl,a9⟩:=av;have b4:=LG f;have a6:jS v=[v]:=VM zB
  have az:r=[v]++(f.map jS).flatten:=by
   rw[B,L,zB1];simp[a6]
  have bf:f≠[]:=λh=>by
   rw[h]at G;have:0<v.toNat*wE k:=Nat.mul_pos zB O;simp at G;omega
  have e2:dO (vU k) (wE k) (v.toNat:Int) ⟨k,p.take 10,a++f,[]⟩=p:=by
   unfold dO;rw[Os (λh=>by have:=h.2;rw[S]at this;have h3:0<v.toNat*wE k:=Nat.mul_pos zB O;omega)]
   show(p.take 10++ZC (vU k) (wE k) (v.toNat:Int) 0 (a++f))++([]++[])=p
   rw[EF _ _ _ zB f bf a 0 zB,zE0 bx,zB1,zB1,<-az];exact z.symm
  have ax:¬(200<ln p\/p.length<10):=by
   have:=zBp List.length az;rw[zA9,zDa]at this;omega
  have e:MF (vU k) (wE k) p=some (a++f):=by
   rw[eD ax,Os zB,C];rfl
  rw[e];rw[e2]at v2;rw[show Dr (wE k) v.toNat ([]:List Int)=true from zA7 ⟨rfl,.inr zB⟩]at U;have bd:=xS p
  show zM 191 [iA k,zE yA p] [] (.tup [zX ⟨k,p.take 10,a++f,[]⟩,iA 0]) []
  rw[ac];clear z u E A e eD B C M a2 e2 az a6 ac S G L;generalize vU k=fx,wE k=gr at *;refine eM call191 λF hF=>?_
  (have ga:=I;have ge:=V;have gn:=R;have gt:=Y;have ic:=c4;have kj:=U;have lc:=v2;(repeat' (first|refine uQ ?_|apply yW|apply xG|intro hc|(apply zG;first|(apply yD;first|(refine vX [4,6,7] [0,1,4,5,6,7,93] Z ?_;(conv=>whnf);(try simp only[zBr,zA8]);refine kX tok Z Z Z Z Z Z (yM _ _ (λ_=>rfl)) Z Z Z zB Z ?_)|refine gQ tok Z Z Z Z Z Z (yM _ _ (λ_=>rfl)) Z Z Z zB Z Z Z ?_))|fail))<;>clear ga ge gn gt ic kj lc)
  exact zH
 .have e:MF (vU k) (wE k) p=none:=by
   by_cases h:200<ln p\/p.length<10
   .exact zA4 h
   .rw[eD h];by_cases a9:v<1
    .rw[zA4 (.inl a9)]
    .rw[Os zB,C];exact Os λh3=>av ⟨h3,zB⟩
  rw[e]
  rw[show Dr (wE k) v.toNat W=false from zA6 (λh=>by
   rcases h with⟨h3,h4⟩
   exact av ⟨zB4 h3,zB⟩)]at U
  show zM 191 [iA k,zE yA p] [] (.tup [zX ⟨0,[],[],[]⟩,iA 6]) []
  clear z u E A e eD B C M a2 ac S G L v2;generalize vU k=fx,wE k=gr at *;refine eM call191 λF hF=>?_
  (have ga:=I;have ge:=V;have gn:=R;have gt:=Y;have ic:=c4;have kj:=U;(repeat' (first|refine uQ ?_|apply yW|apply xG|intro hc|(apply zG;first|(apply yD;first|(refine vX [4,6,7] [0,1,4,5,6,7,93] Z ?_;(conv=>whnf);(try simp only[zBr,zA8]);refine kX tok Z Z Z Z Z Z (yM _ _ (λ_=>rfl)) Z Z Z zB Z ?_)|refine gQ tok Z Z Z Z Z Z (yM _ _ (λ_=>rfl)) Z Z Z zB Z Z Z ?_))|fail))<;>clear ga ge gn gt ic kj)
  exact zH
def Oi (l:List Rq) (q:Int) (hv:cM l) (z:¬(ln l:Int)<=q):zM 354 [zE zY l,iA q] [] (bA false) []:=by
 have hl:=zA zY l;have u:=hv.n4;refine eM call354 λF hF=>?_
 exact ly
def Ad (l:List Rq) (q:Int) (hv:cM l) (W:¬(ln l:Int)<=q):zM 295 [zE zY l,iA q] [] (bA false) []:=by
 have hl:=zA zY l;have V:=hv.n4;refine eM call295 λF hF=>?_
 refine WW ?_;refine zO (ln l) [] [] [0,1,7,8] [9,0,1,7,8] Z (λi T U=>⟨(9,iA i)::T,U⟩) (Lq ?_ ?_)
 .intro i hi;have Y:=zJ zY l i hi;have B:l.getD i dd∈l:=by simp[oj,hi]
  obtain⟨i0,i1,v0,v1,R,S,t0,t1,z⟩:=hv.ok _ B;have C:=wS (l.getD i dd).id 0 4294967295;have E:=wS (l.getD i dd).vh 0 4294967295;have G:=wS (l.getD i dd).cls 0 3;have L:=wS (l.getD i dd).til 0 2147483648;have I:=FC (l.getD i dd).legs (by have:=XB z;omega);rw[zA7 zB]at C E G L;rw[z]at I;by_cases A:0<i
  .have u:=yF zY l ((i:Int)-1) zB zB;rw[show((i:Int)-1).toNat=i-1 by omega]at u;have O:(l.map zY)[((i:Int)-1).toNat]? =some (zY (l.getD (i-1) dd)):=by rw[show((i:Int)-1).toNat=i-1 by omega];exact u
   have M:=hv.lt A hi;clear u B z;generalize l.getD i dd=t,l.getD (i-1) dd=p at *;refine yH (PZ C E G L I) ?_;rfl
  .obtain rfl:i=0:=by omega
   clear B z;generalize l.getD 0 dd=t at *;refine yH (PZ C E G L I) ?_;rfl
 .exact ly
def Ni (l:List Rq) (q id:Int) (v:Vh) (u:Int) (x:List Lg) (f3:Int) (hv:cM l) (A:¬(ln l:Int)<=q):
  zM 353 [zE zY l,iA q,iA id,vA v,iA u,zE yO x,iA f3] [] (.tup [zE zY [],iA 1]) []:=by
 have z:=Oi l q hv A;refine eM call353 λF hF=>?_
 exact mx z
def ze (l:List Rq) (q id:Int) (v:Vh) (u:Int) (x:List Lg) (f3:Int) (hv:cM l) (A:¬(ln l:Int)<=q):
  zM 293 [zE zY l,iA q,iA id,vA v,iA u,zE yO x,iA f3] [] (.tup [zE zY [],iA 1]) []:=by
 have z:=Ad l q hv A;refine eM call293 λF hF=>?_
 exact mx z
def LH {r x:Rq}:x∈fA l r->x=r\/x∈l:=λh=>by
 unfold fA at h
 rcases zBq.1 h with h|h
 .exact .inr (zCz h)
 .rcases zCt.1 h with h|h
  .exact .inl h
  .exact .inr (zCd h)
theorem v5 {q id u:Int} {v:Vh} {x:List Lg} (hv:cM l) (z:PC l q id u x=0) (I:0<=v.id) (L:v.id<=4294967295) (M:0<=v.cls) (O:v.cls<=3) (S:0<=f3) (U:f3<=1073741824):cM (fA l (gO id v u x f3)):=by
 have h1:0<=id/\id<=4294967295/\1<=u/\u<=600/\AH x=true:=by
  grind [PC,fA,gO]
 rw[PC,Os (λh=>h h1)]at z
 have hh:kV l id=false:=by
  grind
 rw[Os CJ]at z;have R:¬(q<=ln l\/4<=(ln l:Int)):=λh=>by rw[zA4 h]at z;cases z
 have E:∀r∈l,r.id≠id:=by simpa [kV]using hh
 have C:=Sd l id;refine⟨λr A=>?_,?_,?_⟩
 .rcases LH A with rfl|A
  .exact⟨h1.1,h1.2.1,I,L,M,O,by show 0<=f3+u;omega,by show f3+u<=2147483648;omega,h1.2.2.2.2⟩
  .exact hv.ok r A
 .have G:=hv.so;unfold fA
  show((l.take (XI l id))++gO id v u x f3::l.drop (XI l id)).Pairwise _
  rw[zFc,zF9];have B:=G;rw[<-zEv (XI l id) l,zFc]at B
  grind [PC,fA,gO,XI,List.mem_iff_getElem,List.length_take,Rd,oj,List.mem_of_mem_drop,Pd,List.drop_eq_getElem_cons,List.pairwise_cons,List.drop_eq_nil_of_le]
 all_goals grind [PC,fA,gO]
theorem u5 {g:Lg} {p:Int×Int} (u:QY g=true) (h:IP f3 g p=true):QY (EX f3 g p)=true:=by grind [QY,IP,EX,EU]
theorem tg :∀(gs:List Lg) (w:List (Int×Int)) (f4 u:List Lg),u.map (·.jn)=f4.map (·.jn)->ln w=ln gs->(gs.zipWith (IP f3) w).all id=true->kS f4 gs=true->kS u (gs.zipWith (EX f3) w)=true
 | [],w,f4,u,_,_,_,_=>by cases w<;>rfl
 |g::gs,[],f4,u,_,hl,_,_=>by simp at hl
 |g::gs,p::w,f4,u,A,hl,z,h=>by
  rw[zEi,zFm,zBe]at z;rw[kS,zBe,zBe]at h;obtain⟨h1,h2,B⟩:=h;rw[zEi,kS,zBe,zBe];refine⟨u5 h1 z.1,?_,tg gs w (f4++[g]) (u++[EX f3 g p]) (by rw[zBc,zBc,A];rfl) CI z.2 B⟩;have e:∀l:List Lg,(l.any λy=>y.jn==g.jn)=(l.map (·.jn)).any (· ==g.jn):=λl=>by rw[List.any_map];rfl
  show(!(u.any λy=>y.jn==g.jn))=true
  rw[e,A,<-e];exact h2
theorem j5 {id:Int} {w:List (Int×Int)} (hv:cM l) (E:fV l id w f3=0):cM (YF l id w f3):=by
 have hh:kV l id=true:=by
  grind [fV,YF]
 obtain⟨f4,x,post,hL,I,_,G,_⟩:=RP hh;rw[fV,zA4 hh,G]at E
 have C:ln w=ln x.legs/\wa x.legs w f3=true:=by
  grind
 have u:=hv.ok x CK;rw[FU hL hv I];have B:=hv.so;have A:=hv.n4;rw[hL]at B A;rw[zFc,zF9]at B;refine⟨λr z=>?_,?_,by simpa using A⟩
 .rw[zBq,zCt]at z
  rcases z with z|rfl|z
  .exact hv.ok r (by rw[hL];simp[z])
  .refine⟨u.i0,u.i1,u.v0,u.v1,u.c0,u.c1,u.t0,u.t1,?_⟩;have h1:=XB u.lg
   have h2:kS [] x.legs=true:=by
    have:=u.lg
    grind [fV,YF,AH]
   unfold AH;rw[zBe];exact⟨zA7 (by rw[List.length_zipWith];omega),tg x.legs w [] [] Z C.1 C.2 h2⟩
  .exact hv.ok r (by rw[hL];simp[z])
 all_goals grind [fV,YF,List.pairwise_cons]
