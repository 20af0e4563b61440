/- Part 11. -/
import Derived.Test.YtaglbcjljlkjcaaGreatX10
namespace Go.Proofs.YtaglbcjljlkjcaaGreat.Av
open Tryz
set_option linter.all false
set_option maxRecDepth 4000
set_option maxHeartbeats 2000000
open List renaming length->ln,getD->pb
open Inhabited renaming default->dd
variable {c:Cf}{f3:Int}{l:List Rq}
def Ey (d:Dk):Dk:=ad (ad (ad (ad d)))
def LW (d:Dk):Nat->List Jn×Dk
 |0=>([],d)
 |i+1=>((LW d i).1++[NS (LW d i).2],K7 (LW d i).2)
def VQ (d:Dk) (u:Int):Nat->List Ag×Dk
 |0=>([],d)
 |i+1=>((VQ d u i).1++[Zj (VQ d u i).2 i u],ad (Ir (VQ d u i).2))
theorem OO (d:Dk):∀i,(LW d i).1.length=i
 |0=>rfl
 |i+1=>by simp[LW,OO d i]
theorem bB (d:Dk) (u:Int):∀i,(VQ d u i).1.length=i
 |0=>rfl
 |i+1=>by simp[VQ,bB d u i]
def J4 (d:Dk) (u:Int) (i:Nat):(VQ d u (i+1)).2=ad (Ir (VQ d u i).2):=by simp only[VQ]
def Ip (d:Dk) (u:Int) (i:Nat):(VQ d u (i+1)).1=(VQ d u i).1++[Zj (VQ d u i).2 i u]:=by simp only[VQ]
def M6 (d:Dk):Nat:=(1+nx (Ey d) 2).toNat
def Qi (d:Dk):List Jn×Dk:=LW (ad (Ey d)) (M6 d)
def G4 (d:Dk):Nat:=(1+nx (Qi d).2 3).toNat
def F4 (d:Dk) (u:Int):List Ag×Dk:=VQ (ad (Qi d).2) u (G4 d)
def IX (d:Dk) (u:Int):Cf:=⟨(Qi d).1,(F4 d u).1,1+nx d (4-1+1),nx (ad d) 4,1+nx (ad (ad d)) (3-1+1),nx (ad (ad (ad d))) 5⟩
def cfD (d:Dk) (u:Int):Dk:=(F4 d u).2
theorem Hp (d:Dk) (u:Int):zO 40 [.ptr 1000 0 0,iA u] [(1000,fI d)] (wD (IX d u)) [(1000,fI (cfD d u))]:=by
 have hn:=yQ (Ey d) 2 zB;have hm:=yQ (Qi d).2 3 zB;have en:1+nx (Ey d) 2=(M6 d:Int):=(zE1 zB).symm;have em:1+nx (Qi d).2 3=(G4 d:Int):=(zE1 zB).symm;have ej:Qi d=LW (ad (Ey d)) (M6 d):=rfl;have eg:F4 d u=VQ (ad (Qi d).2) u (G4 d):=rfl;have ef:IX d u=⟨(Qi d).1,(F4 d u).1,1+nx d (4-1+1),nx (ad d) 4,1+nx (ad (ad d)) (3-1+1),nx (ad (ad (ad d))) 5⟩:=rfl;have ed:cfD d u=(F4 d u).2:=rfl;rw[ef,ed];unfold Ey at *;generalize Qi d=jj,F4 d u=gg,M6 d=N,G4 d=M at *;have jc:=λi=>Vc (LW (ad (ad (ad (ad (ad d))))) i).2
 refine eM call40 λF hF=>?_
 (repeat' (first|refine aK ?_|refine yW (λhc=>?_) λhc=>?_|(apply zG;apply xQ;(first|(refine vJ 68 ?_;first|refine wJ (zL (jK _ _ _ zB zB zB) Z Z Z Z Z) Z ?_|refine qA (zL (jK _ _ _ zB zB zB) Z Z Z Z Z) Z Z Z ?_|refine aO (zL (jK _ _ _ zB zB zB) Z Z Z Z Z) Z Z Z ?_)|(refine vJ 16 ?_;first|refine wJ (zL (yS _ _ zB zB) Z Z Z Z Z) Z ?_|refine qA (zL (yS _ _ zB zB) Z Z Z Z Z) Z Z Z ?_|refine aO (zL (yS _ _ zB zB) Z Z Z Z Z) Z Z Z ?_)))|fail))
 generalize nx d (4-1+1)=S,nx (ad d) 4=U,nx (ad (ad d)) (3-1+1)=V,nx (ad (ad (ad d))) 5=W,nx (ad (ad (ad (ad d)))) 2=O,ad (ad (ad (ad (ad d))))=C at *;refine gL 5 0 1001 3 Z Z Z Z Z ?_
 refine wS (λn st=>∃i:Nat,n+i=N/\st=⟨[(0,.ptr 1000 0 0),(1,iA u),(4,.ptr 4 0 0),(5,.ptr 5 0 0),(6,iA (1+O-i))],
   [(1000,fI (LW C i).2),(4,.box [.s (.slice none 0 0),.s (.slice none 0 0),iA 0,iA 0,iA 0,iA 0]),(5,.box [.ref 1001 0 ((LW C i).1.map wK).length,.s (.slice none 0 0),iA (1+S),iA U,iA (1+V),iA W]),(1001,.arr 3 ((LW C i).1.map wK) true)]⟩)
  N [1000,4,5,1001] [0,1,4,5,6] Z ⟨0,rfl,by rw[show 1+O-(0:Nat)=1+O by omega];rfl⟩ ?_
 rintro n st ⟨i,hi,rfl⟩;by_cases I:i<N
 .have A:(LW C (i+1)).1.map wK=(LW C i).1.map wK++[wK (NS (LW C i).2)]:=zBd;have z:(LW C (i+1)).2=K7 (LW C i).2:=rfl;have c:=jc i;have G:=OO C i;generalize L:LW C (i+1)=q' at A z;generalize LW C i=q at *;obtain⟨ql,R⟩:=q;dsimp only at A z G c⊢;generalize NS R=jf,K7 R=jd at *;refine zS c ?_;exact⟨n-1,zB,i+1,zB,by rw[L,A,z,show 1+O-((i+1:Nat):Int)=1+O-i-1 by omega];rfl⟩
 obtain rfl:i=N:=by omega
 have ap:jj.1.length=i:=by rw[ej];exact OO _ _
 rw[<-ej];clear ej jc ef ed;obtain⟨E,Y⟩:=jj;dsimp only at *;have ar:(E.map wK).length=ln E:=by simp
 have ag:=bB (ad Y) u M;have ac:=λk (hk:k<M)=>bm (VQ (ad Y) u k).2 k u zB zB
 rw[<-eg]at ag
 (repeat' (first|refine aK ?_|refine yW (λhc=>?_) λhc=>?_|(apply zG;apply xQ;(first|(refine vJ 16 ?_;first|refine wJ (zL (yS _ _ zB zB) Z Z Z Z Z) Z ?_|refine qA (zL (yS _ _ zB zB) Z Z Z Z Z) Z Z Z ?_|refine aO (zL (yS _ _ zB zB) Z Z Z Z Z) Z Z Z ?_)))|fail))
 generalize nx Y 3=n3,ad Y=B at *
 refine kY (st':=⟨[(0,.ptr 1000 0 0),(1,iA u),(4,.ptr 4 0 0),(5,.ptr 5 0 0),(33,iA (1+n3)),(34,iA 0)],
   [(1000,fI B),(4,.box [.s (.slice none 0 0),.s (.slice none 0 0),iA 0,iA 0,iA 0,iA 0]),(5,.box [zE wK E,.s (.slice none 0 0),iA (1+S),iA U,iA (1+V),iA W])]⟩) [1000,4,5] [0,1,4,5,33,34] Z (by
  have e1:zE wK E= .sl false (List.take (E.map wK).length (List.drop 0 (E.map wK))):=by
   rw[zBr,zA8];rfl
  rw[e1]
  rfl) ?_
 refine gL 5 1 1002 8 Z Z Z Z Z ?_
 refine wS (λn st=>∃k:Nat,n+k=M/\st=⟨[(0,.ptr 1000 0 0),(1,iA u),(4,.ptr 4 0 0),(5,.ptr 5 0 0),(33,iA (1+n3)),(34,iA k)],
   [(1000,fI (VQ B u k).2),(4,.box [.s (.slice none 0 0),.s (.slice none 0 0),iA 0,iA 0,iA 0,iA 0]),(5,.box [zE wK E,.ref 1002 0 ((VQ B u k).1.map vP).length,iA (1+S),iA U,iA (1+V),iA W]),(1002,.arr 8 ((VQ B u k).1.map vP) true)]⟩)
  M [1000,4,5,1002] [0,1,4,5,33,34] Z ⟨0,rfl,rfl⟩ ?_
 clear n hi I;rintro n st ⟨k,hk,rfl⟩;by_cases I:k<M
 .have A:(VQ B u (k+1)).1.map vP=(VQ B u k).1.map vP++[vP (Zj (VQ B u k).2 k u)]:=by rw[Ip];exact zBd
  have z:(VQ B u (k+1)).2=ad (Ir (VQ B u k).2):=J4 B u k;have c:=ac k I;have G:=bB B u k;clear ac;generalize L:VQ B u (k+1)=q' at A z;generalize VQ B u k=q at *;obtain⟨ql,R⟩:=q;dsimp only at A z G c⊢;generalize Zj R k u=jf,ad (Ir R)=jd at *;refine zS c ?_;exact⟨n-1,zB,k+1,zB,by rw[L,A,z];rfl⟩
 obtain rfl:k=M:=by omega
 rw[<-eg];clear eg ac;refine WW ?_;exact zP [1000] Z Z (zBq (λx=>AV.agg [zE wK E,AV.sl false x,iA (1+S),iA U,iA (1+V),iA W]) zA8) Z
def IY (c:Cf):Prop:=ln c.js<=4/\∀j∈c.js,1<=ln j.ph/\j.ph.length<=8
theorem IY.at (h:IY c) {j:Int} (u:0<=j) (h1:j<((c.js.map wK).length:Int)):1<=(c.js.getD j.toNat dd).ph.length/\(c.js.getD j.toNat dd).ph.length<=8:=by grind [IY,wK]
def qJ (c:Cf) (e:Dk) (k:Nat):Int:=Int.tmod (nx e 3+k) (max 1 (((c.js.map wK).length:Int)+(nx (ad e) 12).tdiv 11))
def qP (c:Cf) (j:Int):Int:=if j<((c.js.map wK).length:Int)then(((c.js.getD j.toNat dd).ph.map xN).length:Int)else 2
theorem EK (x:Int) (h:0<=x/\x<12):0<=x.tdiv 11/\x.tdiv 11<=1/\aG .i64 (x.tdiv 11):=by grind [aG]
theorem Gp (a b:Int) (u:0<=a) (h1:1<=b) (h2:b<=1000):0<=a.tmod b/\a.tmod b<=1000/\aG .i64 (a.tmod b):=by
 have:=zGr b u;have z:a.tmod b<b:=zGb a zB
 grind [aG]
theorem b8 (h:IY c) (e:Dk) (k:Nat):0<=qJ c e k/\qJ c e k<=1000:=by
 have B:=yQ e 3 zB;have w2:=yQ (ad e) 12 zB;obtain⟨A,z,u⟩:=EK _ w2;have h1:=h.1;have h2:(c.js.map wK).length=ln c.js:=zA6 ..;have:=Gp (nx e 3+k) (max 1 (((c.js.map wK).length:Int)+(nx (ad e) 12).tdiv 11)) zB zB zB
 grind [IY,Dk,qJ]
theorem p8 (h:IY c) {j:Int} (u:0<=j):1<=qP c j/\qP c j<=8:=by grind [IY,qP]
def Wa (c:Cf) (k:Nat) (l:List Int) (e:Dk):List Int×Dk:=
 (l++[qJ c e k,nx (ad (ad (ad (ad e)))) (qP c (qJ c e k)+(nx (ad (ad (ad e))) 12).tdiv 11),nx (ad (ad e)) 3,nx (ad (ad e)) 3+nx (ad (ad (ad (ad (ad e))))) 50],ad (ad (ad (ad (ad (ad e))))))
def ZE (c:Cf) (l:List Int) (d:Dk):Nat->List Int×Dk
 |0=>(l,d)
 |i+1=>Wa c i (ZE c l d i).1 (ZE c l d i).2
def RX (l:List Int):Prop:=∀x∈l,0<=x/\x<=4294967295
theorem RX.app {a b:List Int} (h1:RX a) (h2:RX b):RX (a++b):=λx u=>(zBs.1 u).elim (h1 x) (h2 x)
theorem RX.cons {x:Int} {b:List Int} (h1:0<=x/\x<=4294967295) (h2:RX b):RX (x::b):=λy u=>(zCt.1 u).elim (λe=>e▸h1) (h2 y)
theorem RX.nil:RX []:=λx u=>by cases u
theorem Gd (hc:IY c) (l:List Int) (hl:RX l) (d:Dk):∀i,(ZE c l d i).1.length=ln l+i*4/\rem (ZE c l d i).2<=rem d/\RX (ZE c l d i).1
 |0=>⟨rfl,zBb _,hl⟩
 |i+1=>by
  have u:=Gd hc l hl d i
  show(Wa c i _ _).1.length=_/\rem (Wa c i _ _).2<=_/\RX (Wa c i _ _).1
  generalize (ZE c l d i).2=e at *;have A:=vH e;have B:=vH (ad e);have C:=vH (ad (ad e));have E:=vH (ad (ad (ad e)));have G:=vH (ad (ad (ad (ad e))));have I:=vH (ad (ad (ad (ad (ad e)))));have j1:=b8 hc e i;have j2:=p8 hc j1.1;have O:=yQ (ad (ad e)) 3 zB;have z:=yQ (ad (ad (ad e))) 12 zB;have S:=yQ (ad (ad (ad (ad (ad e))))) 50 zB;obtain⟨M,L,_⟩:=EK _ z;have R:=yQ (ad (ad (ad (ad e)))) (qP c (qJ c e i)+(nx (ad (ad (ad e))) 12).tdiv 11) zB;refine⟨by simp only[Wa,zBa,zBl,zCd];omega,by simp only[Wa];omega,?_⟩;exact u.2.2.app (.cons zB (.cons zB (.cons zB (.cons zB .nil))))
theorem yw (c:Cf) (hc:IY c) (l:List Int) (hl:ln l<=1000) (hn:RX l) (d:Dk):zO 67 [.ptr 1000 0 0,wD c,.ref 107 0 (l.map iA).length] [(1000,fI d),(107,.arr 1 (l.map iA) false)] (.ref 107 0 ((ZE c l (ad d) (1+(nx d 2).toNat)).1.map iA).length) [(1000,fI (ZE c l (ad d) (1+(nx d 2).toNat)).2),(107,.arr 1 ((ZE c l (ad d) (1+(nx d 2).toNat)).1.map iA) true)]:=by
 have c1:=yS d 2 zB zB;have b1:=yQ d 2 zB;generalize nx d 2=n,ad d=z at *;obtain⟨N,hN⟩:∃N:Nat,1+n.toNat=N:=⟨_,rfl⟩;have ac:1+n=(N:Int):=by omega
 rw[hN];have ar:=hc.1;have ap:(c.js.map wK).length=ln c.js:=zA6 ..;unfold wD zE;refine eM call67 λF hF=>?_
 refine zS c1 ?_;refine vQ 107 Z ?_;refine zN (N) [1000,107,4] [4] [0,4,15] [2,16,0,4,15] Z (λi T U=>⟨(2,.ref 107 0 ((ZE c l z i).1.map iA).length)::(16,iA i)::T,(1000,fI (ZE c l z i).2)::(107,.arr 1 ((ZE c l z i).1.map iA) true)::U⟩) (Lq ?_ ?_)
 .intro i hi;have hl:=(Gd hc l hn z i).1;have C:ZE c l z (i+1)=Wa c i (ZE c l z i).1 (ZE c l z i).2:=rfl;unfold Wa at C;generalize (ZE c l z i).1=p at *;generalize (ZE c l z i).2=e at *;have ag:(i:Int)<=1:=by omega
  have M:=yS e 3 zB zB;have O:=yS (ad e) 12 zB zB;have R:=yS (ad (ad e)) 3 zB zB;have S:=yS (ad (ad (ad e))) 12 zB zB;have w1:=yQ e 3 zB;have w2:=yQ (ad e) 12 zB;have w3:=yQ (ad (ad e)) 3 zB;have w4:=yQ (ad (ad (ad e))) 12 zB;obtain⟨v2,u2,i2⟩:=EK _ w2;obtain⟨v4,u4,i4⟩:=EK _ w4;have E:=b8 hc e i;have G:=p8 hc E.1;have B:=yS (ad (ad (ad (ad e)))) (qP c (qJ c e i)+(nx (ad (ad (ad e))) 12).tdiv 11) zB zB;have V:=yS (ad (ad (ad (ad (ad e))))) 50 zB zB;have w6:=yQ (ad (ad (ad (ad (ad e))))) 50 zB;generalize L:nx (ad (ad (ad (ad e)))) (qP c (qJ c e i)+(nx (ad (ad (ad e))) 12).tdiv 11)=x5 at *;clear L;have A:=λh=>yF wK c.js (qJ c e i) E.1 h
  have u:=λh=>hc.at (c:=c) (j:=qJ c e i) E.1 h
  have I:1<=max 1 (((c.js.map wK).length:Int)+(nx (ad e) 12).tdiv 11)/\max 1 (((c.js.map wK).length:Int)+(nx (ad e) 12).tdiv 11)<=1000:=by omega
  have tb:=Gp (nx e 3+i) _ zB I.1 I.2;unfold qP at B G;unfold qJ at B C E A u G;rw[C];clear C hc;generalize nx (ad (ad (ad (ad (ad e))))) 50=x6,nx (ad (ad (ad e))) 12=x4,nx (ad (ad e)) 3=x3,nx (ad e) 12=Y,nx e 3=W at *;generalize ad e=e1 at *;generalize ad e1=e2 at *;generalize ad e2=e3 at *;generalize ad e3=e4 at *;generalize ad e4=e5 at *;generalize ad e5=e6 at *;obtain⟨au,av⟩:=I;obtain⟨az,a1,a2⟩:=tb;by_cases hj:Int.tmod (W+i) (max 1 (((c.js.map wK).length:Int)+Y.tdiv 11))<((c.js.map wK).length:Int)
  .rw[zA5 hj]at B G;have hy:=A zB;have hz:=u hj;clear A u;generalize c.js.getD (Int.tmod (W+i) (max 1 (((c.js.map wK).length:Int)+Y.tdiv 11))).toNat dd=J at *;have ax:(J.ph.map xN).length=ln J.ph:=zA6 ..;unfold wK zE at hy;generalize J.ph.map xN=P at *;generalize J.cf.map iA=Cz at *;refine yJ (Zb M O R S B V) ?_
   show restr _ _ _=_
   rw[zBd];rfl
  .rw[Os hj]at B G;clear A u;refine yJ (Zb M O R S B V) ?_
   show restr _ _ _=_
   rw[zBd];rfl
 ·(refine WW ?_)
  exact zP [1000,107] Z Z Z Z
def Fd (g:Int) (d:Dk):List Int×Dk:=
 if nx d 9=7 then(g::nx (ad d) 4::cQ (2000+10*g+nx (ad (ad d)) 3),ad (ad (ad d)))
 else if nx d 9=8 then(nx (ad d) 3::0::cQ (1000+nx (ad (ad d)) 3),ad (ad (ad d)))
 else(g::0::cQ (1000+g),ad d)
theorem E4 (g:Int) (u:0<=g/\g<256) (d:Dk):BY (Fd g d).1/\rem (Fd g d).2<=rem d:=by grind [Dk,BY,Fd,rem,vH,ad,yQ,vo,OG]
def xw (q:Int):Int:=if q=1 then 4 else if q=3 then 7 else 6
theorem ww (q:Int) (h:0<=q/\q<4):([AV.s (.int .i64 6),AV.s (.int .i64 4),AV.s (.int .i64 6),AV.s (.int .i64 7)]:List AV)[q.toNat]? =some (AV.s (.int .i64 (xw q))):=by grind [xw]
def Pi (k:Int) (d:Dk):Int×Dk:=if nx d 2=0 then(xw (nx (ad d) 4),ad (ad d))else(k,ad d)
theorem D4 (k:Int) (hk:1<=k/\k<=12) (d:Dk):(1<=(Pi k d).1/\(Pi k d).1<=12)/\rem (Pi k d).2<=rem d:=by grind [Dk,Pi,rem,vH,ad,xw]
def Va (l:List Int) (d:Dk):List Int×Dk:=(l++[nx d 3,nx d 3+nx (ad d) 40],ad (ad d))
def VR (l:List Int) (d:Dk):Nat->List Int×Dk
 |0=>(l,d)
 |i+1=>Va (VR l d i).1 (VR l d i).2
theorem Ed (l:List Int) (hl:RX l) (d:Dk):∀i,(VR l d i).1.length=ln l+i*2/\rem (VR l d i).2<=rem d/\RX (VR l d i).1
 |0=>⟨rfl,zBb _,hl⟩
 |i+1=>by
  have u:=Ed l hl d i
  show(Va _ _).1.length=_/\rem (Va _ _).2<=_/\RX (Va _ _).1
  generalize (VR l d i).2=e at *;have z:=vH e;have A:=vH (ad e);have B:=yQ e 3 zB;have w2:=yQ (ad e) 40 zB;refine⟨by simp only[Va,zBa,zBl,zCd];omega,by simp only[Va];omega,?_⟩;exact u.2.2.app (.cons zB (.cons zB .nil))
def Oi (q:Int):Int:=if q=0 then 63 else if q=1 then 1 else if q=2 then 3 else if q=3 then 47 else 64
def Dd (q:Int):Int:=if q=0 then 0 else if q=1 then 5 else if q=2 then 30 else 700
def uw (q:Int) (h:0<=q/\q<5):([AV.s (.int .i64 63),AV.s (.int .i64 1),AV.s (.int .i64 3),AV.s (.int .i64 47),AV.s (.int .i64 64)]:List AV)[q.toNat]? =some (AV.s (.int .i64 (Oi q))):=by
 have:q=0\/q=1\/q=2\/q=3\/q=4:=by omega
 rcases this with rfl|rfl|rfl|rfl|rfl<;>rfl
theorem qw (q:Int) (h:0<=q/\q<4):([AV.s (.int .i64 0),AV.s (.int .i64 5),AV.s (.int .i64 30),AV.s (.int .i64 700)]:List AV)[q.toNat]? =some (AV.s (.int .i64 (Dd q))):=by grind [Dd]
def Cd (u:Cf) (k c:Int) (d:Dk):List Int×Dk:=
 if k=2 then([Oi (nx d 5),nx (ad d) 5,Dd (nx (ad (ad d)) 4)],ad (ad (ad d)))
 else if k=3\/k=8\/k=5\/k=10\/k=11 then([nx d 4],ad d)
 else if k=4 then([nx d 4,c],ad d)
 else if k=6 then ZE u [nx d 4,nx (ad d) 4,1+nx (ad (ad d)) (60-1+1)] (ad (ad (ad (ad d)))) (1+(nx (ad (ad (ad d))) 2).toNat)
 else if k=7 then VR [nx d 4] (ad (ad d)) (1+(nx (ad d) 2).toNat)
 else([],d)
theorem Fp (g:Int) (d:Dk):(Fd g d).1.length=10:=by grind [Dk,Fd,fA]
theorem C4 {u:Cf} (hc:IY u) (k c:Int) (E:0<=c/\c<=10) (hk:1<=k/\k<=12) (d:Dk):rem (Cd u k c d).2<=rem d/\RX (Cd u k c d).1/\∃n:Nat,n<=2/\(wF k≠0->1<=n)/\(Cd u k c d).1.length=vW k+n*wF k:=by
 have M:=vH d;have O:=vH (ad d);have R:=vH (ad (ad d));have S:=vH (ad (ad (ad d)));have U:=yQ d 4 zB;have w2:=yQ (ad d) 4 zB;have V:=yQ (ad (ad d)) (60-1+1) zB;have W:=yQ (ad (ad (ad d))) 2 zB;have Y:=yQ (ad d) 2 zB;have w6:=yQ (ad d) 5 zB;have B:0<=Oi (nx d 5)/\Oi (nx d 5)<=64:=by unfold Oi;repeat' split;all_goals omega
 have C:0<=Dd (nx (ad (ad d)) 4)/\Dd (nx (ad (ad d)) 4)<=700:=by unfold Dd;repeat' split;all_goals omega
 unfold Cd;split
 .rename_i h;subst h;exact⟨by dsimp only;omega,.cons zB (.cons zB (.cons zB .nil)),0,zB,λh=>absurd Z h,rfl⟩
 split
 .rename_i h
  refine⟨by dsimp only;omega,.cons zB .nil,0,zB,λh2=>?_,?_⟩<;>rcases h with rfl|rfl|rfl|rfl|rfl
  all_goals first|rfl|exact absurd Z h2
 split
 .rename_i h;subst h;exact⟨by dsimp only;omega,.cons zB (.cons zB .nil),0,zB,λh=>absurd Z h,rfl⟩
 split
 .grind [IY,Dk,rem,Cd,RX,wF,vW,p2,Gd,nx,ad]
 split
 .rename_i h;subst h;obtain⟨z,p2,A⟩:=Ed [nx d 4] (.cons zB .nil) (ad (ad d)) (1+(nx (ad d) 2).toNat);exact⟨zB,A,_,zB,λ_=>by omega,z⟩
 .rename_i h1 h2 G I L;have:k=1\/k=9\/k=12:=by omega
  refine⟨zBb _,.nil,0,zB,λh2=>?_,?_⟩<;>rcases this with rfl|rfl|rfl
  all_goals first|rfl|exact absurd Z h2
structure B4 (m:Ms):Prop where
 t:BY m.tok
 l:m.tok.length=10
 k:1<=m.kind/\m.kind<=12
 n:RX m.args
 c:∃n:Nat,n<=2/\(wF m.kind≠0->1<=n)/\m.args.length=vW m.kind+n*wF m.kind
 d:m.data=[]
def L6 (u:Bool) (d:Dk):Int×Dk:=if u=true then(nx (ad d) 2,ad (ad d))else(nx d 4,ad d)
theorem o8 (u:Bool) (d:Dk):(0<=(L6 u d).1/\(L6 u d).1<=10)/\rem (L6 u d).2<=rem d:=by
 have z:=vH d;have A:=vH (ad d);have B:=yQ d 4 zB;have w2:=yQ (ad d) 2 zB
 grind [Dk,L6,rem]
theorem YI (c:Cf) (hc:IY c) (g:Int) (hg:0<=g/\g<256) (cm:Bool) (d:Dk):∃(m:Ms) (d':Dk),B4 m/\rem d'<=rem d/\zO 20 [.ptr 1000 0 0,wD c,iA g,bA cm] [(1000,fI d)] (zX m) [(1000,fI d')]:=by
 have c1:=yS d 12 zB zB;have b1:=yQ d 12 zB;have r1:=vH d;have ar:=cA (1000+g);have ag:=YA g 0 (cQ (1000+g)) (by rw[fA];omega) hg.1 hg.2 zB zB;generalize hx:nx d 12=x at *;generalize ad d=B at *;have hT:=E4 g hg B;have ac:=Fp g B;generalize E:Fd g B=v at *;obtain⟨M,d2⟩:=v;dsimp only at hT ac;have O:=D4 (1+x) zB d2;generalize C:Pi (1+x) d2=v at *;obtain⟨k,d3⟩:=v;dsimp only at O;have W:=o8 cm d3;generalize I:L6 cm d3=v at *;obtain⟨cl,A⟩:=v;dsimp only at W;have R:=C4 hc k cl W.1 O.1 A;generalize u:Cd c k cl A=v at *;obtain⟨args,d5⟩:=v;dsimp only at R;refine⟨⟨k,M,args,[]⟩,d5,⟨hT.1,ac,O.1,R.2.1,R.2.2,rfl⟩,by have:=hT.2;have:=O.2;have:=W.2;have:=R.1;omega,?_⟩;clear ac;have n9:=yS B 9 zB zB;have ap:=yw c hc;unfold wD at *;rw[show zE wK c.js= .sl false (c.js.map wK)from Z,show zE vP c.ags= .sl false (c.ags.map vP)from Z]at *; generalize c.js.map wK=JS,c.ags.map vP=Y at *;refine eM call20 λF hF=>?_
 (have ga:=c1;have ge:=n9;have gn:=ar;have gt:=ag;(repeat' (first|refine Tc ?_|apply yW|apply xH|intro hc|(apply zG;first|refine SM ?_)|fail))<;>clear ga ge gn gt)
 refine eQ [1000,5,8,9] [0,2,3,5,8,9] ⟨[(0,.ptr 1000 0 0),(2,iA g),(3,bA cm),(5,.ptr 5 0 0),(8,.ptr 8 0 0),(9,.ptr 9 0 0)],[(1000,fI d2),(5,.box [.sl false JS,.sl false Y,iA c.per,iA c.cap,iA c.hold,iA c.lock]),(8,.box [iA 0,.s (.slice none 0 0),.s (.slice none 0 0),.s (.slice none 0 0)]),(9,.box [iA (1+x),zE yA M,.s (.slice none 0 0),.s (.slice none 0 0)])]⟩ rfl ?_ ?_
 .unfold Fd at E;by_cases h7:nx B 9=7
  .rw[zA5 h7]at E;cases E;have L:=yS (ad B) 4 zB zB;have G:=yS (ad (ad B)) 3 zB zB;have w1:=yQ (ad B) 4 zB;have w2:=yQ (ad (ad B)) 3 zB;have cs:=cA (2000+10*g+nx (ad (ad B)) 3);have cb:=YA g (nx (ad B) 4) (cQ (2000+10*g+nx (ad (ad B)) 3)) (by rw[fA];omega) hg.1 hg.2 zB zB;clear hT C;refine yJ (cM L G cs cb) ?_;exact⟨rfl,rfl⟩
  rw[Os h7]at E;by_cases h8:nx B 9=8
  .rw[zA5 h8]at E;cases E;have L:=yS (ad B) 3 zB zB;have G:=yS (ad (ad B)) 3 zB zB;have w1:=yQ (ad B) 3 zB;have w2:=yQ (ad (ad B)) 3 zB;have cs:=cA (1000+nx (ad (ad B)) 3);have cb:=YA (nx (ad B) 3) 0 (cQ (1000+nx (ad (ad B)) 3)) (by rw[fA];omega) zB zB zB zB;clear hT C;refine yJ (cM L G cs cb) ?_;exact⟨rfl,rfl⟩
  .rw[Os h8]at E;cases E;clear hT C;refine WW ?_;exact⟨rfl,rfl⟩
 clear E n9 c1 ar ag;have G:=yS d2 2 zB zB
 (have ga:=G;(repeat' (first|refine Tc ?_|apply yW|apply xH|intro hc|(apply zG;first|refine SM ?_)|fail))<;>clear ga)
 refine eQ [1000,5,8,9] [0,2,3,5,8,9] ⟨[(0,.ptr 1000 0 0),(2,iA g),(3,bA cm),(5,.ptr 5 0 0),(8,.ptr 8 0 0),(9,.ptr 9 0 0)],[(1000,fI d3),(5,.box [.sl false JS,.sl false Y,iA c.per,iA c.cap,iA c.hold,iA c.lock]),(8,.box [iA 0,.s (.slice none 0 0),.s (.slice none 0 0),.s (.slice none 0 0)]),(9,.box [iA k,zE yA M,.s (.slice none 0 0),.s (.slice none 0 0)])]⟩ rfl ?_ ?_
 .unfold Pi at C;have n3:=yS (ad d2) 4 zB zB;have w3:=yQ (ad d2) 4 zB;have hy:=ww _ w3;have au:([AV.s (.int .i64 6),AV.s (.int .i64 4),AV.s (.int .i64 6),AV.s (.int .i64 7)]:List AV).length=4:=rfl;clear u I O;by_cases h0:nx d2 2=0
  .rw[zA5 h0]at C;cases C;refine zS n3 (I2 (λhc=>?_) λhc=>?_)
   all_goals first|(exfalso;omega;done)|exact⟨rfl,rfl⟩
  .rw[Os h0]at C;cases C;refine zS n3 (I2 (λhc=>?_) λhc=>?_)
   all_goals first|(exfalso;omega;done)|exact⟨rfl,rfl⟩
 clear C G;have c3:=yS d3 4 zB zB
 (have ga:=c3;(repeat' (first|refine Tc ?_|apply yW|apply xH|intro hc|(apply zG;first|refine SM ?_)|fail))<;>clear ga)
 refine eQ [1000,5,8,9] [0,2,3,5,8,9,10] ⟨[(0,.ptr 1000 0 0),(2,iA g),(3,bA cm),(5,.ptr 5 0 0),(8,.ptr 8 0 0),(9,.ptr 9 0 0),(10,iA cl)],[(1000,fI A),(5,.box [.sl false JS,.sl false Y,iA c.per,iA c.cap,iA c.hold,iA c.lock]),(8,.box [iA 0,.s (.slice none 0 0),.s (.slice none 0 0),.s (.slice none 0 0)]),(9,.box [iA k,zE yA M,.s (.slice none 0 0),.s (.slice none 0 0)])]⟩ rfl ?_ ?_
 .unfold L6 at I;clear u;have G:=yS (ad d3) 2 zB zB
  cases cm with
  |true=>
   rw[zA5 Z]at I;cases I;refine zS G ?_;exact⟨rfl,rfl⟩
  |false=>
   rw[Os zBm]at I;cases I;refine WW ?_;exact⟨rfl,rfl⟩
 clear I c3
 (repeat' (first|refine J9 ?_|apply yW|apply xH|intro hc|(apply zG;first|refine SM ?_)|fail))
 have b4:=yQ A 4 zB;unfold Cd at u;by_cases k2:k=2
 .rw[zA5 k2]at u;cases u;have L:=yS A 5 zB zB;have G:=yS (ad A) 5 zB zB;have n3:=yS (ad (ad A)) 4 zB zB;have w1:=yQ A 5 zB;have w3:=yQ (ad (ad A)) 4 zB;have h1:=uw _ w1;have h3:=qw _ w3;have a2:([AV.s (.int .i64 63),AV.s (.int .i64 1),AV.s (.int .i64 3),AV.s (.int .i64 47),AV.s (.int .i64 64)]:List AV).length=5:=rfl;have au:([AV.s (.int .i64 0),AV.s (.int .i64 5),AV.s (.int .i64 30),AV.s (.int .i64 700)]:List AV).length=4:=rfl;generalize Oi (nx A 5)=y1,Dd (nx (ad (ad A)) 4)=y3 at *;clear R O W hT;refine yJ (qM L G n3) ?_;exact zI [1000] Z Z Z Z
 rw[Os k2]at u;by_cases k3:k=3\/k=8\/k=5\/k=10\/k=11
 .rw[zA5 k3]at u;cases u;have L:=yS A 4 zB zB;clear R O W hT
  rcases k3 with h|h|h|h|h<;>((refine zS L ?_);exact zI [1000] Z Z Z Z)
 rw[Os k3]at u;by_cases k4:k=4
 .rw[zA5 k4]at u;cases u;have L:=yS A 4 zB zB;clear R O W hT;refine zS L ?_;exact zI [1000] Z Z Z Z
 rw[Os k4]at u;by_cases k6:k=6
 .rw[zA5 k6]at u;have L:=yS A 4 zB zB;have G:=yS (ad A) 4 zB zB;have n3:=jK (ad (ad A)) 1 60 zB zB zB;have w1:=yQ A 4 zB;have w2:=yQ (ad A) 4 zB;have w3:=yQ (ad (ad A)) (60-1+1) zB;have cq:=ap [nx A 4,nx (ad A) 4,1+nx (ad (ad A)) (60-1+1)] zV (.cons zB (.cons zB (.cons zB .nil))) (ad (ad (ad A)));rw[u]at cq;clear ap;clear R O W hT u;generalize 1+nx (ad (ad A)) (60-1+1)=x3,nx (ad A) 4=x2,nx A 4=S at *;refine yJ (cM L G n3 cq) ?_;exact zI [1000] Z Z (zBq (λz=>AV.agg [iA k,zE yA M,.sl false z,zE yA []]) (zA8 (l:=args.map iA))) Z
 rw[Os k6]at u;by_cases k7:k=7
 .rw[zA5 k7]at u;have L:=yS A 4 zB zB;have G:=yS (ad A) 2 zB zB;have w2:=yQ (ad A) 2 zB;have w1:=yQ A 4 zB;have av:RX [nx A 4]:= .cons zB .nil;clear w1;clear R O W hT;generalize nx A 4=S at *;generalize nx (ad A) 2=n at *;generalize ad A=e4 at *;generalize ad e4=V at *;obtain⟨N,hN⟩:∃N:Nat,1+n.toNat=N:=⟨_,rfl⟩;have ax:1+n=(N:Int):=by omega
  rw[hN]at u;refine yJ (xW L G) ?_;refine vQ 114 Z ?_;refine zN (N) [9,1000,114,8] [8] [0,8,9] [11,0,8,9] Z (λi T U=>⟨(11,iA ((N:Int)-i))::T,(9,.box [iA k,zE yA M,.ref 114 0 ((VR [S] V i).1.map iA).length,.s (.slice none 0 0)])::(1000,fI (VR [S] V i).2)::(114,.arr 1 ((VR [S] V i).1.map iA) true)::U⟩) ?_;(conv=>whnf);refine⟨by(rw[show(N:Int)-(0:Nat)=1+n by omega];rfl),?_,?_⟩
  .intro i hi;have hl:=(Ed [S] av V i).1;have eS:VR [S] V (i+1)=Va (VR [S] V i).1 (VR [S] V i).2:=rfl;unfold Va at eS;rw[show((N:Int)-((i+1:Nat):Int))=(N:Int)-i-1 by omega];generalize (VR [S] V i).1=p at *;generalize (VR [S] V i).2=e at *;have az:1<=(N:Int)-i:=by omega
   have a1:(N:Int)-i<=10:=by omega
   have hp:ln p<=100:=by simp at hl;omega
   generalize (N:Int)-i=q at *;have L:=yS e 3 zB zB;have G:=yS (ad e) 40 zB zB;have w1:=yQ e 3 zB;have w2:=yQ (ad e) 40 zB;generalize nx (ad e) 40=y2,nx e 3=y1 at *;generalize ad e=e1 at *;generalize ad e1=e2 at *;rw[eS];refine yJ (xW L G) ?_
   show restr _ _ _=_
   rw[zBd];rfl
  .rw[show(N:Int)-(N:Int)=0 by omega,u];refine WW ?_;exact zI [1000] Z Z (zBq (λz=>AV.agg [iA k,zE yA M,.sl false z,zE yA []]) (zA8 (l:=args.map iA))) Z
 .rw[Os k7]at u;cases u;clear R O W hT;refine WW ?_;exact zI [1000] Z Z Z Z
def bC (k:Int):zO 142 [iA k] [] (bA (decide (1<=k/\k<=12))) []:=by
 cases hb:decide (1<=k/\k<=12)with
 |false=>(rw[zBi]at hb;(refine eM call142 λF hF=>?_);((refine WW (I2 (λhc=>?_) λhc=>?_)));all_goals (first|exact zH|exact NW|exact PY))
 |true=>(rw[zBc]at hb;(refine eM call142 λF hF=>?_);((refine WW ?_));all_goals (first|exact zH|exact NW|exact PY))
def dI (k:Int):zO 266 [iA k] [] (bA (decide (1<=k/\k<=12))) []:=by
 cases hb:decide (1<=k/\k<=12)with
 |false=>(rw[zBi]at hb;(refine eM call266 λF hF=>?_);((refine WW (I2 (λhc=>?_) λhc=>?_)));all_goals (first|exact zH|exact NW|exact PY))
 |true=>(rw[zBc]at hb;(refine eM call266 λF hF=>?_);((refine WW ?_));all_goals (first|exact zH|exact NW|exact PY))
theorem EL (u z:Nat) (c:Int):∀(l:List Int) (i:Nat),(ZC u z c i l).length<=6*ln l
 | [],i=>by simp[ZC]
 |x::r,i=>by
  have h1:=EL u z c r (i+1);have h2:=gD x;rw[ZC,zBa,zBa,zBl]
  have A:(if i=u/\z≠0 then [c]else []).length<=1:=by split<;>simp
  omega
def Br (u c:Nat) (d:List Int):Bool:=decide (ln d=0/\(u=0\/1<=c))
theorem EM (k:Int):wF k=0\/wF k=2\/wF k=4:=by grind [wF]
theorem EN (k:Int):vW k<=3:=by grind [vW]
theorem LK (k:Int) (E:1<=k) (h1:k<=12) (m:Ms) (c:Nat) (hk:m.kind=k) (ht:ln m.tok=10) (hd:ln m.data<=100000) (G:∀x∈m.args,0<=x/\x<=4294967295) (hc:ln m.args=vW k+c*wF k) (L:c<=3):
  zO 69 [zX m] [] (bA (Br (wF k) c m.data)) []:=by
 have u:=Wc k E h1;have A:=bC k;have hf:=EN k;rw[zA9 ⟨E,h1⟩]at A;have V:=YT k E h1 m c hk ht hd G (by have:=EM k;rcases this with h|h|h<;>rw[h]at hc<;>omega) (λ_=>hc) L
 have ax:(dL (vW k) (wF k) c m).length<=10+(6*ln m.args+(1+ln m.data)):=by
  have h1:=EL (vW k) (wF k) c m.args 0
  have h3:(if wF k≠0/\m.args.length=vW k then [(0:Int)]else []).length<=1:=by split<;>simp
  unfold dL;rw[zBa,zBa,zBa];omega
 have au:=zA yA (dL (vW k) (wF k) c m);have W:=EM k;subst hk;generalize dL (vW m.kind) (wF m.kind) c m=pl at *;generalize vW m.kind=B at *;generalize wF m.kind=Y at *;unfold Yc at u;have av:=zA yA m.tok;have ap:=zA iA m.args;have ar:=zA yA m.data
 cases hb:Br Y c m.data with
 | true=>
  unfold Br at hb;rw[zBc]at hb;obtain⟨ac,ag⟩:=hb
  rcases W with rfl|rfl|rfl
  .rw[zA5 Z,zA5 Z]at u;refine eM call69 λF hF=>?_
   refine yJ (xW u A) ?_;refine zU (m.args) [1] [1] [1,97,98] [99,1,97,98] Z (λi f4 T U=>⟨(99,iA i)::T,U⟩) (Lq ?_ ?_)
   .intro i f4 x post z hi;have hy:=yG iA z hi;have C:=zW z hi;have S:=G x (yY z);clear z;refine WW ?_;rfl
   .exact ng V
  all_goals
   rw[Os xA,Os xA]at u;have O:(((m.args.map iA).length:Int)-(B:Int)).tmod ((2:Nat):Int)=0:=by rw[zCg zB];omega
   have R:(((m.args.map iA).length:Int)-(B:Int)).tmod ((4:Nat):Int)=(((m.args.map iA).length:Int)-(B:Int)) % 4:=zCg zB;refine eM call69 λF hF=>?_
   refine yJ (xW u A) ?_;refine zU (m.args) [1] [1] [1,97,98] [99,1,97,98] Z (λi f4 T U=>⟨(99,iA i)::T,U⟩) (Lq ?_ ?_)
   .intro i f4 x post z hi;have hy:=yG iA z hi;have C:=zW z hi;have S:=G x (yY z);clear z;refine WW ?_;rfl
   .exact ng V
 | false=>
  unfold Br at hb;rw[zBi]at hb
  rcases W with rfl|rfl|rfl
  .rw[zA5 Z,zA5 Z]at u;have M:ln m.data≠0:=λh=>hb ⟨h,.inl Z⟩
   refine eM call69 λF hF=>?_
   exact mx (xW u A)
  all_goals
   rw[Os xA,Os xA]at u;have O:(((m.args.map iA).length:Int)-(B:Int)).tmod ((2:Nat):Int)=0:=by rw[zCg zB];omega
   have R:(((m.args.map iA).length:Int)-(B:Int)).tmod ((4:Nat):Int)=(((m.args.map iA).length:Int)-(B:Int)) % 4:=zCg zB;by_cases I:1<=c
   .have M:ln m.data≠0:=λh=>hb ⟨h,.inr I⟩
    refine eM call69 λF hF=>?_
    exact mx (xW u A)
   ·(refine eM call69 λF hF=>?_)
    exact mx (xW u A)
theorem LL:∀l:List Int,((l.map jQ).flatten).length<=5*ln l
 | []=>by simp
 |x::l=>by
  have h1:=LL l;have h2:=gD x;rw[zCo,zD4,zBa,zBl];omega
theorem Ep (u:Nat) (c:Int):∀(l:List Int) (i:Nat),ZC u 0 c i l=(l.map jQ).flatten
 | [],i=>rfl
 |x::l,i=>by
  rw[ZC,Ep u c l (i+1),Os (λh=>h.2 Z)];rfl
theorem Dp (u z:Nat) (c:Int):∀(l:List Int) (i:Nat),u<i->ZC u z c i l=(l.map jQ).flatten
 | [],i,_=>rfl
 |x::l,i,h=>by
  rw[ZC,Dp u z c l (i+1) zB,Os (λh2=>by omega)];rfl
theorem EO (u z:Nat) (c:Int) (B:z≠0) (f:List Int) (A:f≠[]):∀(a:List Int) (i:Nat),i+ln a=u->ZC u z c i (a++f)=(a.map jQ).flatten++([c]++(f.map jQ).flatten)
 | [],i,h=>by
  cases f with
  |nil=>exact absurd Z A
  |cons x f=>
   have hi:i=u:=by simpa using h
   rw[zEf,ZC,zA5 ⟨hi,B⟩,Dp u z c f (i+1) zB];rfl
 |x::a,i,h=>by
  rw[zEl,ZC,EO u z c B f A a (i+1) (by rw[zBl]at h;omega),Os (λh2=>by rw[zBl]at h;omega),zEf,zCo,zD4,zBy]
theorem Ni (k:Int) (h0:1<=k) (h1:k<=12) (p:List Int) (hb:BY p) (hn:ln p<=100000):zO 191 [iA k,zE yA p] [] (T6 k (p.take 10) (NR (vW k) (wF k) p)) []:=by
 have hl:=zA yA p;have I:=Wc k h0 h1;have V:=bC k;rw[zA9 ⟨h0,h1⟩]at V;have hf:=EN k;have hg:=EM k;by_cases a7:ln p<10
 .rw[show NR (vW k) (wF k) p=none from zA5 (.inr a7)]
  show zO 191 [iA k,zE yA p] [] (.tup [zX ⟨0,[],[],[]⟩,iA 6]) []
  unfold Yc at I;refine eM call191 λF hF=>?_
  exact mx (xW I V)
 have a3:BY (p.drop 10):=λy hy=>hb y (zCc hy)
 have bb:(p.drop 10).length<=100000:=by rw[zB6];omega
 have bu:((p.take 10).map yA).length=10:=by rw[zA6,zBv];omega
 have b3:((p.take (10:Int).toNat).map yA).length=10:=bu;have R:=WX (p.drop 10) (vW k) a3 bb zB
 cases u:XM (vW k) (p.drop 10)with
 | none=>
  have e:NR (vW k) (wF k) p=none:=by
   unfold NR;rw[u]
   split<;>rfl
  rw[e];rw[u]at R
  show zO 191 [iA k,zE yA p] [] (.tup [zX ⟨0,[],[],[]⟩,iA 6]) []
  unfold Be at R;unfold Yc at I;refine eM call191 λF hF=>?_
  (have ga:=I;have ge:=V;have gn:=R;(repeat' (first|refine uT ?_|apply yW|apply xH|intro hc|(apply zG;first|(apply yE;refine gW tok Z Z Z Z Z Z (yM _ _ (λ_=>rfl)) Z Z Z zB Z Z Z ?_))|fail))<;>clear ga ge gn)
  exact zH
 |some q=>
 obtain⟨a,r⟩:=q;obtain⟨ha,a4,au,E⟩:=bF _ _ _ _ a3 u;have b5:=LL a
 have br:ln p=10+(((a.map jQ).flatten).length+ln r):=by
  have:=zBq List.length E;rw[zBa,zB6]at this;omega
 have z:p=p.take 10++((a.map jQ).flatten++r):=by rw[<-E,zEw]
 have b9:=zA yA r;have b6:=zA iA a;have a1:ln r<=100000:=by omega
 rw[u]at R;unfold Be at R
 rcases Nat.eq_zero_or_pos (wF k)with O|O
 .have U:=LK k h0 h1 ⟨k,p.take 10,a,r⟩ 0 Z IC a1 au (by rw[O];exact ha) zB;have v2:=YT k h0 h1 ⟨k,p.take 10,a,r⟩ 0 Z IC a1 au (by show (ln a)<=1000;omega) (λh=>absurd O h) zB;rw[O]at U v2 I⊢;unfold Yc at I;by_cases hr:r=[]
  .subst hr
   have e:NR (vW k) 0 p=some a:=by
    unfold NR;rw[Os (by rw[zCd]at br;omega),u];rfl
   have e2:dL (vW k) 0 0 ⟨k,p.take 10,a,[]⟩=p:=by
    unfold dL;rw[Ep]
    conv=>rhs;rw[z]
    simp
   rw[e];rw[show((0:Nat):Int)=0 from Z,e2]at v2;rw[show Br 0 0 ([]:List Int)=true from Z]at U;have bd:=wR p;clear e2 z u E
   show zO 191 [iA k,zE yA p] [] (.tup [zX ⟨k,p.take 10,a,[]⟩,iA 0]) []
   generalize vW k=fx at *;refine eM call191 λF hF=>?_
   (have ga:=I;have ge:=V;have gn:=R;have gt:=U;have gv:=v2;(repeat' (first|refine uT ?_|apply yW|apply xH|intro hc|(apply zG;first|(apply yE;first|(refine vU [4,6,7] [0,1,4,5,6,7,93] Z ?_;(conv=>whnf);(try simp only[zBr,zA8]);refine kX tok Z Z Z Z Z Z (yM _ _ (λ_=>rfl)) Z Z Z zB Z ?_)|refine gW tok Z Z Z Z Z Z (yM _ _ (λ_=>rfl)) Z Z Z zB Z Z Z ?_))|fail))<;>clear ga ge gn gt gv)
   exact zH
  .have bs:ln r≠0:=λh=>hr (zB5 h)
   have e:NR (vW k) 0 p=none:=by
    unfold NR;rw[u];split
    .rfl
    .show(if(0:Nat)=0 then(if r=[]then some a else none)else _)=none
     rw[zA5 Z,Os hr]
   rw[e];rw[show Br 0 0 r=false from zA7 (λh=>bs h.1)]at U;clear v2 z u E
   show zO 191 [iA k,zE yA p] [] (.tup [zX ⟨0,[],[],[]⟩,iA 6]) []
   generalize vW k=fx at *;refine eM call191 λF hF=>?_
   (have ga:=I;have ge:=V;have gn:=R;have gt:=U;(repeat' (first|refine uT ?_|apply yW|apply xH|intro hc|(apply zG;first|(apply yE;first|(refine vU [4,6,7] [0,1,4,5,6,7,93] Z ?_;(conv=>whnf);(try simp only[zBr,zA8]);refine kX tok Z Z Z Z Z Z (yM _ _ (λ_=>rfl)) Z Z Z zB Z ?_)|refine gW tok Z Z Z Z Z Z (yM _ _ (λ_=>rfl)) Z Z Z zB Z Z Z ?_))|fail))<;>clear ga ge gn gt)
   exact zH
 have bl:wF k<=4:=by omega
 have Y:=WX r 1 a4 a1 zB;unfold Yc at I;rw[Os zB,Os zB]at I
 cases A:XM 1 r with
 | none=>
  have e:NR (vW k) (wF k) p=none:=by
   unfold NR;rw[u];split
   .rfl
   .show(if wF k=0 then _ else match XM 1 r with|none=>none|some (c,r2)=>_)=none
    rw[Os zB,A]
  rw[e];rw[A]at Y;unfold Be at Y
  show zO 191 [iA k,zE yA p] [] (.tup [zX ⟨0,[],[],[]⟩,iA 6]) []
  clear z u E A e;generalize vW k=fx,wF k=gr at *;refine eM call191 λF hF=>?_
  (have ga:=I;have ge:=V;have gn:=R;have gt:=Y;(repeat' (first|refine uT ?_|apply yW|apply xH|intro hc|(apply zG;first|(apply yE;first|(refine vU [4,6,7] [0,1,4,5,6,7,93] Z ?_;(conv=>whnf);(try simp only[zBr,zA8]);refine kX tok Z Z Z Z Z Z (yM _ _ (λ_=>rfl)) Z Z Z zB Z ?_)|refine gW tok Z Z Z Z Z Z (yM _ _ (λ_=>rfl)) Z Z Z zB Z Z Z ?_))|fail))<;>clear ga ge gn gt)
  exact zH
 |some q2=>
 obtain⟨c,r2⟩:=q2;obtain⟨a5,ap,ba,B⟩:=bF _ _ _ _ a4 A
 obtain⟨v,rfl⟩:∃v,c=[v]:=by
  cases c with
  |nil=>cases a5
  |cons v c=>cases c with
   |nil=>exact⟨v,rfl⟩
   |cons w c=>simp at a5
 have bx:=(ba v zV).1
 have a8:ln r2<=100000:=by
  have:=zBq List.length B;rw[zBa]at this;omega
 rw[A]at Y;unfold Be at Y
 have eD:¬(200<ln p\/p.length<10)->NR (vW k) (wF k) p=if v<1\/3<v then none else match XM (v.toNat*wF k) r2 with
   |none=>none
   |some (f,W)=>if W=[]then some (a++f)else none:=λh=>by
  unfold NR;rw[Os h,u]
  show(if wF k=0 then _ else match XM 1 r with|none=>none|some (c,r2)=>_)=_
  rw[Os zB,A];rfl
 by_cases bz:3<v
 .have e:NR (vW k) (wF k) p=none:=by
   by_cases h:200<ln p\/p.length<10
   .exact zA5 h
   .rw[eD h,zA5 (.inr bz)]
  rw[e]
  show zO 191 [iA k,zE yA p] [] (.tup [zX ⟨0,[],[],[]⟩,iA 6]) []
  clear z u E A e eD B;generalize vW k=fx,wF k=gr at *;refine eM call191 λF hF=>?_
  (have ga:=I;have ge:=V;have gn:=R;have gt:=Y;(repeat' (first|refine uT ?_|apply yW|apply xH|intro hc|(apply zG;first|(apply yE;first|(refine vU [4,6,7] [0,1,4,5,6,7,93] Z ?_;(conv=>whnf);(try simp only[zBr,zA8]);refine kX tok Z Z Z Z Z Z (yM _ _ (λ_=>rfl)) Z Z Z zB Z ?_)|refine gW tok Z Z Z Z Z Z (yM _ _ (λ_=>rfl)) Z Z Z zB Z Z Z ?_))|fail))<;>clear ga ge gn gt)
  exact zH
 have a2:v.toNat*wF k<=12:=zCa (zDx (show v.toNat<=3 by omega) bl) xA;have M:((v.toNat*wF k:Nat):Int)=v*(wF k:Int):=by rw[zFv,zE1 zB]
 have c4:=WX r2 (v.toNat*wF k) ap a8 zB;have hm:0<=v*(wF k:Int)/\v*(wF k:Int)<=12:=by rw[<-M];omega
 cases C:XM (v.toNat*wF k) r2 with
 | none=>
  have e:NR (vW k) (wF k) p=none:=by
   by_cases h:200<ln p\/p.length<10
   .exact zA5 h
   .rw[eD h,C]
    split<;>rfl
  rw[e];rw[C,M]at c4;unfold Be at c4
  show zO 191 [iA k,zE yA p] [] (.tup [zX ⟨0,[],[],[]⟩,iA 6]) []
  clear z u E A e eD B C M a2;generalize vW k=fx,wF k=gr at *;refine eM call191 λF hF=>?_
  (have ga:=I;have ge:=V;have gn:=R;have gt:=Y;have gv:=c4;(repeat' (first|refine uT ?_|apply yW|apply xH|intro hc|(apply zG;first|(apply yE;first|(refine vU [4,6,7] [0,1,4,5,6,7,93] Z ?_;(conv=>whnf);(try simp only[zBr,zA8]);refine kX tok Z Z Z Z Z Z (yM _ _ (λ_=>rfl)) Z Z Z zB Z ?_)|refine gW tok Z Z Z Z Z Z (yM _ _ (λ_=>rfl)) Z Z Z zB Z Z Z ?_))|fail))<;>clear ga ge gn gt gv)
  exact zH
 |some q3=>
 obtain⟨f,W⟩:=q3;obtain⟨G,b0,bk,L⟩:=bF _ _ _ _ ap C;have b7:=zA iA f;have b1:ln f<=12:=by omega
 have b2:=zA yA W
 have ar:ln W<=100000:=by
  have:=zBq List.length L;rw[zBa]at this;omega
 rw[C,M]at c4;unfold Be at c4;have S:(a++f).length=vW k+v.toNat*wF k:=by rw[zBa,ha,G]
 have ag:∀x∈a++f,0<=x/\x<=4294967295:=λx hx=>by
  rcases zBs.1 hx with h|h
  .exact au x h
  .exact bk x h
 have U:=LK k h0 h1 ⟨k,p.take 10,a++f,W⟩ v.toNat Z IC ar ag S zB;have v2:=YT k h0 h1 ⟨k,p.take 10,a++f,W⟩ v.toNat Z IC ar ag (by show(a++f).length<=1000;omega) (λ_=>S) zB
 have ac:∀t:List Int,zX ⟨k,t,a++f,W⟩= .agg [iA k,zE yA t,.sl false (a.map iA++f.map iA),zE yA W]:=λt=>by
  rw[<-zBd];rfl
 rw[ac]at U v2;by_cases av:W=[]/\1<=v
 .obtain⟨rfl,a9⟩:=av;have b4:=LL f;have a6:jQ v=[v]:=VA zB
  have az:r=[v]++(f.map jQ).flatten:=by
   rw[B,L,zB0];simp[a6]
  have bf:f≠[]:=λh=>by
   rw[h]at G;have:0<v.toNat*wF k:=Nat.mul_pos zB O;simp at G;omega
  have e2:dL (vW k) (wF k) (v.toNat:Int) ⟨k,p.take 10,a++f,[]⟩=p:=by
   unfold dL;rw[Os (λh=>by have:=h.2;rw[S]at this;have h3:0<v.toNat*wF k:=Nat.mul_pos zB O;omega)]
   show(p.take 10++ZC (vW k) (wF k) (v.toNat:Int) 0 (a++f))++([]++[])=p
   rw[EO _ _ _ zB f bf a 0 zB,zE1 bx,zB0,zB0,<-az];exact z.symm
  have ax:¬(200<ln p\/p.length<10):=by
   have:=zBq List.length az;rw[zBa,zDb]at this;omega
  have e:NR (vW k) (wF k) p=some (a++f):=by
   rw[eD ax,Os zB,C];rfl
  rw[e];rw[e2]at v2;rw[show Br (wF k) v.toNat ([]:List Int)=true from zA9 ⟨rfl,.inr zB⟩]at U;have bd:=wR p
  show zO 191 [iA k,zE yA p] [] (.tup [zX ⟨k,p.take 10,a++f,[]⟩,iA 0]) []
  rw[ac];clear z u E A e eD B C M a2 e2 az a6 ac S G L;generalize vW k=fx,wF k=gr at *;refine eM call191 λF hF=>?_
  (have ga:=I;have ge:=V;have gn:=R;have gt:=Y;have gv:=c4;have kj:=U;have lc:=v2;(repeat' (first|refine uT ?_|apply yW|apply xH|intro hc|(apply zG;first|(apply yE;first|(refine vU [4,6,7] [0,1,4,5,6,7,93] Z ?_;(conv=>whnf);(try simp only[zBr,zA8]);refine kX tok Z Z Z Z Z Z (yM _ _ (λ_=>rfl)) Z Z Z zB Z ?_)|refine gW tok Z Z Z Z Z Z (yM _ _ (λ_=>rfl)) Z Z Z zB Z Z Z ?_))|fail))<;>clear ga ge gn gt gv kj lc)
  exact zH
 .have e:NR (vW k) (wF k) p=none:=by
   by_cases h:200<ln p\/p.length<10
   .exact zA5 h
   .rw[eD h];by_cases a9:v<1
    .rw[zA5 (.inl a9)]
    .rw[Os zB,C];exact Os λh3=>av ⟨h3,zB⟩
  rw[e]
  rw[show Br (wF k) v.toNat W=false from zA7 (λh=>by
   rcases h with⟨h3,h4⟩
   exact av ⟨zB5 h3,zB⟩)]at U
  show zO 191 [iA k,zE yA p] [] (.tup [zX ⟨0,[],[],[]⟩,iA 6]) []
  clear z u E A e eD B C M a2 ac S G L v2;generalize vW k=fx,wF k=gr at *;refine eM call191 λF hF=>?_
  (have ga:=I;have ge:=V;have gn:=R;have gt:=Y;have gv:=c4;have kj:=U;(repeat' (first|refine uT ?_|apply yW|apply xH|intro hc|(apply zG;first|(apply yE;first|(refine vU [4,6,7] [0,1,4,5,6,7,93] Z ?_;(conv=>whnf);(try simp only[zBr,zA8]);refine kX tok Z Z Z Z Z Z (yM _ _ (λ_=>rfl)) Z Z Z zB Z ?_)|refine gW tok Z Z Z Z Z Z (yM _ _ (λ_=>rfl)) Z Z Z zB Z Z Z ?_))|fail))<;>clear ga ge gn gt gv kj)
  exact zH
def Mi (l:List Rq) (q:Int) (hv:cN l) (z:¬(ln l:Int)<=q):zO 354 [zE zY l,iA q] [] (bA false) []:=by
 have hl:=zA zY l;have u:=hv.n4;refine eM call354 λF hF=>?_
 exact ly
def Ad (l:List Rq) (q:Int) (hv:cN l) (W:¬(ln l:Int)<=q):zO 295 [zE zY l,iA q] [] (bA false) []:=by
 have hl:=zA zY l;have V:=hv.n4;refine eM call295 λF hF=>?_
 refine WW ?_;refine zN (ln l) [] [] [0,1,7,8] [9,0,1,7,8] Z (λi T U=>⟨(9,iA i)::T,U⟩) (Lq ?_ ?_)
 .intro i hi;have Y:=zJ zY l i hi;have B:l.getD i dd∈l:=by simp[pb,hi]
  obtain⟨i0,i1,v0,v1,R,S,t0,t1,z⟩:=hv.ok _ B;have C:=wQ (l.getD i dd).id 0 4294967295;have E:=wQ (l.getD i dd).vh 0 4294967295;have G:=wQ (l.getD i dd).cls 0 3;have L:=wQ (l.getD i dd).til 0 2147483648;have I:=GP (l.getD i dd).legs (by have:=YU z;omega);rw[zA9 zB]at C E G L;rw[z]at I;by_cases A:0<i
  .have u:=yF zY l ((i:Int)-1) zB zB;rw[show((i:Int)-1).toNat=i-1 by omega]at u;have O:(l.map zY)[((i:Int)-1).toNat]? =some (zY (l.getD (i-1) dd)):=by rw[show((i:Int)-1).toNat=i-1 by omega];exact u
   have M:=hv.lt A hi;clear u B z;generalize l.getD i dd=t,l.getD (i-1) dd=p at *;refine yJ (NV C E G L I) ?_;rfl
  .obtain rfl:i=0:=by omega
   clear B z;generalize l.getD 0 dd=t at *;refine yJ (NV C E G L I) ?_;rfl
 .exact ly
def Ki (l:List Rq) (q id:Int) (v:Vh) (u:Int) (x:List Lg) (f3:Int) (hv:cN l) (A:¬(ln l:Int)<=q):
  zO 353 [zE zY l,iA q,iA id,wX v,iA u,zE yO x,iA f3] [] (.tup [zE zY [],iA 1]) []:=by
 have z:=Mi l q hv A;refine eM call353 λF hF=>?_
 exact ng z
def ze (l:List Rq) (q id:Int) (v:Vh) (u:Int) (x:List Lg) (f3:Int) (hv:cN l) (A:¬(ln l:Int)<=q):
  zO 293 [zE zY l,iA q,iA id,wX v,iA u,zE yO x,iA f3] [] (.tup [zE zY [],iA 1]) []:=by
 have z:=Ad l q hv A;refine eM call293 λF hF=>?_
 exact ng z
def LM {r x:Rq}:x∈fB l r->x=r\/x∈l:=λh=>by
 unfold fB at h
 rcases zBs.1 h with h|h
 .exact .inr (zC2 h)
 .rcases zCt.1 h with h|h
  .exact .inl h
  .exact .inr (zCc h)
theorem A4 {q id u:Int} {v:Vh} {x:List Lg} (hv:cN l) (z:PH l q id u x=0) (I:0<=v.id) (L:v.id<=4294967295) (M:0<=v.cls) (O:v.cls<=3) (S:0<=f3) (U:f3<=1073741824):cN (fB l (gP id v u x f3)):=by
 have h1:0<=id/\id<=4294967295/\1<=u/\u<=600/\BG x=true:=by
  grind [PH,fB,gP]
 rw[PH,Os (λh=>h h1)]at z
 have hh:kV l id=false:=by
  grind
 rw[Os BW]at z;have R:¬(q<=ln l\/4<=(ln l:Int)):=λh=>by rw[zA5 h]at z;cases z
 have E:∀r∈l,r.id≠id:=by simpa [kV]using hh
 have C:=Sd l id;refine⟨λr A=>?_,?_,?_⟩
 .rcases LM A with rfl|A
  .exact⟨h1.1,h1.2.1,I,L,M,O,by show 0<=f3+u;omega,by show f3+u<=2147483648;omega,h1.2.2.2.2⟩
  .exact hv.ok r A
 .have G:=hv.so;unfold fB
  show((l.take (XG l id))++gP id v u x f3::l.drop (XG l id)).Pairwise _
  rw[zFd,zGd];have B:=G;rw[<-zEw (XG l id) l,zFd]at B
  grind [PH,fB,gP,XG,List.mem_iff_getElem,List.length_take,Rd,pb,List.mem_of_mem_drop,Pd,List.drop_eq_getElem_cons,List.pairwise_cons,List.drop_eq_nil_of_le]
 all_goals grind [PH,fB,gP]
theorem v5 {g:Lg} {p:Int×Int} (u:QW g=true) (h:IT f3 g p=true):QW (DB f3 g p)=true:=by grind [QW,IT,DB,EX]
theorem tg :∀(gs:List Lg) (w:List (Int×Int)) (f4 u:List Lg),u.map (·.jn)=f4.map (·.jn)->ln w=ln gs->(gs.zipWith (IT f3) w).all id=true->kO f4 gs=true->kO u (gs.zipWith (DB f3) w)=true
 | [],w,f4,u,_,_,_,_=>by cases w<;>rfl
 |g::gs,[],f4,u,_,hl,_,_=>by simp at hl
 |g::gs,p::w,f4,u,A,hl,z,h=>by
  rw[zEi,zFq,zBg]at z;rw[kO,zBg,zBg]at h;obtain⟨h1,h2,B⟩:=h;rw[zEi,kO,zBg,zBg];refine⟨v5 h1 z.1,?_,tg gs w (f4++[g]) (u++[DB f3 g p]) (by rw[zBd,zBd,A];rfl) BU z.2 B⟩;have e:∀l:List Lg,(l.any λy=>y.jn==g.jn)=(l.map (·.jn)).any (· ==g.jn):=λl=>by rw[List.any_map];rfl
  show(!(u.any λy=>y.jn==g.jn))=true
  rw[e,A,<-e];exact h2
theorem u5 {id:Int} {w:List (Int×Int)} (hv:cN l) (E:fV l id w f3=0):cN (YF l id w f3):=by
 have hh:kV l id=true:=by
  grind [fV,YF]
 obtain⟨f4,x,post,hL,I,_,G,_⟩:=RQ hh;rw[fV,zA5 hh,G]at E
 have C:ln w=ln x.legs/\ya x.legs w f3=true:=by
  grind
 have u:=hv.ok x BX;rw[ED hL hv I];have B:=hv.so;have A:=hv.n4;rw[hL]at B A;rw[zFd,zGd]at B;refine⟨λr z=>?_,?_,by simpa using A⟩
 .rw[zBs,zCt]at z
  rcases z with z|rfl|z
  .exact hv.ok r (by rw[hL];simp[z])
  .refine⟨u.i0,u.i1,u.v0,u.v1,u.c0,u.c1,u.t0,u.t1,?_⟩;have h1:=YU u.lg
   have h2:kO [] x.legs=true:=by
    have:=u.lg
    grind [fV,YF,BG]
   unfold BG;rw[zBg];exact⟨zA9 (by rw[List.length_zipWith];omega),tg x.legs w [] [] Z C.1 C.2 h2⟩
  .exact hv.ok r (by rw[hL];simp[z])
 all_goals grind [fV,YF,List.pairwise_cons]
