/- Part 11. -/
import Derived.Test.YtaglbcjljlkjcaaGreatW10
import Derived.Test.YtaglbcjljlkjcaaGreatW09
namespace Go.Proofs.YtaglbcjljlkjcaaGreat.Av
open Tryz
set_option linter.all false
set_option maxRecDepth 4000
set_option maxHeartbeats 2000000
open List renaming length->ln,getD->pb
open Inhabited renaming default->dd
variable {c:Cf}{f3:Int}{l:List Rq}
def Xy (d:Dk):Dk:=ad (ad (ad (ad d)))
def LO (d:Dk):Nat->List Jn×Dk
 |0=>([],d)
 |i+1=>((LO d i).1++[NY (LO d i).2],m7 (LO d i).2)
def SE (d:Dk) (u:Int):Nat->List Ag×Dk
 |0=>([],d)
 |i+1=>((SE d u i).1++[Xn (SE d u i).2 i u],ad (Ir (SE d u i).2))
theorem OD (d:Dk):∀i,(LO d i).1.length=i
 |0=>rfl
 |i+1=>by simp[LO,OD d i]
theorem cU (d:Dk) (u:Int):∀i,(SE d u i).1.length=i
 |0=>rfl
 |i+1=>by simp[SE,cU d u i]
def S3 (d:Dk) (u:Int) (i:Nat):(SE d u (i+1)).2=ad (Ir (SE d u i).2):=by simp only[SE]
def yp (d:Dk) (u:Int) (i:Nat):(SE d u (i+1)).1=(SE d u i).1++[Xn (SE d u i).2 i u]:=by simp only[SE]
def d6 (d:Dk):Nat:=(1+nx (Xy d) 2).toNat
def ai (d:Dk):List Jn×Dk:=LO (ad (Xy d)) (d6 d)
def R3 (d:Dk):Nat:=(1+nx (ai d).2 3).toNat
def Q3 (d:Dk) (u:Int):List Ag×Dk:=SE (ad (ai d).2) u (R3 d)
def FJ (d:Dk) (u:Int):Cf:=⟨(ai d).1,(Q3 d u).1,1+nx d (4-1+1),nx (ad d) 4,1+nx (ad (ad d)) (3-1+1),nx (ad (ad (ad d))) 5⟩
def cfD (d:Dk) (u:Int):Dk:=(Q3 d u).2
theorem xp (d:Dk) (u:Int):zN 40 [.ptr 1000 0 0,iA u] [(1000,eE d)] (wE (FJ d u)) [(1000,eE (cfD d u))]:=by
 have hn:=yQ (Xy d) 2 zB;have hm:=yQ (ai d).2 3 zB;have en:1+nx (Xy d) 2=(d6 d:Int):=(zEm zB).symm;have em:1+nx (ai d).2 3=(R3 d:Int):=(zEm zB).symm;have ej:ai d=LO (ad (Xy d)) (d6 d):=rfl;have eg:Q3 d u=SE (ad (ai d).2) u (R3 d):=rfl;have ef:FJ d u=⟨(ai d).1,(Q3 d u).1,1+nx d (4-1+1),nx (ad d) 4,1+nx (ad (ad d)) (3-1+1),nx (ad (ad (ad d))) 5⟩:=rfl;have ed:cfD d u=(Q3 d u).2:=rfl;rw[ef,ed];unfold Xy at *;generalize ai d=jj,Q3 d u=gg,d6 d=N,R3 d=M at *;have jc:=λi=>Sc (LO (ad (ad (ad (ad (ad d))))) i).2
 refine eM call40 λF hF=>?_
 (repeat' (first|refine aM ?_|refine yW (λhc=>?_) λhc=>?_|(apply zG;apply xP;(first|(refine vG 68 ?_;first|refine wM (zL (jO _ _ _ zB zB zB) Z Z Z Z Z) Z ?_|refine uU (zL (jO _ _ _ zB zB zB) Z Z Z Z Z) Z Z Z ?_|refine aF (zL (jO _ _ _ zB zB zB) Z Z Z Z Z) Z Z Z ?_)|(refine vG 16 ?_;first|refine wM (zL (yT _ _ zB zB) Z Z Z Z Z) Z ?_|refine uU (zL (yT _ _ zB zB) Z Z Z Z Z) Z Z Z ?_|refine aF (zL (yT _ _ zB zB) Z Z Z Z Z) Z Z Z ?_)))|fail))
 generalize nx d (4-1+1)=S,nx (ad d) 4=U,nx (ad (ad d)) (3-1+1)=V,nx (ad (ad (ad d))) 5=W,nx (ad (ad (ad (ad d)))) 2=O,ad (ad (ad (ad (ad d))))=C at *;refine gI 5 0 1001 3 Z Z Z Z Z ?_
 refine wP (λn st=>∃i:Nat,n+i=N/\st=⟨[(0,.ptr 1000 0 0),(1,iA u),(4,.ptr 4 0 0),(5,.ptr 5 0 0),(6,iA (1+O-i))],
   [(1000,eE (LO C i).2),(4,.box [.s (.slice none 0 0),.s (.slice none 0 0),iA 0,iA 0,iA 0,iA 0]),(5,.box [.ref 1001 0 ((LO C i).1.map wJ).length,.s (.slice none 0 0),iA (1+S),iA U,iA (1+V),iA W]),(1001,.arr 3 ((LO C i).1.map wJ) true)]⟩)
  N [1000,4,5,1001] [0,1,4,5,6] Z ⟨0,rfl,by rw[show 1+O-(0:Nat)=1+O by omega];rfl⟩ ?_
 rintro n st ⟨i,hi,rfl⟩;by_cases I:i<N
 .have A:(LO C (i+1)).1.map wJ=(LO C i).1.map wJ++[wJ (NY (LO C i).2)]:=zAy;have z:(LO C (i+1)).2=m7 (LO C i).2:=rfl;have c:=jc i;have G:=OD C i;generalize L:LO C (i+1)=q' at A z;generalize LO C i=q at *;obtain⟨ql,R⟩:=q;dsimp only at A z G c⊢;generalize NY R=jf,m7 R=jd at *;refine zS c ?_;exact⟨n-1,zB,i+1,zB,by rw[L,A,z,show 1+O-((i+1:Nat):Int)=1+O-i-1 by omega];rfl⟩
 obtain rfl:i=N:=by omega
 have ap:jj.1.length=i:=by rw[ej];exact OD _ _
 rw[<-ej];clear ej jc ef ed;obtain⟨E,Y⟩:=jj;dsimp only at *;have ar:(E.map wJ).length=ln E:=by simp
 have ag:=cU (ad Y) u M;have ac:=λk (hk:k<M)=>Wn (SE (ad Y) u k).2 k u zB zB
 rw[<-eg]at ag
 (repeat' (first|refine aM ?_|refine yW (λhc=>?_) λhc=>?_|(apply zG;apply xP;(first|(refine vG 16 ?_;first|refine wM (zL (yT _ _ zB zB) Z Z Z Z Z) Z ?_|refine uU (zL (yT _ _ zB zB) Z Z Z Z Z) Z Z Z ?_|refine aF (zL (yT _ _ zB zB) Z Z Z Z Z) Z Z Z ?_)))|fail))
 generalize nx Y 3=n3,ad Y=B at *
 refine kW (st':=⟨[(0,.ptr 1000 0 0),(1,iA u),(4,.ptr 4 0 0),(5,.ptr 5 0 0),(33,iA (1+n3)),(34,iA 0)],
   [(1000,eE B),(4,.box [.s (.slice none 0 0),.s (.slice none 0 0),iA 0,iA 0,iA 0,iA 0]),(5,.box [zE wJ E,.s (.slice none 0 0),iA (1+S),iA U,iA (1+V),iA W])]⟩) [1000,4,5] [0,1,4,5,33,34] Z (by
  have e1:zE wJ E= .sl false (List.take (E.map wJ).length (List.drop 0 (E.map wJ))):=by
   rw[zBd,zAt];rfl
  rw[e1]
  rfl) ?_
 refine gI 5 1 1002 8 Z Z Z Z Z ?_
 refine wP (λn st=>∃k:Nat,n+k=M/\st=⟨[(0,.ptr 1000 0 0),(1,iA u),(4,.ptr 4 0 0),(5,.ptr 5 0 0),(33,iA (1+n3)),(34,iA k)],
   [(1000,eE (SE B u k).2),(4,.box [.s (.slice none 0 0),.s (.slice none 0 0),iA 0,iA 0,iA 0,iA 0]),(5,.box [zE wJ E,.ref 1002 0 ((SE B u k).1.map uI).length,iA (1+S),iA U,iA (1+V),iA W]),(1002,.arr 8 ((SE B u k).1.map uI) true)]⟩)
  M [1000,4,5,1002] [0,1,4,5,33,34] Z ⟨0,rfl,rfl⟩ ?_
 clear n hi I;rintro n st ⟨k,hk,rfl⟩;by_cases I:k<M
 .have A:(SE B u (k+1)).1.map uI=(SE B u k).1.map uI++[uI (Xn (SE B u k).2 k u)]:=by rw[yp];exact zAy
  have z:(SE B u (k+1)).2=ad (Ir (SE B u k).2):=S3 B u k;have c:=ac k I;have G:=cU B u k;clear ac;generalize L:SE B u (k+1)=q' at A z;generalize SE B u k=q at *;obtain⟨ql,R⟩:=q;dsimp only at A z G c⊢;generalize Xn R k u=jf,ad (Ir R)=jd at *;refine zS c ?_;exact⟨n-1,zB,k+1,zB,by rw[L,A,z];rfl⟩
 obtain rfl:k=M:=by omega
 rw[<-eg];clear eg ac;refine WW ?_;exact zP [1000] Z Z (zBb (λx=>AV.agg [zE wJ E,AV.sl false x,iA (1+S),iA U,iA (1+V),iA W]) zAt) Z
def IG (c:Cf):Prop:=ln c.js<=4/\∀j∈c.js,1<=ln j.ph/\j.ph.length<=8
theorem IG.at (h:IG c) {j:Int} (u:0<=j) (h1:j<((c.js.map wJ).length:Int)):1<=(c.js.getD j.toNat dd).ph.length/\(c.js.getD j.toNat dd).ph.length<=8:=by grind [IG,wJ]
def qJ (c:Cf) (e:Dk) (k:Nat):Int:=Int.tmod (nx e 3+k) (max 1 (((c.js.map wJ).length:Int)+(nx (ad e) 12).tdiv 11))
def qP (c:Cf) (j:Int):Int:=if j<((c.js.map wJ).length:Int)then(((c.js.getD j.toNat dd).ph.map xN).length:Int)else 2
theorem FK (x:Int) (h:0<=x/\x<12):0<=x.tdiv 11/\x.tdiv 11<=1/\aB .i64 (x.tdiv 11):=by grind [aB]
theorem vp (a b:Int) (u:0<=a) (h1:1<=b) (h2:b<=1000):0<=a.tmod b/\a.tmod b<=1000/\aB .i64 (a.tmod b):=by
 have:=zF8 b u;have z:a.tmod b<b:=zFq a zB
 grind [aB]
theorem O7 (h:IG c) (e:Dk) (k:Nat):0<=qJ c e k/\qJ c e k<=1000:=by
 have B:=yQ e 3 zB;have w2:=yQ (ad e) 12 zB;obtain⟨A,z,u⟩:=FK _ w2;have h1:=h.1;have h2:(c.js.map wJ).length=ln c.js:=zAr ..;have:=vp (nx e 3+k) (max 1 (((c.js.map wJ).length:Int)+(nx (ad e) 12).tdiv 11)) zB zB zB
 grind [IG,Dk,qJ]
theorem N7 (h:IG c) {j:Int} (u:0<=j):1<=qP c j/\qP c j<=8:=by grind [IG,qP]
def ja (c:Cf) (k:Nat) (l:List Int) (e:Dk):List Int×Dk:=
 (l++[qJ c e k,nx (ad (ad (ad (ad e)))) (qP c (qJ c e k)+(nx (ad (ad (ad e))) 12).tdiv 11),nx (ad (ad e)) 3,nx (ad (ad e)) 3+nx (ad (ad (ad (ad (ad e))))) 50],ad (ad (ad (ad (ad (ad e))))))
def ZA (c:Cf) (l:List Int) (d:Dk):Nat->List Int×Dk
 |0=>(l,d)
 |i+1=>ja c i (ZA c l d i).1 (ZA c l d i).2
def RO (l:List Int):Prop:=∀x∈l,0<=x/\x<=4294967295
theorem RO.app {a b:List Int} (h1:RO a) (h2:RO b):RO (a++b):=λx hx=>(zBc.1 hx).elim (h1 x) (h2 x)
theorem RO.cons {x:Int} {b:List Int} (h1:0<=x/\x<=4294967295) (h2:RO b):RO (x::b):=λy u=>(zCf.1 u).elim (λe=>e▸h1) (h2 y)
theorem RO.nil:RO []:=λx hx=>by cases hx
theorem Ud (hc:IG c) (l:List Int) (hl:RO l) (d:Dk):∀i,(ZA c l d i).1.length=ln l+i*4/\rem (ZA c l d i).2<=rem d/\RO (ZA c l d i).1
 |0=>⟨rfl,zAw _,hl⟩
 |i+1=>by
  have u:=Ud hc l hl d i
  show(ja c i _ _).1.length=_/\rem (ja c i _ _).2<=_/\RO (ja c i _ _).1
  generalize (ZA c l d i).2=e at *;have A:=vF e;have B:=vF (ad e);have C:=vF (ad (ad e));have E:=vF (ad (ad (ad e)));have G:=vF (ad (ad (ad (ad e))));have I:=vF (ad (ad (ad (ad (ad e)))));have j1:=O7 hc e i;have j2:=N7 hc j1.1;have O:=yQ (ad (ad e)) 3 zB;have z:=yQ (ad (ad (ad e))) 12 zB;have S:=yQ (ad (ad (ad (ad (ad e))))) 50 zB;obtain⟨M,L,_⟩:=FK _ z;have R:=yQ (ad (ad (ad (ad e)))) (qP c (qJ c e i)+(nx (ad (ad (ad e))) 12).tdiv 11) zB;refine⟨by simp only[ja,zAv,zA6,zBx];omega,by simp only[ja];omega,?_⟩;exact u.2.2.app (.cons zB (.cons zB (.cons zB (.cons zB .nil))))
theorem Xv (c:Cf) (hc:IG c) (l:List Int) (hl:ln l<=1000) (hn:RO l) (d:Dk):zN 67 [.ptr 1000 0 0,wE c,.ref 107 0 (l.map iA).length] [(1000,eE d),(107,.arr 1 (l.map iA) false)] (.ref 107 0 ((ZA c l (ad d) (1+(nx d 2).toNat)).1.map iA).length) [(1000,eE (ZA c l (ad d) (1+(nx d 2).toNat)).2),(107,.arr 1 ((ZA c l (ad d) (1+(nx d 2).toNat)).1.map iA) true)]:=by
 have c1:=yT d 2 zB zB;have b1:=yQ d 2 zB;generalize nx d 2=n,ad d=z at *;obtain⟨N,hN⟩:∃N:Nat,1+n.toNat=N:=⟨_,rfl⟩;have ac:1+n=(N:Int):=by omega
 rw[hN];have ar:=hc.1;have ap:(c.js.map wJ).length=ln c.js:=zAr ..;unfold wE zE;refine eM call67 λF hF=>?_
 refine zS c1 ?_;refine vO 107 Z ?_;refine zO (N) [1000,107,4] [4] [0,4,15] [2,16,0,4,15] Z (λi T U=>⟨(2,.ref 107 0 ((ZA c l z i).1.map iA).length)::(16,iA i)::T,(1000,eE (ZA c l z i).2)::(107,.arr 1 ((ZA c l z i).1.map iA) true)::U⟩) (Lq ?_ ?_)
 .intro i hi;have hl:=(Ud hc l hn z i).1;have C:ZA c l z (i+1)=ja c i (ZA c l z i).1 (ZA c l z i).2:=rfl;unfold ja at C;generalize (ZA c l z i).1=p at *;generalize (ZA c l z i).2=e at *;have ag:(i:Int)<=1:=by omega
  have M:=yT e 3 zB zB;have O:=yT (ad e) 12 zB zB;have R:=yT (ad (ad e)) 3 zB zB;have S:=yT (ad (ad (ad e))) 12 zB zB;have w1:=yQ e 3 zB;have w2:=yQ (ad e) 12 zB;have w3:=yQ (ad (ad e)) 3 zB;have w4:=yQ (ad (ad (ad e))) 12 zB;obtain⟨v2,u2,i2⟩:=FK _ w2;obtain⟨v4,u4,i4⟩:=FK _ w4;have E:=O7 hc e i;have G:=N7 hc E.1;have B:=yT (ad (ad (ad (ad e)))) (qP c (qJ c e i)+(nx (ad (ad (ad e))) 12).tdiv 11) zB zB;have V:=yT (ad (ad (ad (ad (ad e))))) 50 zB zB;have w6:=yQ (ad (ad (ad (ad (ad e))))) 50 zB;generalize L:nx (ad (ad (ad (ad e)))) (qP c (qJ c e i)+(nx (ad (ad (ad e))) 12).tdiv 11)=x5 at *;clear L;have A:=λh=>yE wJ c.js (qJ c e i) E.1 h
  have u:=λh=>hc.at (c:=c) (j:=qJ c e i) E.1 h
  have I:1<=max 1 (((c.js.map wJ).length:Int)+(nx (ad e) 12).tdiv 11)/\max 1 (((c.js.map wJ).length:Int)+(nx (ad e) 12).tdiv 11)<=1000:=by omega
  have tb:=vp (nx e 3+i) _ zB I.1 I.2;unfold qP at B G;unfold qJ at B C E A u G;rw[C];clear C hc;generalize nx (ad (ad (ad (ad (ad e))))) 50=x6,nx (ad (ad (ad e))) 12=x4,nx (ad (ad e)) 3=x3,nx (ad e) 12=Y,nx e 3=W at *;generalize ad e=e1 at *;generalize ad e1=e2 at *;generalize ad e2=e3 at *;generalize ad e3=e4 at *;generalize ad e4=e5 at *;generalize ad e5=e6 at *;obtain⟨au,av⟩:=I;obtain⟨az,a1,a2⟩:=tb;by_cases hj:Int.tmod (W+i) (max 1 (((c.js.map wJ).length:Int)+Y.tdiv 11))<((c.js.map wJ).length:Int)
  .rw[f5 hj]at B G;have hy:=A zB;have hz:=u hj;clear A u;generalize c.js.getD (Int.tmod (W+i) (max 1 (((c.js.map wJ).length:Int)+Y.tdiv 11))).toNat dd=J at *;have ax:(J.ph.map xN).length=ln J.ph:=zAr ..;unfold wJ zE at hy;generalize J.ph.map xN=P at *;generalize J.cf.map iA=Cz at *;refine yG (mb M O R S B V) ?_
   show restr _ _ _=_
   rw[zAy];rfl
  .rw[Os hj]at B G;clear A u;refine yG (mb M O R S B V) ?_
   show restr _ _ _=_
   rw[zAy];rfl
 ·(refine WW ?_)
  exact zP [1000,107] Z Z Z Z
def Sd (g:Int) (d:Dk):List Int×Dk:=
 if nx d 9=7 then(g::nx (ad d) 4::cL (2000+10*g+nx (ad (ad d)) 3),ad (ad (ad d)))
 else if nx d 9=8 then(nx (ad d) 3::0::cL (1000+nx (ad (ad d)) 3),ad (ad (ad d)))
 else(g::0::cL (1000+g),ad d)
theorem P3 (g:Int) (u:0<=g/\g<256) (d:Dk):BY (Sd g d).1/\rem (Sd g d).2<=rem d:=by grind [Dk,BY,Sd,rem,vF,ad,yQ,Mp,OE]
def Wv (q:Int):Int:=if q=1 then 4 else if q=3 then 7 else 6
theorem Vv (q:Int) (h:0<=q/\q<4):([AV.s (.int .i64 6),AV.s (.int .i64 4),AV.s (.int .i64 6),AV.s (.int .i64 7)]:List AV)[q.toNat]? =some (AV.s (.int .i64 (Wv q))):=by grind [Wv]
def ni (k:Int) (d:Dk):Int×Dk:=if nx d 2=0 then(Wv (nx (ad d) 4),ad (ad d))else(k,ad d)
theorem O3 (k:Int) (hk:1<=k/\k<=12) (d:Dk):(1<=(ni k d).1/\(ni k d).1<=12)/\rem (ni k d).2<=rem d:=by grind [Dk,ni,rem,vF,ad,Wv]
def aa (l:List Int) (d:Dk):List Int×Dk:=(l++[nx d 3,nx d 3+nx (ad d) 40],ad (ad d))
def VQ (l:List Int) (d:Dk):Nat->List Int×Dk
 |0=>(l,d)
 |i+1=>aa (VQ l d i).1 (VQ l d i).2
theorem Rd (l:List Int) (hl:RO l) (d:Dk):∀i,(VQ l d i).1.length=ln l+i*2/\rem (VQ l d i).2<=rem d/\RO (VQ l d i).1
 |0=>⟨rfl,zAw _,hl⟩
 |i+1=>by
  have u:=Rd l hl d i
  show(aa _ _).1.length=_/\rem (aa _ _).2<=_/\RO (aa _ _).1
  generalize (VQ l d i).2=e at *;have z:=vF e;have A:=vF (ad e);have B:=yQ e 3 zB;have w2:=yQ (ad e) 40 zB;refine⟨by simp only[aa,zAv,zA6,zBx];omega,by simp only[aa];omega,?_⟩;exact u.2.2.app (.cons zB (.cons zB .nil))
def mi (q:Int):Int:=if q=0 then 63 else if q=1 then 1 else if q=2 then 3 else if q=3 then 47 else 64
def Pd (q:Int):Int:=if q=0 then 0 else if q=1 then 5 else if q=2 then 30 else 700
def Uv (q:Int) (h:0<=q/\q<5):([AV.s (.int .i64 63),AV.s (.int .i64 1),AV.s (.int .i64 3),AV.s (.int .i64 47),AV.s (.int .i64 64)]:List AV)[q.toNat]? =some (AV.s (.int .i64 (mi q))):=by
 have:q=0\/q=1\/q=2\/q=3\/q=4:=by omega
 rcases this with rfl|rfl|rfl|rfl|rfl<;>rfl
theorem Tv (q:Int) (h:0<=q/\q<4):([AV.s (.int .i64 0),AV.s (.int .i64 5),AV.s (.int .i64 30),AV.s (.int .i64 700)]:List AV)[q.toNat]? =some (AV.s (.int .i64 (Pd q))):=by grind [Pd]
def Od (u:Cf) (k c:Int) (d:Dk):List Int×Dk:=
 if k=2 then([mi (nx d 5),nx (ad d) 5,Pd (nx (ad (ad d)) 4)],ad (ad (ad d)))
 else if k=3\/k=8\/k=5\/k=10\/k=11 then([nx d 4],ad d)
 else if k=4 then([nx d 4,c],ad d)
 else if k=6 then ZA u [nx d 4,nx (ad d) 4,1+nx (ad (ad d)) (60-1+1)] (ad (ad (ad (ad d)))) (1+(nx (ad (ad (ad d))) 2).toNat)
 else if k=7 then VQ [nx d 4] (ad (ad d)) (1+(nx (ad d) 2).toNat)
 else([],d)
theorem up (g:Int) (d:Dk):(Sd g d).1.length=10:=by grind [Dk,Sd,gZ]
theorem N3 {u:Cf} (hc:IG u) (k c:Int) (E:0<=c/\c<=10) (hk:1<=k/\k<=12) (d:Dk):rem (Od u k c d).2<=rem d/\RO (Od u k c d).1/\∃n:Nat,n<=2/\(wD k≠0->1<=n)/\(Od u k c d).1.length=vS k+n*wD k:=by
 have M:=vF d;have O:=vF (ad d);have R:=vF (ad (ad d));have S:=vF (ad (ad (ad d)));have U:=yQ d 4 zB;have w2:=yQ (ad d) 4 zB;have V:=yQ (ad (ad d)) (60-1+1) zB;have W:=yQ (ad (ad (ad d))) 2 zB;have Y:=yQ (ad d) 2 zB;have w6:=yQ (ad d) 5 zB;have B:0<=mi (nx d 5)/\mi (nx d 5)<=64:=by unfold mi;repeat' split;all_goals omega
 have C:0<=Pd (nx (ad (ad d)) 4)/\Pd (nx (ad (ad d)) 4)<=700:=by unfold Pd;repeat' split;all_goals omega
 unfold Od;split
 .rename_i h;subst h;exact⟨by dsimp only;omega,.cons zB (.cons zB (.cons zB .nil)),0,zB,λh=>absurd Z h,rfl⟩
 split
 .rename_i h
  refine⟨by dsimp only;omega,.cons zB .nil,0,zB,λh2=>?_,?_⟩<;>rcases h with rfl|rfl|rfl|rfl|rfl
  all_goals first|rfl|exact absurd Z h2
 split
 .rename_i h;subst h;exact⟨by dsimp only;omega,.cons zB (.cons zB .nil),0,zB,λh=>absurd Z h,rfl⟩
 split
 .grind [IG,Dk,rem,Od,RO,wD,vS,p2,Ud,nx,ad]
 split
 .rename_i h;subst h;obtain⟨z,p2,A⟩:=Rd [nx d 4] (.cons zB .nil) (ad (ad d)) (1+(nx (ad d) 2).toNat);exact⟨zB,A,_,zB,λ_=>by omega,z⟩
 .rename_i h1 h2 G I L;have:k=1\/k=9\/k=12:=by omega
  refine⟨zAw _,.nil,0,zB,λh2=>?_,?_⟩<;>rcases this with rfl|rfl|rfl
  all_goals first|rfl|exact absurd Z h2
structure M3 (m:Ms):Prop where
 t:BY m.tok
 l:m.tok.length=10
 k:1<=m.kind/\m.kind<=12
 n:RO m.args
 c:∃n:Nat,n<=2/\(wD m.kind≠0->1<=n)/\m.args.length=vS m.kind+n*wD m.kind
 d:m.data=[]
def p6 (u:Bool) (d:Dk):Int×Dk:=if u=true then(nx (ad d) 2,ad (ad d))else(nx d 4,ad d)
theorem M7 (u:Bool) (d:Dk):(0<=(p6 u d).1/\(p6 u d).1<=10)/\rem (p6 u d).2<=rem d:=by
 have z:=vF d;have A:=vF (ad d);have B:=yQ d 4 zB;have w2:=yQ (ad d) 2 zB
 grind [Dk,p6,rem]
theorem ZW (c:Cf) (hc:IG c) (g:Int) (hg:0<=g/\g<256) (cm:Bool) (d:Dk):∃(m:Ms) (d':Dk),M3 m/\rem d'<=rem d/\zN 20 [.ptr 1000 0 0,wE c,iA g,bA cm] [(1000,eE d)] (zW m) [(1000,eE d')]:=by
 have c1:=yT d 12 zB zB;have b1:=yQ d 12 zB;have r1:=vF d;have ar:=cE (1000+g);have ag:=YA g 0 (cL (1000+g)) (by rw[gZ];omega) hg.1 hg.2 zB zB;generalize hx:nx d 12=x at *;generalize ad d=B at *;have hT:=P3 g hg B;have ac:=up g B;generalize E:Sd g B=v at *;obtain⟨M,d2⟩:=v;dsimp only at hT ac;have O:=O3 (1+x) zB d2;generalize C:ni (1+x) d2=v at *;obtain⟨k,d3⟩:=v;dsimp only at O;have W:=M7 cm d3;generalize I:p6 cm d3=v at *;obtain⟨cl,A⟩:=v;dsimp only at W;have R:=N3 hc k cl W.1 O.1 A;generalize u:Od c k cl A=v at *;obtain⟨args,d5⟩:=v;dsimp only at R;refine⟨⟨k,M,args,[]⟩,d5,⟨hT.1,ac,O.1,R.2.1,R.2.2,rfl⟩,by have:=hT.2;have:=O.2;have:=W.2;have:=R.1;omega,?_⟩;clear ac;have n9:=yT B 9 zB zB;have ap:=Xv c hc;unfold wE at *;rw[show zE wJ c.js= .sl false (c.js.map wJ)from Z,show zE uI c.ags= .sl false (c.ags.map uI)from Z]at *; generalize c.js.map wJ=JS,c.ags.map uI=Y at *;refine eM call20 λF hF=>?_
 (have ga:=c1;have ge:=n9;have gn:=ar;have gt:=ag;(repeat' (first|refine Yf ?_|apply yW|apply xI|intro hc|(apply zG;first|refine SM ?_)|fail))<;>clear ga ge gn gt)
 refine eQ [1000,5,8,9] [0,2,3,5,8,9] ⟨[(0,.ptr 1000 0 0),(2,iA g),(3,bA cm),(5,.ptr 5 0 0),(8,.ptr 8 0 0),(9,.ptr 9 0 0)],[(1000,eE d2),(5,.box [.sl false JS,.sl false Y,iA c.per,iA c.cap,iA c.hold,iA c.lock]),(8,.box [iA 0,.s (.slice none 0 0),.s (.slice none 0 0),.s (.slice none 0 0)]),(9,.box [iA (1+x),zE yA M,.s (.slice none 0 0),.s (.slice none 0 0)])]⟩ rfl ?_ ?_
 .unfold Sd at E;by_cases h7:nx B 9=7
  .rw[f5 h7]at E;cases E;have L:=yT (ad B) 4 zB zB;have G:=yT (ad (ad B)) 3 zB zB;have w1:=yQ (ad B) 4 zB;have w2:=yQ (ad (ad B)) 3 zB;have cs:=cE (2000+10*g+nx (ad (ad B)) 3);have cb:=YA g (nx (ad B) 4) (cL (2000+10*g+nx (ad (ad B)) 3)) (by rw[gZ];omega) hg.1 hg.2 zB zB;clear hT C;refine yG (cD L G cs cb) ?_;exact⟨rfl,rfl⟩
  rw[Os h7]at E;by_cases h8:nx B 9=8
  .rw[f5 h8]at E;cases E;have L:=yT (ad B) 3 zB zB;have G:=yT (ad (ad B)) 3 zB zB;have w1:=yQ (ad B) 3 zB;have w2:=yQ (ad (ad B)) 3 zB;have cs:=cE (1000+nx (ad (ad B)) 3);have cb:=YA (nx (ad B) 3) 0 (cL (1000+nx (ad (ad B)) 3)) (by rw[gZ];omega) zB zB zB zB;clear hT C;refine yG (cD L G cs cb) ?_;exact⟨rfl,rfl⟩
  .rw[Os h8]at E;cases E;clear hT C;refine WW ?_;exact⟨rfl,rfl⟩
 clear E n9 c1 ar ag;have G:=yT d2 2 zB zB
 (have ga:=G;(repeat' (first|refine Yf ?_|apply yW|apply xI|intro hc|(apply zG;first|refine SM ?_)|fail))<;>clear ga)
 refine eQ [1000,5,8,9] [0,2,3,5,8,9] ⟨[(0,.ptr 1000 0 0),(2,iA g),(3,bA cm),(5,.ptr 5 0 0),(8,.ptr 8 0 0),(9,.ptr 9 0 0)],[(1000,eE d3),(5,.box [.sl false JS,.sl false Y,iA c.per,iA c.cap,iA c.hold,iA c.lock]),(8,.box [iA 0,.s (.slice none 0 0),.s (.slice none 0 0),.s (.slice none 0 0)]),(9,.box [iA k,zE yA M,.s (.slice none 0 0),.s (.slice none 0 0)])]⟩ rfl ?_ ?_
 .unfold ni at C;have n3:=yT (ad d2) 4 zB zB;have w3:=yQ (ad d2) 4 zB;have hy:=Vv _ w3;have au:([AV.s (.int .i64 6),AV.s (.int .i64 4),AV.s (.int .i64 6),AV.s (.int .i64 7)]:List AV).length=4:=rfl;clear u I O;by_cases h0:nx d2 2=0
  .rw[f5 h0]at C;cases C;refine zS n3 (I2 (λhc=>?_) λhc=>?_)
   all_goals first|(exfalso;omega;done)|exact⟨rfl,rfl⟩
  .rw[Os h0]at C;cases C;refine zS n3 (I2 (λhc=>?_) λhc=>?_)
   all_goals first|(exfalso;omega;done)|exact⟨rfl,rfl⟩
 clear C G;have c3:=yT d3 4 zB zB
 (have ga:=c3;(repeat' (first|refine Yf ?_|apply yW|apply xI|intro hc|(apply zG;first|refine SM ?_)|fail))<;>clear ga)
 refine eQ [1000,5,8,9] [0,2,3,5,8,9,10] ⟨[(0,.ptr 1000 0 0),(2,iA g),(3,bA cm),(5,.ptr 5 0 0),(8,.ptr 8 0 0),(9,.ptr 9 0 0),(10,iA cl)],[(1000,eE A),(5,.box [.sl false JS,.sl false Y,iA c.per,iA c.cap,iA c.hold,iA c.lock]),(8,.box [iA 0,.s (.slice none 0 0),.s (.slice none 0 0),.s (.slice none 0 0)]),(9,.box [iA k,zE yA M,.s (.slice none 0 0),.s (.slice none 0 0)])]⟩ rfl ?_ ?_
 .unfold p6 at I;clear u;have G:=yT (ad d3) 2 zB zB
  cases cm with
  |true=>
   rw[f5 Z]at I;cases I;refine zS G ?_;exact⟨rfl,rfl⟩
  |false=>
   rw[Os zA7]at I;cases I;refine WW ?_;exact⟨rfl,rfl⟩
 clear I c3
 (repeat' (first|refine f9 ?_|apply yW|apply xI|intro hc|(apply zG;first|refine SM ?_)|fail))
 have b4:=yQ A 4 zB;unfold Od at u;by_cases k2:k=2
 .rw[f5 k2]at u;cases u;have L:=yT A 5 zB zB;have G:=yT (ad A) 5 zB zB;have n3:=yT (ad (ad A)) 4 zB zB;have w1:=yQ A 5 zB;have w3:=yQ (ad (ad A)) 4 zB;have h1:=Uv _ w1;have h3:=Tv _ w3;have a2:([AV.s (.int .i64 63),AV.s (.int .i64 1),AV.s (.int .i64 3),AV.s (.int .i64 47),AV.s (.int .i64 64)]:List AV).length=5:=rfl;have au:([AV.s (.int .i64 0),AV.s (.int .i64 5),AV.s (.int .i64 30),AV.s (.int .i64 700)]:List AV).length=4:=rfl;generalize mi (nx A 5)=y1,Pd (nx (ad (ad A)) 4)=y3 at *;clear R O W hT;refine yG (qM L G n3) ?_;exact zH [1000] Z Z Z Z
 rw[Os k2]at u;by_cases k3:k=3\/k=8\/k=5\/k=10\/k=11
 .rw[f5 k3]at u;cases u;have L:=yT A 4 zB zB;clear R O W hT
  rcases k3 with h|h|h|h|h<;>((refine zS L ?_);exact zH [1000] Z Z Z Z)
 rw[Os k3]at u;by_cases k4:k=4
 .rw[f5 k4]at u;cases u;have L:=yT A 4 zB zB;clear R O W hT;refine zS L ?_;exact zH [1000] Z Z Z Z
 rw[Os k4]at u;by_cases k6:k=6
 .rw[f5 k6]at u;have L:=yT A 4 zB zB;have G:=yT (ad A) 4 zB zB;have n3:=jO (ad (ad A)) 1 60 zB zB zB;have w1:=yQ A 4 zB;have w2:=yQ (ad A) 4 zB;have w3:=yQ (ad (ad A)) (60-1+1) zB;have cq:=ap [nx A 4,nx (ad A) 4,1+nx (ad (ad A)) (60-1+1)] zV (.cons zB (.cons zB (.cons zB .nil))) (ad (ad (ad A)));rw[u]at cq;clear ap;clear R O W hT u;generalize 1+nx (ad (ad A)) (60-1+1)=x3,nx (ad A) 4=x2,nx A 4=S at *;refine yG (cD L G n3 cq) ?_;exact zH [1000] Z Z (zBb (λz=>AV.agg [iA k,zE yA M,.sl false z,zE yA []]) (zAt (l:=args.map iA))) Z
 rw[Os k6]at u;by_cases k7:k=7
 .rw[f5 k7]at u;have L:=yT A 4 zB zB;have G:=yT (ad A) 2 zB zB;have w2:=yQ (ad A) 2 zB;have w1:=yQ A 4 zB;have av:RO [nx A 4]:= .cons zB .nil;clear w1;clear R O W hT;generalize nx A 4=S at *;generalize nx (ad A) 2=n at *;generalize ad A=e4 at *;generalize ad e4=V at *;obtain⟨N,hN⟩:∃N:Nat,1+n.toNat=N:=⟨_,rfl⟩;have ax:1+n=(N:Int):=by omega
  rw[hN]at u;refine yG (xV L G) ?_;refine vO 114 Z ?_;refine zO (N) [9,1000,114,8] [8] [0,8,9] [11,0,8,9] Z (λi T U=>⟨(11,iA ((N:Int)-i))::T,(9,.box [iA k,zE yA M,.ref 114 0 ((VQ [S] V i).1.map iA).length,.s (.slice none 0 0)])::(1000,eE (VQ [S] V i).2)::(114,.arr 1 ((VQ [S] V i).1.map iA) true)::U⟩) ?_;(conv=>whnf);refine⟨by(rw[show(N:Int)-(0:Nat)=1+n by omega];rfl),?_,?_⟩
  .intro i hi;have hl:=(Rd [S] av V i).1;have eS:VQ [S] V (i+1)=aa (VQ [S] V i).1 (VQ [S] V i).2:=rfl;unfold aa at eS;rw[show((N:Int)-((i+1:Nat):Int))=(N:Int)-i-1 by omega];generalize (VQ [S] V i).1=p at *;generalize (VQ [S] V i).2=e at *;have az:1<=(N:Int)-i:=by omega
   have a1:(N:Int)-i<=10:=by omega
   have hp:ln p<=100:=by simp at hl;omega
   generalize (N:Int)-i=q at *;have L:=yT e 3 zB zB;have G:=yT (ad e) 40 zB zB;have w1:=yQ e 3 zB;have w2:=yQ (ad e) 40 zB;generalize nx (ad e) 40=y2,nx e 3=y1 at *;generalize ad e=e1 at *;generalize ad e1=e2 at *;rw[eS];refine yG (xV L G) ?_
   show restr _ _ _=_
   rw[zAy];rfl
  .rw[show(N:Int)-(N:Int)=0 by omega,u];refine WW ?_;exact zH [1000] Z Z (zBb (λz=>AV.agg [iA k,zE yA M,.sl false z,zE yA []]) (zAt (l:=args.map iA))) Z
 .rw[Os k7]at u;cases u;clear R O W hT;refine WW ?_;exact zH [1000] Z Z Z Z
def cV (k:Int):zN 142 [iA k] [] (bA (decide (1<=k/\k<=12))) []:=by
 cases hb:decide (1<=k/\k<=12)with
 |false=>(rw[zA4]at hb;(refine eM call142 λF hF=>?_);((refine WW (I2 (λhc=>?_) λhc=>?_)));all_goals (first|exact zI|exact MH|exact PX))
 |true=>(rw[zAx]at hb;(refine eM call142 λF hF=>?_);((refine WW ?_));all_goals (first|exact zI|exact MH|exact PX))
def dF (k:Int):zN 266 [iA k] [] (bA (decide (1<=k/\k<=12))) []:=by
 cases hb:decide (1<=k/\k<=12)with
 |false=>(rw[zA4]at hb;(refine eM call266 λF hF=>?_);((refine WW (I2 (λhc=>?_) λhc=>?_)));all_goals (first|exact zI|exact MH|exact PX))
 |true=>(rw[zAx]at hb;(refine eM call266 λF hF=>?_);((refine WW ?_));all_goals (first|exact zI|exact MH|exact PX))
theorem FL (u z:Nat) (c:Int):∀(l:List Int) (i:Nat),(aZ u z c i l).length<=6*ln l
 | [],i=>by simp[aZ]
 |x::r,i=>by
  have h1:=FL u z c r (i+1);have h2:=gC x;rw[aZ,zAv,zAv,zA6]
  have A:(if i=u/\z≠0 then [c]else []).length<=1:=by split<;>simp
  omega
def Gr (u c:Nat) (d:List Int):Bool:=decide (ln d=0/\(u=0\/1<=c))
theorem FM (k:Int):wD k=0\/wD k=2\/wD k=4:=by grind [wD]
theorem FN (k:Int):vS k<=3:=by grind [vS]
theorem MV (k:Int) (C:1<=k) (h1:k<=12) (m:Ms) (c:Nat) (hk:m.kind=k) (ht:ln m.tok=10) (hd:ln m.data<=100000) (E:∀x∈m.args,0<=x/\x<=4294967295) (hc:ln m.args=vS k+c*wD k) (I:c<=3):
  zN 69 [zW m] [] (bA (Gr (wD k) c m.data)) []:=by
 have u:=Tc k C h1;have z:=cV k;have hf:=FN k;rw[zAu ⟨C,h1⟩]at z;have S:=YZ k C h1 m c hk ht hd E (by have:=FM k;rcases this with h|h|h<;>rw[h]at hc<;>omega) (λ_=>hc) I
 have av:(dK (vS k) (wD k) c m).length<=10+(6*ln m.args+(1+ln m.data)):=by
  have h1:=FL (vS k) (wD k) c m.args 0
  have h3:(if wD k≠0/\m.args.length=vS k then [(0:Int)]else []).length<=1:=by split<;>simp
  unfold dK;rw[zAv,zAv,zAv];omega
 have ar:=zA yA (dK (vS k) (wD k) c m);have V:=FM k;subst hk;generalize dK (vS m.kind) (wD m.kind) c m=pl at *;generalize vS m.kind=A at *;generalize wD m.kind=W at *;unfold Uc at u;have au:=zA yA m.tok;have ag:=zA iA m.args;have ap:=zA yA m.data
 cases hb:Gr W c m.data with
 | true=>
  unfold Gr at hb;rw[zAx]at hb;obtain⟨Y,ac⟩:=hb
  rcases V with rfl|rfl|rfl
  .rw[f5 Z,f5 Z]at u;refine eM call69 λF hF=>?_
   refine yG (xV u z) ?_;refine zU (m.args) [1] [1] [1,97,98] [99,1,97,98] Z (λi f4 T U=>⟨(99,iA i)::T,U⟩) (Lq ?_ ?_)
   .intro i f4 x post hx hi;have hy:=yJ iA hx hi;have B:=zX hx hi;have R:=E x (xA hx);clear hx;refine WW ?_;rfl
   .exact ng S
  all_goals
   rw[Os yY,Os yY]at u;have M:(((m.args.map iA).length:Int)-(A:Int)).tmod ((2:Nat):Int)=0:=by rw[zB1 zB];omega
   have O:(((m.args.map iA).length:Int)-(A:Int)).tmod ((4:Nat):Int)=(((m.args.map iA).length:Int)-(A:Int)) % 4:=zB1 zB;refine eM call69 λF hF=>?_
   refine yG (xV u z) ?_;refine zU (m.args) [1] [1] [1,97,98] [99,1,97,98] Z (λi f4 T U=>⟨(99,iA i)::T,U⟩) (Lq ?_ ?_)
   .intro i f4 x post hx hi;have hy:=yJ iA hx hi;have B:=zX hx hi;have R:=E x (xA hx);clear hx;refine WW ?_;rfl
   .exact ng S
 | false=>
  unfold Gr at hb;rw[zA4]at hb
  rcases V with rfl|rfl|rfl
  .rw[f5 Z,f5 Z]at u;have L:ln m.data≠0:=λh=>hb ⟨h,.inl Z⟩
   refine eM call69 λF hF=>?_
   exact mx (xV u z)
  all_goals
   rw[Os yY,Os yY]at u;have M:(((m.args.map iA).length:Int)-(A:Int)).tmod ((2:Nat):Int)=0:=by rw[zB1 zB];omega
   have O:(((m.args.map iA).length:Int)-(A:Int)).tmod ((4:Nat):Int)=(((m.args.map iA).length:Int)-(A:Int)) % 4:=zB1 zB;by_cases G:1<=c
   .have L:ln m.data≠0:=λh=>hb ⟨h,.inr G⟩
    refine eM call69 λF hF=>?_
    exact mx (xV u z)
   ·(refine eM call69 λF hF=>?_)
    exact mx (xV u z)
theorem MW:∀l:List Int,((l.map jR).flatten).length<=5*ln l
 | []=>by simp
 |x::l=>by
  have h1:=MW l;have h2:=gC x;rw[zCb,zDp,zAv,zA6];omega
theorem qp (u:Nat) (c:Int):∀(l:List Int) (i:Nat),aZ u 0 c i l=(l.map jR).flatten
 | [],i=>rfl
 |x::l,i=>by
  rw[aZ,qp u c l (i+1),Os (λh=>h.2 Z)];rfl
theorem dp (u z:Nat) (c:Int):∀(l:List Int) (i:Nat),u<i->aZ u z c i l=(l.map jR).flatten
 | [],i,_=>rfl
 |x::l,i,h=>by
  rw[aZ,dp u z c l (i+1) zB,Os (λh2=>by omega)];rfl
theorem FO (u z:Nat) (c:Int) (B:z≠0) (f:List Int) (A:f≠[]):∀(a:List Int) (i:Nat),i+ln a=u->aZ u z c i (a++f)=(a.map jR).flatten++([c]++(f.map jR).flatten)
 | [],i,h=>by
  cases f with
  |nil=>exact absurd Z A
  |cons x f=>
   have hi:i=u:=by simpa using h
   rw[zD1,aZ,f5 ⟨hi,B⟩,dp u z c f (i+1) zB];rfl
 |x::a,i,h=>by
  rw[zD6,aZ,FO u z c B f A a (i+1) (by rw[zA6]at h;omega),Os (λh2=>by rw[zA6]at h;omega),zD1,zCb,zDp,zBh]
theorem ii (k:Int) (h0:1<=k) (h1:k<=12) (p:List Int) (hb:BY p) (hn:ln p<=100000):zN 191 [iA k,zE yA p] [] (B5 k (p.take 10) (NX (vS k) (wD k) p)) []:=by
 have hl:=zA yA p;have I:=Tc k h0 h1;have V:=cV k;rw[zAu ⟨h0,h1⟩]at V;have hf:=FN k;have hg:=FM k;by_cases a7:ln p<10
 .rw[show NX (vS k) (wD k) p=none from f5 (.inr a7)]
  show zN 191 [iA k,zE yA p] [] (.tup [zW ⟨0,[],[],[]⟩,iA 6]) []
  unfold Uc at I;refine eM call191 λF hF=>?_
  exact mx (xV I V)
 have a3:BY (p.drop 10):=λy hy=>hb y (zBz hy)
 have bb:(p.drop 10).length<=100000:=by rw[zBr];omega
 have bu:((p.take 10).map yA).length=10:=by rw[zAr,zBg];omega
 have b3:((p.take (10:Int).toNat).map yA).length=10:=bu;have R:=VI (p.drop 10) (vS k) a3 bb zB
 cases u:XO (vS k) (p.drop 10)with
 | none=>
  have e:NX (vS k) (wD k) p=none:=by
   unfold NX;rw[u]
   split<;>rfl
  rw[e];rw[u]at R
  show zN 191 [iA k,zE yA p] [] (.tup [zW ⟨0,[],[],[]⟩,iA 6]) []
  unfold xf at R;unfold Uc at I;refine eM call191 λF hF=>?_
  (have ga:=I;have ge:=V;have gn:=R;(repeat' (first|refine uT ?_|apply yW|apply xI|intro hc|(apply zG;first|(apply yC;refine gP tok Z Z Z Z Z Z (yM _ _ (λ_=>rfl)) Z Z Z zB Z Z Z ?_))|fail))<;>clear ga ge gn)
  exact zI
 |some q=>
 obtain⟨a,r⟩:=q;obtain⟨ha,a4,au,E⟩:=bC _ _ _ _ a3 u;have b5:=MW a
 have br:ln p=10+(((a.map jR).flatten).length+ln r):=by
  have:=zBb List.length E;rw[zAv,zBr]at this;omega
 have z:p=p.take 10++((a.map jR).flatten++r):=by rw[<-E,zEh]
 have b9:=zA yA r;have b6:=zA iA a;have a1:ln r<=100000:=by omega
 rw[u]at R;unfold xf at R
 rcases Nat.eq_zero_or_pos (wD k)with O|O
 .have U:=MV k h0 h1 ⟨k,p.take 10,a,r⟩ 0 Z JD a1 au (by rw[O];exact ha) zB;have v2:=YZ k h0 h1 ⟨k,p.take 10,a,r⟩ 0 Z JD a1 au (by show (ln a)<=1000;omega) (λh=>absurd O h) zB;rw[O]at U v2 I⊢;unfold Uc at I;by_cases hr:r=[]
  .subst hr
   have e:NX (vS k) 0 p=some a:=by
    unfold NX;rw[Os (by rw[zBx]at br;omega),u];rfl
   have e2:dK (vS k) 0 0 ⟨k,p.take 10,a,[]⟩=p:=by
    unfold dK;rw[qp]
    conv=>rhs;rw[z]
    simp
   rw[e];rw[show((0:Nat):Int)=0 from Z,e2]at v2;rw[show Gr 0 0 ([]:List Int)=true from Z]at U;have bd:=AN p;clear e2 z u E
   show zN 191 [iA k,zE yA p] [] (.tup [zW ⟨k,p.take 10,a,[]⟩,iA 0]) []
   generalize vS k=fx at *;refine eM call191 λF hF=>?_
   (have ga:=I;have ge:=V;have gn:=R;have gt:=U;have io:=v2;(repeat' (first|refine uT ?_|apply yW|apply xI|intro hc|(apply zG;first|(apply yC;first|(refine vU [4,6,7] [0,1,4,5,6,7,93] Z ?_;(conv=>whnf);(try simp only[zBd,zAt]);refine kX tok Z Z Z Z Z Z (yM _ _ (λ_=>rfl)) Z Z Z zB Z ?_)|refine gP tok Z Z Z Z Z Z (yM _ _ (λ_=>rfl)) Z Z Z zB Z Z Z ?_))|fail))<;>clear ga ge gn gt io)
   exact zI
  .have bs:ln r≠0:=λh=>hr (zBv h)
   have e:NX (vS k) 0 p=none:=by
    unfold NX;rw[u];split
    .rfl
    .show(if(0:Nat)=0 then(if r=[]then some a else none)else _)=none
     rw[f5 Z,Os hr]
   rw[e];rw[show Gr 0 0 r=false from zAs (λh=>bs h.1)]at U;clear v2 z u E
   show zN 191 [iA k,zE yA p] [] (.tup [zW ⟨0,[],[],[]⟩,iA 6]) []
   generalize vS k=fx at *;refine eM call191 λF hF=>?_
   (have ga:=I;have ge:=V;have gn:=R;have gt:=U;(repeat' (first|refine uT ?_|apply yW|apply xI|intro hc|(apply zG;first|(apply yC;first|(refine vU [4,6,7] [0,1,4,5,6,7,93] Z ?_;(conv=>whnf);(try simp only[zBd,zAt]);refine kX tok Z Z Z Z Z Z (yM _ _ (λ_=>rfl)) Z Z Z zB Z ?_)|refine gP tok Z Z Z Z Z Z (yM _ _ (λ_=>rfl)) Z Z Z zB Z Z Z ?_))|fail))<;>clear ga ge gn gt)
   exact zI
 have bl:wD k<=4:=by omega
 have Y:=VI r 1 a4 a1 zB;unfold Uc at I;rw[Os zB,Os zB]at I
 cases A:XO 1 r with
 | none=>
  have e:NX (vS k) (wD k) p=none:=by
   unfold NX;rw[u];split
   .rfl
   .show(if wD k=0 then _ else match XO 1 r with|none=>none|some (c,r2)=>_)=none
    rw[Os zB,A]
  rw[e];rw[A]at Y;unfold xf at Y
  show zN 191 [iA k,zE yA p] [] (.tup [zW ⟨0,[],[],[]⟩,iA 6]) []
  clear z u E A e;generalize vS k=fx,wD k=gr at *;refine eM call191 λF hF=>?_
  (have ga:=I;have ge:=V;have gn:=R;have gt:=Y;(repeat' (first|refine uT ?_|apply yW|apply xI|intro hc|(apply zG;first|(apply yC;first|(refine vU [4,6,7] [0,1,4,5,6,7,93] Z ?_;(conv=>whnf);(try simp only[zBd,zAt]);refine kX tok Z Z Z Z Z Z (yM _ _ (λ_=>rfl)) Z Z Z zB Z ?_)|refine gP tok Z Z Z Z Z Z (yM _ _ (λ_=>rfl)) Z Z Z zB Z Z Z ?_))|fail))<;>clear ga ge gn gt)
  exact zI
 |some q2=>
 obtain⟨c,r2⟩:=q2;obtain⟨a5,ap,ba,B⟩:=bC _ _ _ _ a4 A
 obtain⟨v,rfl⟩:∃v,c=[v]:=by
  cases c with
  |nil=>cases a5
  |cons v c=>cases c with
   |nil=>exact⟨v,rfl⟩
   |cons w c=>simp at a5
 have bx:=(ba v zV).1
 have a8:ln r2<=100000:=by
  have:=zBb List.length B;rw[zAv]at this;omega
 rw[A]at Y;unfold xf at Y
 have eD:¬(200<ln p\/p.length<10)->NX (vS k) (wD k) p=if v<1\/3<v then none else match XO (v.toNat*wD k) r2 with
   |none=>none
   |some (f,W)=>if W=[]then some (a++f)else none:=λh=>by
  unfold NX;rw[Os h,u]
  show(if wD k=0 then _ else match XO 1 r with|none=>none|some (c,r2)=>_)=_
  rw[Os zB,A];rfl
 by_cases bz:3<v
 .have e:NX (vS k) (wD k) p=none:=by
   by_cases h:200<ln p\/p.length<10
   .exact f5 h
   .rw[eD h,f5 (.inr bz)]
  rw[e]
  show zN 191 [iA k,zE yA p] [] (.tup [zW ⟨0,[],[],[]⟩,iA 6]) []
  clear z u E A e eD B;generalize vS k=fx,wD k=gr at *;refine eM call191 λF hF=>?_
  (have ga:=I;have ge:=V;have gn:=R;have gt:=Y;(repeat' (first|refine uT ?_|apply yW|apply xI|intro hc|(apply zG;first|(apply yC;first|(refine vU [4,6,7] [0,1,4,5,6,7,93] Z ?_;(conv=>whnf);(try simp only[zBd,zAt]);refine kX tok Z Z Z Z Z Z (yM _ _ (λ_=>rfl)) Z Z Z zB Z ?_)|refine gP tok Z Z Z Z Z Z (yM _ _ (λ_=>rfl)) Z Z Z zB Z Z Z ?_))|fail))<;>clear ga ge gn gt)
  exact zI
 have a2:v.toNat*wD k<=12:=zBw (zDi (show v.toNat<=3 by omega) bl) yY;have M:((v.toNat*wD k:Nat):Int)=v*(wD k:Int):=by rw[zFb,zEm zB]
 have c4:=VI r2 (v.toNat*wD k) ap a8 zB;have hm:0<=v*(wD k:Int)/\v*(wD k:Int)<=12:=by rw[<-M];omega
 cases C:XO (v.toNat*wD k) r2 with
 | none=>
  have e:NX (vS k) (wD k) p=none:=by
   by_cases h:200<ln p\/p.length<10
   .exact f5 h
   .rw[eD h,C]
    split<;>rfl
  rw[e];rw[C,M]at c4;unfold xf at c4
  show zN 191 [iA k,zE yA p] [] (.tup [zW ⟨0,[],[],[]⟩,iA 6]) []
  clear z u E A e eD B C M a2;generalize vS k=fx,wD k=gr at *;refine eM call191 λF hF=>?_
  (have ga:=I;have ge:=V;have gn:=R;have gt:=Y;have io:=c4;(repeat' (first|refine uT ?_|apply yW|apply xI|intro hc|(apply zG;first|(apply yC;first|(refine vU [4,6,7] [0,1,4,5,6,7,93] Z ?_;(conv=>whnf);(try simp only[zBd,zAt]);refine kX tok Z Z Z Z Z Z (yM _ _ (λ_=>rfl)) Z Z Z zB Z ?_)|refine gP tok Z Z Z Z Z Z (yM _ _ (λ_=>rfl)) Z Z Z zB Z Z Z ?_))|fail))<;>clear ga ge gn gt io)
  exact zI
 |some q3=>
 obtain⟨f,W⟩:=q3;obtain⟨G,b0,bk,L⟩:=bC _ _ _ _ ap C;have b7:=zA iA f;have b1:ln f<=12:=by omega
 have b2:=zA yA W
 have ar:ln W<=100000:=by
  have:=zBb List.length L;rw[zAv]at this;omega
 rw[C,M]at c4;unfold xf at c4;have S:(a++f).length=vS k+v.toNat*wD k:=by rw[zAv,ha,G]
 have ag:∀x∈a++f,0<=x/\x<=4294967295:=λx hx=>by
  rcases zBc.1 hx with h|h
  .exact au x h
  .exact bk x h
 have U:=MV k h0 h1 ⟨k,p.take 10,a++f,W⟩ v.toNat Z JD ar ag S zB;have v2:=YZ k h0 h1 ⟨k,p.take 10,a++f,W⟩ v.toNat Z JD ar ag (by show(a++f).length<=1000;omega) (λ_=>S) zB
 have ac:∀t:List Int,zW ⟨k,t,a++f,W⟩= .agg [iA k,zE yA t,.sl false (a.map iA++f.map iA),zE yA W]:=λt=>by
  rw[<-zAy];rfl
 rw[ac]at U v2;by_cases av:W=[]/\1<=v
 .obtain⟨rfl,a9⟩:=av;have b4:=MW f;have a6:jR v=[v]:=VJ zB
  have az:r=[v]++(f.map jR).flatten:=by
   rw[B,L,zBn];simp[a6]
  have bf:f≠[]:=λh=>by
   rw[h]at G;have:0<v.toNat*wD k:=Nat.mul_pos zB O;simp at G;omega
  have e2:dK (vS k) (wD k) (v.toNat:Int) ⟨k,p.take 10,a++f,[]⟩=p:=by
   unfold dK;rw[Os (λh=>by have:=h.2;rw[S]at this;have h3:0<v.toNat*wD k:=Nat.mul_pos zB O;omega)]
   show(p.take 10++aZ (vS k) (wD k) (v.toNat:Int) 0 (a++f))++([]++[])=p
   rw[FO _ _ _ zB f bf a 0 zB,zEm bx,zBn,zBn,<-az];exact z.symm
  have ax:¬(200<ln p\/p.length<10):=by
   have:=zBb List.length az;rw[zAv,zCr]at this;omega
  have e:NX (vS k) (wD k) p=some (a++f):=by
   rw[eD ax,Os zB,C];rfl
  rw[e];rw[e2]at v2;rw[show Gr (wD k) v.toNat ([]:List Int)=true from zAu ⟨rfl,.inr zB⟩]at U;have bd:=AN p
  show zN 191 [iA k,zE yA p] [] (.tup [zW ⟨k,p.take 10,a++f,[]⟩,iA 0]) []
  rw[ac];clear z u E A e eD B C M a2 e2 az a6 ac S G L;generalize vS k=fx,wD k=gr at *;refine eM call191 λF hF=>?_
  (have ga:=I;have ge:=V;have gn:=R;have gt:=Y;have io:=c4;have la:=U;have ld:=v2;(repeat' (first|refine uT ?_|apply yW|apply xI|intro hc|(apply zG;first|(apply yC;first|(refine vU [4,6,7] [0,1,4,5,6,7,93] Z ?_;(conv=>whnf);(try simp only[zBd,zAt]);refine kX tok Z Z Z Z Z Z (yM _ _ (λ_=>rfl)) Z Z Z zB Z ?_)|refine gP tok Z Z Z Z Z Z (yM _ _ (λ_=>rfl)) Z Z Z zB Z Z Z ?_))|fail))<;>clear ga ge gn gt io la ld)
  exact zI
 .have e:NX (vS k) (wD k) p=none:=by
   by_cases h:200<ln p\/p.length<10
   .exact f5 h
   .rw[eD h];by_cases a9:v<1
    .rw[f5 (.inl a9)]
    .rw[Os zB,C];exact Os λh3=>av ⟨h3,zB⟩
  rw[e]
  rw[show Gr (wD k) v.toNat W=false from zAs (λh=>by
   rcases h with⟨h3,h4⟩
   exact av ⟨zBv h3,zB⟩)]at U
  show zN 191 [iA k,zE yA p] [] (.tup [zW ⟨0,[],[],[]⟩,iA 6]) []
  clear z u E A e eD B C M a2 ac S G L v2;generalize vS k=fx,wD k=gr at *;refine eM call191 λF hF=>?_
  (have ga:=I;have ge:=V;have gn:=R;have gt:=Y;have io:=c4;have la:=U;(repeat' (first|refine uT ?_|apply yW|apply xI|intro hc|(apply zG;first|(apply yC;first|(refine vU [4,6,7] [0,1,4,5,6,7,93] Z ?_;(conv=>whnf);(try simp only[zBd,zAt]);refine kX tok Z Z Z Z Z Z (yM _ _ (λ_=>rfl)) Z Z Z zB Z ?_)|refine gP tok Z Z Z Z Z Z (yM _ _ (λ_=>rfl)) Z Z Z zB Z Z Z ?_))|fail))<;>clear ga ge gn gt io la)
  exact zI
def Zi (l:List Rq) (q:Int) (hv:cJ l) (z:¬(ln l:Int)<=q):zN 354 [zE zY l,iA q] [] (bA false) []:=by
 have hl:=zA zY l;have u:=hv.n4;refine eM call354 λF hF=>?_
 exact ly
def Nd (l:List Rq) (q:Int) (hv:cJ l) (W:¬(ln l:Int)<=q):zN 295 [zE zY l,iA q] [] (bA false) []:=by
 have hl:=zA zY l;have V:=hv.n4;refine eM call295 λF hF=>?_
 refine WW ?_;refine zO (ln l) [] [] [0,1,7,8] [9,0,1,7,8] Z (λi T U=>⟨(9,iA i)::T,U⟩) (Lq ?_ ?_)
 .intro i hi;have Y:=zJ zY l i hi;have B:l.getD i dd∈l:=by simp[pb,hi]
  obtain⟨i0,i1,v0,v1,R,S,t0,t1,z⟩:=hv.ok _ B;have C:=wQ (l.getD i dd).id 0 4294967295;have E:=wQ (l.getD i dd).vh 0 4294967295;have G:=wQ (l.getD i dd).cls 0 3;have L:=wQ (l.getD i dd).til 0 2147483648;have I:=GW (l.getD i dd).legs (by have:=XF z;omega);rw[zAu zB]at C E G L;rw[z]at I;by_cases A:0<i
  .have u:=yE zY l ((i:Int)-1) zB zB;rw[show((i:Int)-1).toNat=i-1 by omega]at u;have O:(l.map zY)[((i:Int)-1).toNat]? =some (zY (l.getD (i-1) dd)):=by rw[show((i:Int)-1).toNat=i-1 by omega];exact u
   have M:=hv.lt A hi;clear u B z;generalize l.getD i dd=t,l.getD (i-1) dd=p at *;refine yG (MG C E G L I) ?_;rfl
  .obtain rfl:i=0:=by omega
   clear B z;generalize l.getD 0 dd=t at *;refine yG (MG C E G L I) ?_;rfl
 .exact ly
def Yi (l:List Rq) (q id:Int) (v:Vh) (u:Int) (x:List Lg) (f3:Int) (hv:cJ l) (A:¬(ln l:Int)<=q):
  zN 353 [zE zY l,iA q,iA id,vB v,iA u,zE yO x,iA f3] [] (.tup [zE zY [],iA 1]) []:=by
 have z:=Zi l q hv A;refine eM call353 λF hF=>?_
 exact ng z
def Md (l:List Rq) (q id:Int) (v:Vh) (u:Int) (x:List Lg) (f3:Int) (hv:cJ l) (A:¬(ln l:Int)<=q):
  zN 293 [zE zY l,iA q,iA id,vB v,iA u,zE yO x,iA f3] [] (.tup [zE zY [],iA 1]) []:=by
 have z:=Nd l q hv A;refine eM call293 λF hF=>?_
 exact ng z
def MX {r x:Rq}:x∈gW l r->x=r\/x∈l:=λh=>by
 unfold gW at h
 rcases zBc.1 h with h|h
 .exact .inr (zCo h)
 .rcases zCf.1 h with h|h
  .exact .inl h
  .exact .inr (zBz h)
theorem L3 {q id u:Int} {v:Vh} {x:List Lg} (hv:cJ l) (z:QU l q id u x=0) (I:0<=v.id) (L:v.id<=4294967295) (M:0<=v.cls) (O:v.cls<=3) (S:0<=f3) (U:f3<=1073741824):cJ (gW l (gN id v u x f3)):=by
 have h1:0<=id/\id<=4294967295/\1<=u/\u<=600/\AL x=true:=by
  grind [QU,gW,gN]
 rw[QU,Os (λh=>h h1)]at z
 have hh:kT l id=false:=by
  grind
 rw[Os CE]at z;have R:¬(q<=ln l\/4<=(ln l:Int)):=λh=>by rw[f5 h]at z;cases z
 have E:∀r∈l,r.id≠id:=by simpa [kT]using hh
 have C:=Jc l id;refine⟨λr A=>?_,?_,?_⟩
 .rcases MX A with rfl|A
  .exact⟨h1.1,h1.2.1,I,L,M,O,by show 0<=f3+u;omega,by show f3+u<=2147483648;omega,h1.2.2.2.2⟩
  .exact hv.ok r A
 .have G:=hv.so;unfold gW
  show((l.take (XE l id))++gN id v u x f3::l.drop (XE l id)).Pairwise _
  rw[zEx,zFs];have B:=G;rw[<-zEh (XE l id) l,zEx]at B
  grind [QU,gW,gN,XE,List.mem_iff_getElem,List.length_take,Ic,pb,List.mem_of_mem_drop,Gc,List.drop_eq_getElem_cons,List.pairwise_cons,List.drop_eq_nil_of_le]
 all_goals grind [QU,gW,gN]
theorem J3 {g:Lg} {p:Int×Int} (u:QV g=true) (h:JP f3 g p=true):QV (EK f3 g p)=true:=by grind [QV,JP,EK,EL]
theorem Df :∀(gs:List Lg) (w:List (Int×Int)) (f4 u:List Lg),u.map (·.jn)=f4.map (·.jn)->ln w=ln gs->(gs.zipWith (JP f3) w).all id=true->kU f4 gs=true->kU u (gs.zipWith (EK f3) w)=true
 | [],w,f4,u,_,_,_,_=>by cases w<;>rfl
 |g::gs,[],f4,u,_,hl,_,_=>by simp at hl
 |g::gs,p::w,f4,u,A,hl,z,h=>by
  rw[zD4,zFw,zA2]at z;rw[kU,zA2,zA2]at h;obtain⟨h1,h2,B⟩:=h;rw[zD4,kU,zA2,zA2];refine⟨J3 h1 z.1,?_,Df gs w (f4++[g]) (u++[EK f3 g p]) (by rw[zAy,zAy,A];rfl) CD z.2 B⟩;have e:∀l:List Lg,(l.any λy=>y.jn==g.jn)=(l.map (·.jn)).any (· ==g.jn):=λl=>by rw[List.any_map];rfl
  show(!(u.any λy=>y.jn==g.jn))=true
  rw[e,A,<-e];exact h2
theorem I3 {id:Int} {w:List (Int×Int)} (hv:cJ l) (E:fO l id w f3=0):cJ (ZS l id w f3):=by
 have hh:kT l id=true:=by
  grind [fO,ZS]
 obtain⟨f4,x,post,hL,hx,_,G,_⟩:=RC hh;rw[fO,f5 hh,G]at E
 have C:ln w=ln x.legs/\AE x.legs w f3=true:=by
  grind
 have u:=hv.ok x CF;rw[GQ hL hv hx];have B:=hv.so;have A:=hv.n4;rw[hL]at B A;rw[zEx,zFs]at B;refine⟨λr z=>?_,?_,by simpa using A⟩
 .rw[zBc,zCf]at z
  rcases z with z|rfl|z
  .exact hv.ok r (by rw[hL];simp[z])
  .refine⟨u.i0,u.i1,u.v0,u.v1,u.c0,u.c1,u.t0,u.t1,?_⟩;have h1:=XF u.lg
   have h2:kU [] x.legs=true:=by
    have:=u.lg
    grind [fO,ZS,AL]
   unfold AL;rw[zA2];exact⟨zAu (by rw[List.length_zipWith];omega),Df x.legs w [] [] Z C.1 C.2 h2⟩
  .exact hv.ok r (by rw[hL];simp[z])
 all_goals grind [fO,ZS,List.pairwise_cons]
