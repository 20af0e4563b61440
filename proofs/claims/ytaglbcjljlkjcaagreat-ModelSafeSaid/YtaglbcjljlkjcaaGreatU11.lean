/- Part 11. -/
import Derived.Test.YtaglbcjljlkjcaaGreatU10
import Derived.Test.YtaglbcjljlkjcaaGreatU09
namespace Go.Proofs.YtaglbcjljlkjcaaGreat.Av
open Tryz
set_option linter.all false
set_option maxRecDepth 4000
set_option maxHeartbeats 2000000
open List renaming length->ln,getD->pi
open Inhabited renaming default->dd
variable {c:Cf}{f4:Int}{l:List Rq}
def Xy (d:Dk):Dk:=ad (ad (ad (ad d)))
def LU (d:Dk):Nat->List Jn×Dk
 |0=>([],d)
 |i+1=>((LU d i).1++[MG (LU d i).2],p7 (LU d i).2)
def SF (d:Dk) (u:Int):Nat->List Ag×Dk
 |0=>([],d)
 |i+1=>((SF d u i).1++[Sn (SF d u i).2 i u],ad (Dr (SF d u i).2))
theorem OH (d:Dk):∀i,(LU d i).1.length=i
 |0=>rfl
 |i+1=>by simp[LU,OH d i]
theorem cW (d:Dk) (u:Int):∀i,(SF d u i).1.length=i
 |0=>rfl
 |i+1=>by simp[SF,cW d u i]
def R3 (d:Dk) (u:Int) (i:Nat):(SF d u (i+1)).2=ad (Dr (SF d u i).2):=by simp only[SF]
def bp (d:Dk) (u:Int) (i:Nat):(SF d u (i+1)).1=(SF d u i).1++[Sn (SF d u i).2 i u]:=by simp only[SF]
def d6 (d:Dk):Nat:=(1+nx (Xy d) 2).toNat
def ni (d:Dk):List Jn×Dk:=LU (ad (Xy d)) (d6 d)
def Q3 (d:Dk):Nat:=(1+nx (ni d).2 3).toNat
def P3 (d:Dk) (u:Int):List Ag×Dk:=SF (ad (ni d).2) u (Q3 d)
def FN (d:Dk) (u:Int):Cf:=⟨(ni d).1,(P3 d u).1,1+nx d (4-1+1),nx (ad d) 4,1+nx (ad (ad d)) (3-1+1),nx (ad (ad (ad d))) 5⟩
def cfD (d:Dk) (u:Int):Dk:=(P3 d u).2
theorem np (d:Dk) (u:Int):zN 40 [.ptr 1000 0 0,iA u] [(1000,fF d)] (wH (FN d u)) [(1000,fF (cfD d u))]:=by
 have hn:=yQ (Xy d) 2 zB;have hm:=yQ (ni d).2 3 zB;have en:1+nx (Xy d) 2=(d6 d:Int):=(zEo zB).symm;have em:1+nx (ni d).2 3=(Q3 d:Int):=(zEo zB).symm;have ej:ni d=LU (ad (Xy d)) (d6 d):=rfl;have eg:P3 d u=SF (ad (ni d).2) u (Q3 d):=rfl;have ef:FN d u=⟨(ni d).1,(P3 d u).1,1+nx d (4-1+1),nx (ad d) 4,1+nx (ad (ad d)) (3-1+1),nx (ad (ad (ad d))) 5⟩:=rfl;have ed:cfD d u=(P3 d u).2:=rfl;rw[ef,ed];unfold Xy at *;generalize ni d=jj,P3 d u=gg,d6 d=N,Q3 d=M at *;have jc:=λi=>Tc (LU (ad (ad (ad (ad (ad d))))) i).2
 refine eM call40 λF hF=>?_
 (repeat' (first|refine aP ?_|refine yW (λhc=>?_) λhc=>?_|(apply zG;apply xP;(first|(refine vH 68 ?_;first|refine wM (zL (jP _ _ _ zB zB zB) Z Z Z Z Z) Z ?_|refine uT (zL (jP _ _ _ zB zB zB) Z Z Z Z Z) Z Z Z ?_|refine aI (zL (jP _ _ _ zB zB zB) Z Z Z Z Z) Z Z Z ?_)|(refine vH 16 ?_;first|refine wM (zL (yR _ _ zB zB) Z Z Z Z Z) Z ?_|refine uT (zL (yR _ _ zB zB) Z Z Z Z Z) Z Z Z ?_|refine aI (zL (yR _ _ zB zB) Z Z Z Z Z) Z Z Z ?_)))|fail))
 generalize nx d (4-1+1)=U,nx (ad d) 4=V,nx (ad (ad d)) (3-1+1)=W,nx (ad (ad (ad d))) 5=Y,nx (ad (ad (ad (ad d)))) 2=O,ad (ad (ad (ad (ad d))))=C at *;refine gJ 5 0 1001 3 Z Z Z Z Z ?_
 refine wQ (λn st=>∃i:Nat,n+i=N/\st=⟨[(0,.ptr 1000 0 0),(1,iA u),(4,.ptr 4 0 0),(5,.ptr 5 0 0),(6,iA (1+O-i))],
   [(1000,fF (LU C i).2),(4,.box [.s (.slice none 0 0),.s (.slice none 0 0),iA 0,iA 0,iA 0,iA 0]),(5,.box [.ref 1001 0 ((LU C i).1.map wD).length,.s (.slice none 0 0),iA (1+U),iA V,iA (1+W),iA Y]),(1001,.arr 3 ((LU C i).1.map wD) true)]⟩)
  N [1000,4,5,1001] [0,1,4,5,6] Z ⟨0,rfl,by rw[show 1+O-(0:Nat)=1+O by omega];rfl⟩ ?_
 rintro n st ⟨i,hi,rfl⟩;by_cases I:i<N
 .have A:(LU C (i+1)).1.map wD=(LU C i).1.map wD++[wD (MG (LU C i).2)]:=zA0;have z:(LU C (i+1)).2=p7 (LU C i).2:=rfl;have c:=jc i;have G:=OH C i;generalize L:LU C (i+1)=q' at A z;generalize LU C i=q at *;obtain⟨ql,S⟩:=q;dsimp only at A z G c⊢;generalize MG S=jf,p7 S=jd at *;refine zS c ?_;exact⟨n-1,zB,i+1,zB,by rw[L,A,z,show 1+O-((i+1:Nat):Int)=1+O-i-1 by omega];rfl⟩
 obtain rfl:i=N:=by omega
 have ap:jj.1.length=i:=by rw[ej];exact OH _ _
 rw[<-ej];clear ej jc ef ed;obtain⟨E,dj⟩:=jj;dsimp only at *;have ar:(E.map wD).length=ln E:=by simp
 have ag:=cW (ad dj) u M;have ac:=λk (hk:k<M)=>Rn (SF (ad dj) u k).2 k u zB zB
 rw[<-eg]at ag
 (repeat' (first|refine aP ?_|refine yW (λhc=>?_) λhc=>?_|(apply zG;apply xP;(first|(refine vH 16 ?_;first|refine wM (zL (yR _ _ zB zB) Z Z Z Z Z) Z ?_|refine uT (zL (yR _ _ zB zB) Z Z Z Z Z) Z Z Z ?_|refine aI (zL (yR _ _ zB zB) Z Z Z Z Z) Z Z Z ?_)))|fail))
 generalize nx dj 3=n3,ad dj=B at *
 refine kY (st':=⟨[(0,.ptr 1000 0 0),(1,iA u),(4,.ptr 4 0 0),(5,.ptr 5 0 0),(33,iA (1+n3)),(34,iA 0)],
   [(1000,fF B),(4,.box [.s (.slice none 0 0),.s (.slice none 0 0),iA 0,iA 0,iA 0,iA 0]),(5,.box [zE wD E,.s (.slice none 0 0),iA (1+U),iA V,iA (1+W),iA Y])]⟩) [1000,4,5] [0,1,4,5,33,34] Z (by
  have e1:zE wD E= .sl false (List.take (E.map wD).length (List.drop 0 (E.map wD))):=by
   rw[zBf,zAv];rfl
  rw[e1]
  rfl) ?_
 refine gJ 5 1 1002 8 Z Z Z Z Z ?_
 refine wQ (λn st=>∃k:Nat,n+k=M/\st=⟨[(0,.ptr 1000 0 0),(1,iA u),(4,.ptr 4 0 0),(5,.ptr 5 0 0),(33,iA (1+n3)),(34,iA k)],
   [(1000,fF (SF B u k).2),(4,.box [.s (.slice none 0 0),.s (.slice none 0 0),iA 0,iA 0,iA 0,iA 0]),(5,.box [zE wD E,.ref 1002 0 ((SF B u k).1.map uF).length,iA (1+U),iA V,iA (1+W),iA Y]),(1002,.arr 8 ((SF B u k).1.map uF) true)]⟩)
  M [1000,4,5,1002] [0,1,4,5,33,34] Z ⟨0,rfl,rfl⟩ ?_
 clear n hi I;rintro n st ⟨k,hk,rfl⟩;by_cases I:k<M
 .have A:(SF B u (k+1)).1.map uF=(SF B u k).1.map uF++[uF (Sn (SF B u k).2 k u)]:=by rw[bp];exact zA0
  have z:(SF B u (k+1)).2=ad (Dr (SF B u k).2):=R3 B u k;have c:=ac k I;have G:=cW B u k;clear ac;generalize L:SF B u (k+1)=q' at A z;generalize SF B u k=q at *;obtain⟨ql,S⟩:=q;dsimp only at A z G c⊢;generalize Sn S k u=jf,ad (Dr S)=jd at *;refine zS c ?_;exact⟨n-1,zB,k+1,zB,by rw[L,A,z];rfl⟩
 obtain rfl:k=M:=by omega
 rw[<-eg];clear eg ac;refine WW ?_;exact zP [1000] Z Z (zBd (λx=>AV.agg [zE wD E,AV.sl false x,iA (1+U),iA V,iA (1+W),iA Y]) zAv) Z
def IN (c:Cf):Prop:=ln c.js<=4/\∀j∈c.js,1<=ln j.ph/\j.ph.length<=8
theorem IN.at (h:IN c) {j:Int} (u:0<=j) (h1:j<((c.js.map wD).length:Int)):1<=(c.js.getD j.toNat dd).ph.length/\(c.js.getD j.toNat dd).ph.length<=8:=by grind [IN,wD]
def qJ (c:Cf) (e:Dk) (k:Nat):Int:=Int.tmod (nx e 3+k) (max 1 (((c.js.map wD).length:Int)+(nx (ad e) 12).tdiv 11))
def qP (c:Cf) (j:Int):Int:=if j<((c.js.map wD).length:Int)then(((c.js.getD j.toNat dd).ph.map xN).length:Int)else 2
theorem FO (x:Int) (h:0<=x/\x<12):0<=x.tdiv 11/\x.tdiv 11<=1/\aD .i64 (x.tdiv 11):=by grind [aD]
theorem mp (a b:Int) (u:0<=a) (h1:1<=b) (h2:b<=1000):0<=a.tmod b/\a.tmod b<=1000/\aD .i64 (a.tmod b):=by
 have:=zGa b u;have z:a.tmod b<b:=zFs a zB
 grind [aD]
theorem S7 (h:IN c) (e:Dk) (k:Nat):0<=qJ c e k/\qJ c e k<=1000:=by
 have B:=yQ e 3 zB;have w2:=yQ (ad e) 12 zB;obtain⟨A,z,u⟩:=FO _ w2;have h1:=h.1;have h2:(c.js.map wD).length=ln c.js:=zAt ..;have:=mp (nx e 3+k) (max 1 (((c.js.map wD).length:Int)+(nx (ad e) 12).tdiv 11)) zB zB zB
 grind [IN,Dk,qJ]
theorem R7 (h:IN c) {j:Int} (u:0<=j):1<=qP c j/\qP c j<=8:=by grind [IN,qP]
def ua (c:Cf) (k:Nat) (l:List Int) (e:Dk):List Int×Dk:=
 (l++[qJ c e k,nx (ad (ad (ad (ad e)))) (qP c (qJ c e k)+(nx (ad (ad (ad e))) 12).tdiv 11),nx (ad (ad e)) 3,nx (ad (ad e)) 3+nx (ad (ad (ad (ad (ad e))))) 50],ad (ad (ad (ad (ad (ad e))))))
def ZB (c:Cf) (l:List Int) (d:Dk):Nat->List Int×Dk
 |0=>(l,d)
 |i+1=>ua c i (ZB c l d i).1 (ZB c l d i).2
def RR (l:List Int):Prop:=∀x∈l,0<=x/\x<=4294967295
theorem RR.app {a b:List Int} (h1:RR a) (h2:RR b):RR (a++b):=λx u=>(zBe.1 u).elim (h1 x) (h2 x)
theorem RR.cons {x:Int} {b:List Int} (h1:0<=x/\x<=4294967295) (h2:RR b):RR (x::b):=λy u=>(zCh.1 u).elim (λe=>e▸h1) (h2 y)
theorem RR.nil:RR []:=λx u=>by cases u
theorem Wd (hc:IN c) (l:List Int) (hl:RR l) (d:Dk):∀i,(ZB c l d i).1.length=ln l+i*4/\rem (ZB c l d i).2<=rem d/\RR (ZB c l d i).1
 |0=>⟨rfl,zAy _,hl⟩
 |i+1=>by
  have u:=Wd hc l hl d i
  show(ua c i _ _).1.length=_/\rem (ua c i _ _).2<=_/\RR (ua c i _ _).1
  generalize (ZB c l d i).2=e at *;have A:=vF e;have B:=vF (ad e);have C:=vF (ad (ad e));have E:=vF (ad (ad (ad e)));have G:=vF (ad (ad (ad (ad e))));have I:=vF (ad (ad (ad (ad (ad e)))));have j1:=S7 hc e i;have j2:=R7 hc j1.1;have O:=yQ (ad (ad e)) 3 zB;have z:=yQ (ad (ad (ad e))) 12 zB;have U:=yQ (ad (ad (ad (ad (ad e))))) 50 zB;obtain⟨M,L,_⟩:=FO _ z;have S:=yQ (ad (ad (ad (ad e)))) (qP c (qJ c e i)+(nx (ad (ad (ad e))) 12).tdiv 11) zB;refine⟨by simp only[ua,zAx,zA8,zBz];omega,by simp only[ua];omega,?_⟩;exact u.2.2.app (.cons zB (.cons zB (.cons zB (.cons zB .nil))))
theorem Xv (c:Cf) (hc:IN c) (l:List Int) (hl:ln l<=1000) (hn:RR l) (d:Dk):zN 67 [.ptr 1000 0 0,wH c,.ref 107 0 (l.map iA).length] [(1000,fF d),(107,.arr 1 (l.map iA) false)] (.ref 107 0 ((ZB c l (ad d) (1+(nx d 2).toNat)).1.map iA).length) [(1000,fF (ZB c l (ad d) (1+(nx d 2).toNat)).2),(107,.arr 1 ((ZB c l (ad d) (1+(nx d 2).toNat)).1.map iA) true)]:=by
 have c1:=yR d 2 zB zB;have b1:=yQ d 2 zB;generalize nx d 2=n,ad d=z at *;obtain⟨N,hN⟩:∃N:Nat,1+n.toNat=N:=⟨_,rfl⟩;have ac:1+n=(N:Int):=by omega
 rw[hN];have ar:=hc.1;have ap:(c.js.map wD).length=ln c.js:=zAt ..;unfold wH zE;refine eM call67 λF hF=>?_
 refine zS c1 ?_;refine vP 107 Z ?_;refine zO (N) [1000,107,4] [4] [0,4,15] [2,16,0,4,15] Z (λi T U=>⟨(2,.ref 107 0 ((ZB c l z i).1.map iA).length)::(16,iA i)::T,(1000,fF (ZB c l z i).2)::(107,.arr 1 ((ZB c l z i).1.map iA) true)::U⟩) (Lq ?_ ?_)
 .intro i hi;have hl:=(Wd hc l hn z i).1;have C:ZB c l z (i+1)=ua c i (ZB c l z i).1 (ZB c l z i).2:=rfl;unfold ua at C;generalize (ZB c l z i).1=p at *;generalize (ZB c l z i).2=e at *;have ag:(i:Int)<=1:=by omega
  have M:=yR e 3 zB zB;have O:=yR (ad e) 12 zB zB;have S:=yR (ad (ad e)) 3 zB zB;have V:=yR (ad (ad (ad e))) 12 zB zB;have w1:=yQ e 3 zB;have w2:=yQ (ad e) 12 zB;have w3:=yQ (ad (ad e)) 3 zB;have w4:=yQ (ad (ad (ad e))) 12 zB;obtain⟨v2,u2,i2⟩:=FO _ w2;obtain⟨v4,u4,i4⟩:=FO _ w4;have E:=S7 hc e i;have G:=R7 hc E.1;have B:=yR (ad (ad (ad (ad e)))) (qP c (qJ c e i)+(nx (ad (ad (ad e))) 12).tdiv 11) zB zB;have W:=yR (ad (ad (ad (ad (ad e))))) 50 zB zB;have w6:=yQ (ad (ad (ad (ad (ad e))))) 50 zB;generalize L:nx (ad (ad (ad (ad e)))) (qP c (qJ c e i)+(nx (ad (ad (ad e))) 12).tdiv 11)=x5 at *;clear L;have A:=λh=>yE wD c.js (qJ c e i) E.1 h
  have u:=λh=>hc.at (c:=c) (j:=qJ c e i) E.1 h
  have I:1<=max 1 (((c.js.map wD).length:Int)+(nx (ad e) 12).tdiv 11)/\max 1 (((c.js.map wD).length:Int)+(nx (ad e) 12).tdiv 11)<=1000:=by omega
  have tb:=mp (nx e 3+i) _ zB I.1 I.2;unfold qP at B G;unfold qJ at B C E A u G;rw[C];clear C hc;generalize nx (ad (ad (ad (ad (ad e))))) 50=x6,nx (ad (ad (ad e))) 12=x4,nx (ad (ad e)) 3=x3,nx (ad e) 12=x2,nx e 3=Y at *;generalize ad e=e1 at *;generalize ad e1=e2 at *;generalize ad e2=e3 at *;generalize ad e3=e4 at *;generalize ad e4=e5 at *;generalize ad e5=e6 at *;obtain⟨au,av⟩:=I;obtain⟨az,a1,a2⟩:=tb;by_cases hj:Int.tmod (Y+i) (max 1 (((c.js.map wD).length:Int)+x2.tdiv 11))<((c.js.map wD).length:Int)
  .rw[zAs hj]at B G;have hy:=A zB;have hz:=u hj;clear A u;generalize c.js.getD (Int.tmod (Y+i) (max 1 (((c.js.map wD).length:Int)+x2.tdiv 11))).toNat dd=J at *;have ax:(J.ph.map xN).length=ln J.ph:=zAt ..;unfold wD zE at hy;generalize J.ph.map xN=P at *;generalize J.cf.map iA=Cz at *;refine yF (qb M O S V B W) ?_
   show restr _ _ _=_
   rw[zA0];rfl
  .rw[Os hj]at B G;clear A u;refine yF (qb M O S V B W) ?_
   show restr _ _ _=_
   rw[zA0];rfl
 ·(refine WW ?_)
  exact zP [1000,107] Z Z Z Z
def Vd (g:Int) (d:Dk):List Int×Dk:=
 if nx d 9=7 then(g::nx (ad d) 4::cL (2000+10*g+nx (ad (ad d)) 3),ad (ad (ad d)))
 else if nx d 9=8 then(nx (ad d) 3::0::cL (1000+nx (ad (ad d)) 3),ad (ad (ad d)))
 else(g::0::cL (1000+g),ad d)
theorem O3 (g:Int) (u:0<=g/\g<256) (d:Dk):BY (Vd g d).1/\rem (Vd g d).2<=rem d:=by grind [Dk,BY,Vd,rem,vF,ad,yQ,Gp,OI]
def Wv (q:Int):Int:=if q=1 then 4 else if q=3 then 7 else 6
theorem Vv (q:Int) (h:0<=q/\q<4):([AV.s (.int .i64 6),AV.s (.int .i64 4),AV.s (.int .i64 6),AV.s (.int .i64 7)]:List AV)[q.toNat]? =some (AV.s (.int .i64 (Wv q))):=by grind [Wv]
def mi (k:Int) (d:Dk):Int×Dk:=if nx d 2=0 then(Wv (nx (ad d) 4),ad (ad d))else(k,ad d)
theorem N3 (k:Int) (hk:1<=k/\k<=12) (d:Dk):(1<=(mi k d).1/\(mi k d).1<=12)/\rem (mi k d).2<=rem d:=by grind [Dk,mi,rem,vF,ad,Wv]
def qa (l:List Int) (d:Dk):List Int×Dk:=(l++[nx d 3,nx d 3+nx (ad d) 40],ad (ad d))
def VQ (l:List Int) (d:Dk):Nat->List Int×Dk
 |0=>(l,d)
 |i+1=>qa (VQ l d i).1 (VQ l d i).2
theorem Ud (l:List Int) (hl:RR l) (d:Dk):∀i,(VQ l d i).1.length=ln l+i*2/\rem (VQ l d i).2<=rem d/\RR (VQ l d i).1
 |0=>⟨rfl,zAy _,hl⟩
 |i+1=>by
  have u:=Ud l hl d i
  show(qa _ _).1.length=_/\rem (qa _ _).2<=_/\RR (qa _ _).1
  generalize (VQ l d i).2=e at *;have z:=vF e;have A:=vF (ad e);have B:=yQ e 3 zB;have w2:=yQ (ad e) 40 zB;refine⟨by simp only[qa,zAx,zA8,zBz];omega,by simp only[qa];omega,?_⟩;exact u.2.2.app (.cons zB (.cons zB .nil))
def ii (q:Int):Int:=if q=0 then 63 else if q=1 then 1 else if q=2 then 3 else if q=3 then 47 else 64
def Sd (q:Int):Int:=if q=0 then 0 else if q=1 then 5 else if q=2 then 30 else 700
def Uv (q:Int) (h:0<=q/\q<5):([AV.s (.int .i64 63),AV.s (.int .i64 1),AV.s (.int .i64 3),AV.s (.int .i64 47),AV.s (.int .i64 64)]:List AV)[q.toNat]? =some (AV.s (.int .i64 (ii q))):=by
 have:q=0\/q=1\/q=2\/q=3\/q=4:=by omega
 rcases this with rfl|rfl|rfl|rfl|rfl<;>rfl
theorem Tv (q:Int) (h:0<=q/\q<4):([AV.s (.int .i64 0),AV.s (.int .i64 5),AV.s (.int .i64 30),AV.s (.int .i64 700)]:List AV)[q.toNat]? =some (AV.s (.int .i64 (Sd q))):=by grind [Sd]
def Rd (u:Cf) (k c:Int) (d:Dk):List Int×Dk:=
 if k=2 then([ii (nx d 5),nx (ad d) 5,Sd (nx (ad (ad d)) 4)],ad (ad (ad d)))
 else if k=3\/k=8\/k=5\/k=10\/k=11 then([nx d 4],ad d)
 else if k=4 then([nx d 4,c],ad d)
 else if k=6 then ZB u [nx d 4,nx (ad d) 4,1+nx (ad (ad d)) (60-1+1)] (ad (ad (ad (ad d)))) (1+(nx (ad (ad (ad d))) 2).toNat)
 else if k=7 then VQ [nx d 4] (ad (ad d)) (1+(nx (ad d) 2).toNat)
 else([],d)
theorem tp (g:Int) (d:Dk):(Vd g d).1.length=10:=by grind [Dk,Vd,fA]
theorem M3 {u:Cf} (hc:IN u) (k c:Int) (E:0<=c/\c<=10) (hk:1<=k/\k<=12) (d:Dk):rem (Rd u k c d).2<=rem d/\RR (Rd u k c d).1/\∃n:Nat,n<=2/\(wE k≠0->1<=n)/\(Rd u k c d).1.length=vU k+n*wE k:=by
 have M:=vF d;have O:=vF (ad d);have S:=vF (ad (ad d));have U:=vF (ad (ad (ad d)));have V:=yQ d 4 zB;have w2:=yQ (ad d) 4 zB;have W:=yQ (ad (ad d)) (60-1+1) zB;have Y:=yQ (ad (ad (ad d))) 2 zB;have w5:=yQ (ad d) 2 zB;have w6:=yQ (ad d) 5 zB;have B:0<=ii (nx d 5)/\ii (nx d 5)<=64:=by unfold ii;repeat' split;all_goals omega
 have C:0<=Sd (nx (ad (ad d)) 4)/\Sd (nx (ad (ad d)) 4)<=700:=by unfold Sd;repeat' split;all_goals omega
 unfold Rd;split
 .rename_i h;subst h;exact⟨by dsimp only;omega,.cons zB (.cons zB (.cons zB .nil)),0,zB,λh=>absurd Z h,rfl⟩
 split
 .rename_i h
  refine⟨by dsimp only;omega,.cons zB .nil,0,zB,λh2=>?_,?_⟩<;>rcases h with rfl|rfl|rfl|rfl|rfl
  all_goals first|rfl|exact absurd Z h2
 split
 .rename_i h;subst h;exact⟨by dsimp only;omega,.cons zB (.cons zB .nil),0,zB,λh=>absurd Z h,rfl⟩
 split
 .grind [IN,Dk,rem,Rd,RR,wE,vU,p2,Wd,nx,ad]
 split
 .rename_i h;subst h;obtain⟨z,p2,A⟩:=Ud [nx d 4] (.cons zB .nil) (ad (ad d)) (1+(nx (ad d) 2).toNat);exact⟨zB,A,_,zB,λ_=>by omega,z⟩
 .rename_i h1 h2 G I L;have:k=1\/k=9\/k=12:=by omega
  refine⟨zAy _,.nil,0,zB,λh2=>?_,?_⟩<;>rcases this with rfl|rfl|rfl
  all_goals first|rfl|exact absurd Z h2
structure L3 (m:Ms):Prop where
 t:BY m.tok
 l:m.tok.length=10
 k:1<=m.kind/\m.kind<=12
 n:RR m.args
 c:∃n:Nat,n<=2/\(wE m.kind≠0->1<=n)/\m.args.length=vU m.kind+n*wE m.kind
 d:m.data=[]
def p6 (u:Bool) (d:Dk):Int×Dk:=if u=true then(nx (ad d) 2,ad (ad d))else(nx d 4,ad d)
theorem Q7 (u:Bool) (d:Dk):(0<=(p6 u d).1/\(p6 u d).1<=10)/\rem (p6 u d).2<=rem d:=by
 have z:=vF d;have A:=vF (ad d);have B:=yQ d 4 zB;have w2:=yQ (ad d) 2 zB
 grind [Dk,p6,rem]
theorem YA (c:Cf) (hc:IN c) (g:Int) (hg:0<=g/\g<256) (cm:Bool) (d:Dk):∃(m:Ms) (d':Dk),L3 m/\rem d'<=rem d/\zN 20 [.ptr 1000 0 0,wH c,iA g,bA cm] [(1000,fF d)] (zX m) [(1000,fF d')]:=by
 have c1:=yR d 12 zB zB;have b1:=yQ d 12 zB;have r1:=vF d;have au:=cD (1000+g);have ap:=YE g 0 (cL (1000+g)) (by rw[fA];omega) hg.1 hg.2 zB zB;generalize hx:nx d 12=x at *;generalize ad d=B at *;have hT:=O3 g hg B;have ag:=tp g B;generalize E:Vd g B=v at *;obtain⟨M,d2⟩:=v;dsimp only at hT ag;have O:=N3 (1+x) zB d2;generalize C:mi (1+x) d2=v at *;obtain⟨k,d3⟩:=v;dsimp only at O;have Y:=Q7 cm d3;generalize I:p6 cm d3=v at *;obtain⟨cl,A⟩:=v;dsimp only at Y;have S:=M3 hc k cl Y.1 O.1 A;generalize u:Rd c k cl A=v at *;obtain⟨args,d5⟩:=v;dsimp only at S;refine⟨⟨k,M,args,[]⟩,d5,⟨hT.1,ag,O.1,S.2.1,S.2.2,rfl⟩,by have:=hT.2;have:=O.2;have:=Y.2;have:=S.1;omega,?_⟩;clear ag;have n9:=yR B 9 zB zB;have ar:=Xv c hc;unfold wH at *;rw[show zE wD c.js= .sl false (c.js.map wD)from Z,show zE uF c.ags= .sl false (c.ags.map uF)from Z]at *; generalize c.js.map wD=JS,c.ags.map uF=ac at *;refine eM call20 λF hF=>?_
 (have gd:=c1;have gn:=n9;have gt:=au;have gv:=ap;(repeat' (first|refine ub ?_|apply yW|apply xH|intro hc|(apply zG;first|refine SM ?_)|fail))<;>clear gd gn gt gv)
 refine gB [1000,5,8,9] [0,2,3,5,8,9] ⟨[(0,.ptr 1000 0 0),(2,iA g),(3,bA cm),(5,.ptr 5 0 0),(8,.ptr 8 0 0),(9,.ptr 9 0 0)],[(1000,fF d2),(5,.box [.sl false JS,.sl false ac,iA c.per,iA c.cap,iA c.hold,iA c.lock]),(8,.box [iA 0,.s (.slice none 0 0),.s (.slice none 0 0),.s (.slice none 0 0)]),(9,.box [iA (1+x),zE yA M,.s (.slice none 0 0),.s (.slice none 0 0)])]⟩ rfl ?_ ?_
 .unfold Vd at E;by_cases h7:nx B 9=7
  .rw[zAs h7]at E;cases E;have L:=yR (ad B) 4 zB zB;have G:=yR (ad (ad B)) 3 zB zB;have w1:=yQ (ad B) 4 zB;have w2:=yQ (ad (ad B)) 3 zB;have cs:=cD (2000+10*g+nx (ad (ad B)) 3);have cb:=YE g (nx (ad B) 4) (cL (2000+10*g+nx (ad (ad B)) 3)) (by rw[fA];omega) hg.1 hg.2 zB zB;clear hT C;refine yF (cI L G cs cb) ?_;exact⟨rfl,rfl⟩
  rw[Os h7]at E;by_cases h8:nx B 9=8
  .rw[zAs h8]at E;cases E;have L:=yR (ad B) 3 zB zB;have G:=yR (ad (ad B)) 3 zB zB;have w1:=yQ (ad B) 3 zB;have w2:=yQ (ad (ad B)) 3 zB;have cs:=cD (1000+nx (ad (ad B)) 3);have cb:=YE (nx (ad B) 3) 0 (cL (1000+nx (ad (ad B)) 3)) (by rw[fA];omega) zB zB zB zB;clear hT C;refine yF (cI L G cs cb) ?_;exact⟨rfl,rfl⟩
  .rw[Os h8]at E;cases E;clear hT C;refine WW ?_;exact⟨rfl,rfl⟩
 clear E n9 c1 au ap;have G:=yR d2 2 zB zB
 (have gd:=G;(repeat' (first|refine ub ?_|apply yW|apply xH|intro hc|(apply zG;first|refine SM ?_)|fail))<;>clear gd)
 refine gB [1000,5,8,9] [0,2,3,5,8,9] ⟨[(0,.ptr 1000 0 0),(2,iA g),(3,bA cm),(5,.ptr 5 0 0),(8,.ptr 8 0 0),(9,.ptr 9 0 0)],[(1000,fF d3),(5,.box [.sl false JS,.sl false ac,iA c.per,iA c.cap,iA c.hold,iA c.lock]),(8,.box [iA 0,.s (.slice none 0 0),.s (.slice none 0 0),.s (.slice none 0 0)]),(9,.box [iA k,zE yA M,.s (.slice none 0 0),.s (.slice none 0 0)])]⟩ rfl ?_ ?_
 .unfold mi at C;have n3:=yR (ad d2) 4 zB zB;have w3:=yQ (ad d2) 4 zB;have hy:=Vv _ w3;have av:([AV.s (.int .i64 6),AV.s (.int .i64 4),AV.s (.int .i64 6),AV.s (.int .i64 7)]:List AV).length=4:=rfl;clear u I O;by_cases h0:nx d2 2=0
  .rw[zAs h0]at C;cases C;refine zS n3 (I2 (λhc=>?_) λhc=>?_)
   all_goals first|(exfalso;omega;done)|exact⟨rfl,rfl⟩
  .rw[Os h0]at C;cases C;refine zS n3 (I2 (λhc=>?_) λhc=>?_)
   all_goals first|(exfalso;omega;done)|exact⟨rfl,rfl⟩
 clear C G;have c3:=yR d3 4 zB zB
 (have gd:=c3;(repeat' (first|refine ub ?_|apply yW|apply xH|intro hc|(apply zG;first|refine SM ?_)|fail))<;>clear gd)
 refine gB [1000,5,8,9] [0,2,3,5,8,9,10] ⟨[(0,.ptr 1000 0 0),(2,iA g),(3,bA cm),(5,.ptr 5 0 0),(8,.ptr 8 0 0),(9,.ptr 9 0 0),(10,iA cl)],[(1000,fF A),(5,.box [.sl false JS,.sl false ac,iA c.per,iA c.cap,iA c.hold,iA c.lock]),(8,.box [iA 0,.s (.slice none 0 0),.s (.slice none 0 0),.s (.slice none 0 0)]),(9,.box [iA k,zE yA M,.s (.slice none 0 0),.s (.slice none 0 0)])]⟩ rfl ?_ ?_
 .unfold p6 at I;clear u;have G:=yR (ad d3) 2 zB zB
  cases cm with
  |true=>
   rw[zAs Z]at I;cases I;refine zS G ?_;exact⟨rfl,rfl⟩
  |false=>
   rw[Os zA9]at I;cases I;refine WW ?_;exact⟨rfl,rfl⟩
 clear I c3
 (repeat' (first|refine f9 ?_|apply yW|apply xH|intro hc|(apply zG;first|refine SM ?_)|fail))
 have b4:=yQ A 4 zB;unfold Rd at u;by_cases k2:k=2
 .rw[zAs k2]at u;cases u;have L:=yR A 5 zB zB;have G:=yR (ad A) 5 zB zB;have n3:=yR (ad (ad A)) 4 zB zB;have w1:=yQ A 5 zB;have w3:=yQ (ad (ad A)) 4 zB;have h1:=Uv _ w1;have h3:=Tv _ w3;have a3:([AV.s (.int .i64 63),AV.s (.int .i64 1),AV.s (.int .i64 3),AV.s (.int .i64 47),AV.s (.int .i64 64)]:List AV).length=5:=rfl;have av:([AV.s (.int .i64 0),AV.s (.int .i64 5),AV.s (.int .i64 30),AV.s (.int .i64 700)]:List AV).length=4:=rfl;generalize ii (nx A 5)=y1,Sd (nx (ad (ad A)) 4)=y3 at *;clear S O Y hT;refine yF (qC L G n3) ?_;exact zI [1000] Z Z Z Z
 rw[Os k2]at u;by_cases k3:k=3\/k=8\/k=5\/k=10\/k=11
 .rw[zAs k3]at u;cases u;have L:=yR A 4 zB zB;clear S O Y hT
  rcases k3 with h|h|h|h|h<;>((refine zS L ?_);exact zI [1000] Z Z Z Z)
 rw[Os k3]at u;by_cases k4:k=4
 .rw[zAs k4]at u;cases u;have L:=yR A 4 zB zB;clear S O Y hT;refine zS L ?_;exact zI [1000] Z Z Z Z
 rw[Os k4]at u;by_cases k6:k=6
 .rw[zAs k6]at u;have L:=yR A 4 zB zB;have G:=yR (ad A) 4 zB zB;have n3:=jP (ad (ad A)) 1 60 zB zB zB;have w1:=yQ A 4 zB;have w2:=yQ (ad A) 4 zB;have w3:=yQ (ad (ad A)) (60-1+1) zB;have cq:=ar [nx A 4,nx (ad A) 4,1+nx (ad (ad A)) (60-1+1)] zV (.cons zB (.cons zB (.cons zB .nil))) (ad (ad (ad A)));rw[u]at cq;clear ar;clear S O Y hT u;generalize 1+nx (ad (ad A)) (60-1+1)=x3,nx (ad A) 4=x2,nx A 4=V at *;refine yF (cI L G n3 cq) ?_;exact zI [1000] Z Z (zBd (λz=>AV.agg [iA k,zE yA M,.sl false z,zE yA []]) (zAv (l:=args.map iA))) Z
 rw[Os k6]at u;by_cases k7:k=7
 .rw[zAs k7]at u;have L:=yR A 4 zB zB;have G:=yR (ad A) 2 zB zB;have w2:=yQ (ad A) 2 zB;have w1:=yQ A 4 zB;have ax:RR [nx A 4]:= .cons zB .nil;clear w1;clear S O Y hT;generalize nx A 4=V at *;generalize nx (ad A) 2=n at *;generalize ad A=e4 at *;generalize ad e4=W at *;obtain⟨N,hN⟩:∃N:Nat,1+n.toNat=N:=⟨_,rfl⟩;have az:1+n=(N:Int):=by omega
  rw[hN]at u;refine yF (xQ L G) ?_;refine vP 114 Z ?_;refine zO (N) [9,1000,114,8] [8] [0,8,9] [11,0,8,9] Z (λi T U=>⟨(11,iA ((N:Int)-i))::T,(9,.box [iA k,zE yA M,.ref 114 0 ((VQ [V] W i).1.map iA).length,.s (.slice none 0 0)])::(1000,fF (VQ [V] W i).2)::(114,.arr 1 ((VQ [V] W i).1.map iA) true)::U⟩) ?_;(conv=>whnf);refine⟨by(rw[show(N:Int)-(0:Nat)=1+n by omega];rfl),?_,?_⟩
  .intro i hi;have hl:=(Ud [V] ax W i).1;have eS:VQ [V] W (i+1)=qa (VQ [V] W i).1 (VQ [V] W i).2:=rfl;unfold qa at eS;rw[show((N:Int)-((i+1:Nat):Int))=(N:Int)-i-1 by omega];generalize (VQ [V] W i).1=p at *;generalize (VQ [V] W i).2=e at *;have a1:1<=(N:Int)-i:=by omega
   have a2:(N:Int)-i<=10:=by omega
   have hp:ln p<=100:=by simp at hl;omega
   generalize (N:Int)-i=q at *;have L:=yR e 3 zB zB;have G:=yR (ad e) 40 zB zB;have w1:=yQ e 3 zB;have w2:=yQ (ad e) 40 zB;generalize nx (ad e) 40=y2,nx e 3=y1 at *;generalize ad e=e1 at *;generalize ad e1=e2 at *;rw[eS];refine yF (xQ L G) ?_
   show restr _ _ _=_
   rw[zA0];rfl
  .rw[show(N:Int)-(N:Int)=0 by omega,u];refine WW ?_;exact zI [1000] Z Z (zBd (λz=>AV.agg [iA k,zE yA M,.sl false z,zE yA []]) (zAv (l:=args.map iA))) Z
 .rw[Os k7]at u;cases u;clear S O Y hT;refine WW ?_;exact zI [1000] Z Z Z Z
def cX (k:Int):zN 142 [iA k] [] (bA (decide (1<=k/\k<=12))) []:=by
 cases hb:decide (1<=k/\k<=12)with
 |false=>(rw[zA6]at hb;(refine eM call142 λF hF=>?_);((refine WW (I2 (λhc=>?_) λhc=>?_)));all_goals (first|exact zH|exact MP|exact OB))
 |true=>(rw[zAz]at hb;(refine eM call142 λF hF=>?_);((refine WW ?_));all_goals (first|exact zH|exact MP|exact OB))
def dE (k:Int):zN 266 [iA k] [] (bA (decide (1<=k/\k<=12))) []:=by
 cases hb:decide (1<=k/\k<=12)with
 |false=>(rw[zA6]at hb;(refine eM call266 λF hF=>?_);((refine WW (I2 (λhc=>?_) λhc=>?_)));all_goals (first|exact zH|exact MP|exact OB))
 |true=>(rw[zAz]at hb;(refine eM call266 λF hF=>?_);((refine WW ?_));all_goals (first|exact zH|exact MP|exact OB))
theorem FQ (u z:Nat) (c:Int):∀(l:List Int) (i:Nat),(ZA u z c i l).length<=6*ln l
 | [],i=>by simp[ZA]
 |x::r,i=>by
  have h1:=FQ u z c r (i+1);have h2:=gE x;rw[ZA,zAx,zAx,zA8]
  have A:(if i=u/\z≠0 then [c]else []).length<=1:=by split<;>simp
  omega
def Br (u c:Nat) (d:List Int):Bool:=decide (ln d=0/\(u=0\/1<=c))
theorem FR (k:Int):wE k=0\/wE k=2\/wE k=4:=by grind [wE]
theorem FS (k:Int):vU k<=3:=by grind [vU]
theorem LD (k:Int) (E:1<=k) (h1:k<=12) (m:Ms) (c:Nat) (hk:m.kind=k) (ht:ln m.tok=10) (hd:ln m.data<=100000) (G:∀x∈m.args,0<=x/\x<=4294967295) (hc:ln m.args=vU k+c*wE k) (L:c<=3):
  zN 69 [zX m] [] (bA (Br (wE k) c m.data)) []:=by
 have u:=Uc k E h1;have A:=cX k;have hf:=FS k;rw[zAw ⟨E,h1⟩]at A;have W:=YY k E h1 m c hk ht hd G (by have:=FR k;rcases this with h|h|h<;>rw[h]at hc<;>omega) (λ_=>hc) L
 have ax:(dK (vU k) (wE k) c m).length<=10+(6*ln m.args+(1+ln m.data)):=by
  have h1:=FQ (vU k) (wE k) c m.args 0
  have h3:(if wE k≠0/\m.args.length=vU k then [(0:Int)]else []).length<=1:=by split<;>simp
  unfold dK;rw[zAx,zAx,zAx];omega
 have au:=zA yA (dK (vU k) (wE k) c m);have Y:=FR k;subst hk;generalize dK (vU m.kind) (wE m.kind) c m=pl at *;generalize vU m.kind=B at *;generalize wE m.kind=gr at *;unfold Vc at u;have av:=zA yA m.tok;have ap:=zA iA m.args;have ar:=zA yA m.data
 cases hb:Br gr c m.data with
 | true=>
  unfold Br at hb;rw[zAz]at hb;obtain⟨ac,ag⟩:=hb
  rcases Y with rfl|rfl|rfl
  .rw[zAs Z,zAs Z]at u;refine eM call69 λF hF=>?_
   refine yF (xQ u A) ?_;refine zU (m.args) [1] [1] [1,97,98] [99,1,97,98] Z (λi ga T U=>⟨(99,iA i)::T,U⟩) (Lq ?_ ?_)
   .intro i ga x post z hi;have hy:=yJ iA z hi;have C:=zW z hi;have V:=G x (xA z);clear z;refine WW ?_;rfl
   .exact nl W
  all_goals
   rw[Os yY,Os yY]at u;have O:(((m.args.map iA).length:Int)-(B:Int)).tmod ((2:Nat):Int)=0:=by rw[zB3 zB];omega
   have S:(((m.args.map iA).length:Int)-(B:Int)).tmod ((4:Nat):Int)=(((m.args.map iA).length:Int)-(B:Int)) % 4:=zB3 zB;refine eM call69 λF hF=>?_
   refine yF (xQ u A) ?_;refine zU (m.args) [1] [1] [1,97,98] [99,1,97,98] Z (λi ga T U=>⟨(99,iA i)::T,U⟩) (Lq ?_ ?_)
   .intro i ga x post z hi;have hy:=yJ iA z hi;have C:=zW z hi;have V:=G x (xA z);clear z;refine WW ?_;rfl
   .exact nl W
 | false=>
  unfold Br at hb;rw[zA6]at hb
  rcases Y with rfl|rfl|rfl
  .rw[zAs Z,zAs Z]at u;have M:ln m.data≠0:=λh=>hb ⟨h,.inl Z⟩
   refine eM call69 λF hF=>?_
   exact ng (xQ u A)
  all_goals
   rw[Os yY,Os yY]at u;have O:(((m.args.map iA).length:Int)-(B:Int)).tmod ((2:Nat):Int)=0:=by rw[zB3 zB];omega
   have S:(((m.args.map iA).length:Int)-(B:Int)).tmod ((4:Nat):Int)=(((m.args.map iA).length:Int)-(B:Int)) % 4:=zB3 zB;by_cases I:1<=c
   .have M:ln m.data≠0:=λh=>hb ⟨h,.inr I⟩
    refine eM call69 λF hF=>?_
    exact ng (xQ u A)
   ·(refine eM call69 λF hF=>?_)
    exact ng (xQ u A)
theorem LE:∀l:List Int,((l.map jT).flatten).length<=5*ln l
 | []=>by simp
 |x::l=>by
  have h1:=LE l;have h2:=gE x;rw[zCc,zDq,zAx,zA8];omega
theorem ip (u:Nat) (c:Int):∀(l:List Int) (i:Nat),ZA u 0 c i l=(l.map jT).flatten
 | [],i=>rfl
 |x::l,i=>by
  rw[ZA,ip u c l (i+1),Os (λh=>h.2 Z)];rfl
theorem Zp (u z:Nat) (c:Int):∀(l:List Int) (i:Nat),u<i->ZA u z c i l=(l.map jT).flatten
 | [],i,_=>rfl
 |x::l,i,h=>by
  rw[ZA,Zp u z c l (i+1) zB,Os (λh2=>by omega)];rfl
theorem FT (u z:Nat) (c:Int) (B:z≠0) (f:List Int) (A:f≠[]):∀(a:List Int) (i:Nat),i+ln a=u->ZA u z c i (a++f)=(a.map jT).flatten++([c]++(f.map jT).flatten)
 | [],i,h=>by
  cases f with
  |nil=>exact absurd Z A
  |cons x f=>
   have hi:i=u:=by simpa using h
   rw[zD3,ZA,zAs ⟨hi,B⟩,Zp u z c f (i+1) zB];rfl
 |x::a,i,h=>by
  rw[zD8,ZA,FT u z c B f A a (i+1) (by rw[zA8]at h;omega),Os (λh2=>by rw[zA8]at h;omega),zD3,zCc,zDq,zBl]
theorem Zi (k:Int) (h0:1<=k) (h1:k<=12) (p:List Int) (hb:BY p) (hn:ln p<=100000):zN 191 [iA k,zE yA p] [] (B5 k (p.take 10) (MF (vU k) (wE k) p)) []:=by
 have hl:=zA yA p;have I:=Uc k h0 h1;have W:=cX k;rw[zAw ⟨h0,h1⟩]at W;have hf:=FS k;have hg:=FR k;by_cases a7:ln p<10
 .rw[show MF (vU k) (wE k) p=none from zAs (.inr a7)]
  show zN 191 [iA k,zE yA p] [] (.tup [zX ⟨0,[],[],[]⟩,iA 6]) []
  unfold Vc at I;refine eM call191 λF hF=>?_
  exact ng (xQ I W)
 have a3:BY (p.drop 10):=λy hy=>hb y (zB1 hy)
 have bb:(p.drop 10).length<=100000:=by rw[zBr];omega
 have bu:((p.take 10).map yA).length=10:=by rw[zAt,zBi];omega
 have b3:((p.take (10:Int).toNat).map yA).length=10:=bu;have S:=VJ (p.drop 10) (vU k) a3 bb zB
 cases u:XN (vU k) (p.drop 10)with
 | none=>
  have e:MF (vU k) (wE k) p=none:=by
   unfold MF;rw[u]
   split<;>rfl
  rw[e];rw[u]at S
  show zN 191 [iA k,zE yA p] [] (.tup [zX ⟨0,[],[],[]⟩,iA 6]) []
  unfold uf at S;unfold Vc at I;refine eM call191 λF hF=>?_
  (have gd:=I;have gn:=W;have gt:=S;(repeat' (first|refine uS ?_|apply yW|apply xH|intro hc|(apply zG;first|(apply yC;refine gQ tok Z Z Z Z Z Z (yM _ _ (λ_=>rfl)) Z Z Z zB Z Z Z ?_))|fail))<;>clear gd gn gt)
  exact zH
 |some q=>
 obtain⟨a,r⟩:=q;obtain⟨ha,a4,au,E⟩:=bD _ _ _ _ a3 u;have b5:=LE a
 have br:ln p=10+(((a.map jT).flatten).length+ln r):=by
  have:=zBd List.length E;rw[zAx,zBr]at this;omega
 have z:p=p.take 10++((a.map jT).flatten++r):=by rw[<-E,zEj]
 have b9:=zA yA r;have b6:=zA iA a;have a1:ln r<=100000:=by omega
 rw[u]at S;unfold uf at S
 rcases Nat.eq_zero_or_pos (wE k)with O|O
 .have V:=LD k h0 h1 ⟨k,p.take 10,a,r⟩ 0 Z JL a1 au (by rw[O];exact ha) zB;have v2:=YY k h0 h1 ⟨k,p.take 10,a,r⟩ 0 Z JL a1 au (by show (ln a)<=1000;omega) (λh=>absurd O h) zB;rw[O]at V v2 I⊢;unfold Vc at I;by_cases hr:r=[]
  .subst hr
   have e:MF (vU k) 0 p=some a:=by
    unfold MF;rw[Os (by rw[zBz]at br;omega),u];rfl
   have e2:dK (vU k) 0 0 ⟨k,p.take 10,a,[]⟩=p:=by
    unfold dK;rw[ip]
    conv=>rhs;rw[z]
    simp
   rw[e];rw[show((0:Nat):Int)=0 from Z,e2]at v2;rw[show Br 0 0 ([]:List Int)=true from Z]at V;have bd:=TN p;clear e2 z u E
   show zN 191 [iA k,zE yA p] [] (.tup [zX ⟨k,p.take 10,a,[]⟩,iA 0]) []
   generalize vU k=fx at *;refine eM call191 λF hF=>?_
   (have gd:=I;have gn:=W;have gt:=S;have gv:=V;have io:=v2;(repeat' (first|refine uS ?_|apply yW|apply xH|intro hc|(apply zG;first|(apply yC;first|(refine vV [4,6,7] [0,1,4,5,6,7,93] Z ?_;(conv=>whnf);(try simp only[zBf,zAv]);refine kZ tok Z Z Z Z Z Z (yM _ _ (λ_=>rfl)) Z Z Z zB Z ?_)|refine gQ tok Z Z Z Z Z Z (yM _ _ (λ_=>rfl)) Z Z Z zB Z Z Z ?_))|fail))<;>clear gd gn gt gv io)
   exact zH
  .have bs:ln r≠0:=λh=>hr (zBv h)
   have e:MF (vU k) 0 p=none:=by
    unfold MF;rw[u];split
    .rfl
    .show(if(0:Nat)=0 then(if r=[]then some a else none)else _)=none
     rw[zAs Z,Os hr]
   rw[e];rw[show Br 0 0 r=false from zAu (λh=>bs h.1)]at V;clear v2 z u E
   show zN 191 [iA k,zE yA p] [] (.tup [zX ⟨0,[],[],[]⟩,iA 6]) []
   generalize vU k=fx at *;refine eM call191 λF hF=>?_
   (have gd:=I;have gn:=W;have gt:=S;have gv:=V;(repeat' (first|refine uS ?_|apply yW|apply xH|intro hc|(apply zG;first|(apply yC;first|(refine vV [4,6,7] [0,1,4,5,6,7,93] Z ?_;(conv=>whnf);(try simp only[zBf,zAv]);refine kZ tok Z Z Z Z Z Z (yM _ _ (λ_=>rfl)) Z Z Z zB Z ?_)|refine gQ tok Z Z Z Z Z Z (yM _ _ (λ_=>rfl)) Z Z Z zB Z Z Z ?_))|fail))<;>clear gd gn gt gv)
   exact zH
 have bl:wE k<=4:=by omega
 have c3:=VJ r 1 a4 a1 zB;unfold Vc at I;rw[Os zB,Os zB]at I
 cases A:XN 1 r with
 | none=>
  have e:MF (vU k) (wE k) p=none:=by
   unfold MF;rw[u];split
   .rfl
   .show(if wE k=0 then _ else match XN 1 r with|none=>none|some (c,r2)=>_)=none
    rw[Os zB,A]
  rw[e];rw[A]at c3;unfold uf at c3
  show zN 191 [iA k,zE yA p] [] (.tup [zX ⟨0,[],[],[]⟩,iA 6]) []
  clear z u E A e;generalize vU k=fx,wE k=gr at *;refine eM call191 λF hF=>?_
  (have gd:=I;have gn:=W;have gt:=S;have gv:=c3;(repeat' (first|refine uS ?_|apply yW|apply xH|intro hc|(apply zG;first|(apply yC;first|(refine vV [4,6,7] [0,1,4,5,6,7,93] Z ?_;(conv=>whnf);(try simp only[zBf,zAv]);refine kZ tok Z Z Z Z Z Z (yM _ _ (λ_=>rfl)) Z Z Z zB Z ?_)|refine gQ tok Z Z Z Z Z Z (yM _ _ (λ_=>rfl)) Z Z Z zB Z Z Z ?_))|fail))<;>clear gd gn gt gv)
  exact zH
 |some q2=>
 obtain⟨c,r2⟩:=q2;obtain⟨a5,ap,ba,B⟩:=bD _ _ _ _ a4 A
 obtain⟨v,rfl⟩:∃v,c=[v]:=by
  cases c with
  |nil=>cases a5
  |cons v c=>cases c with
   |nil=>exact⟨v,rfl⟩
   |cons w c=>simp at a5
 have bx:=(ba v zV).1
 have a8:ln r2<=100000:=by
  have:=zBd List.length B;rw[zAx]at this;omega
 rw[A]at c3;unfold uf at c3
 have eD:¬(200<ln p\/p.length<10)->MF (vU k) (wE k) p=if v<1\/3<v then none else match XN (v.toNat*wE k) r2 with
   |none=>none
   |some (f,Y)=>if Y=[]then some (a++f)else none:=λh=>by
  unfold MF;rw[Os h,u]
  show(if wE k=0 then _ else match XN 1 r with|none=>none|some (c,r2)=>_)=_
  rw[Os zB,A];rfl
 by_cases bz:3<v
 .have e:MF (vU k) (wE k) p=none:=by
   by_cases h:200<ln p\/p.length<10
   .exact zAs h
   .rw[eD h,zAs (.inr bz)]
  rw[e]
  show zN 191 [iA k,zE yA p] [] (.tup [zX ⟨0,[],[],[]⟩,iA 6]) []
  clear z u E A e eD B;generalize vU k=fx,wE k=gr at *;refine eM call191 λF hF=>?_
  (have gd:=I;have gn:=W;have gt:=S;have gv:=c3;(repeat' (first|refine uS ?_|apply yW|apply xH|intro hc|(apply zG;first|(apply yC;first|(refine vV [4,6,7] [0,1,4,5,6,7,93] Z ?_;(conv=>whnf);(try simp only[zBf,zAv]);refine kZ tok Z Z Z Z Z Z (yM _ _ (λ_=>rfl)) Z Z Z zB Z ?_)|refine gQ tok Z Z Z Z Z Z (yM _ _ (λ_=>rfl)) Z Z Z zB Z Z Z ?_))|fail))<;>clear gd gn gt gv)
  exact zH
 have a2:v.toNat*wE k<=12:=zBx (zDj (show v.toNat<=3 by omega) bl) yY;have M:((v.toNat*wE k:Nat):Int)=v*(wE k:Int):=by rw[zFc,zEo zB]
 have c4:=VJ r2 (v.toNat*wE k) ap a8 zB;have hm:0<=v*(wE k:Int)/\v*(wE k:Int)<=12:=by rw[<-M];omega
 cases C:XN (v.toNat*wE k) r2 with
 | none=>
  have e:MF (vU k) (wE k) p=none:=by
   by_cases h:200<ln p\/p.length<10
   .exact zAs h
   .rw[eD h,C]
    split<;>rfl
  rw[e];rw[C,M]at c4;unfold uf at c4
  show zN 191 [iA k,zE yA p] [] (.tup [zX ⟨0,[],[],[]⟩,iA 6]) []
  clear z u E A e eD B C M a2;generalize vU k=fx,wE k=gr at *;refine eM call191 λF hF=>?_
  (have gd:=I;have gn:=W;have gt:=S;have gv:=c3;have io:=c4;(repeat' (first|refine uS ?_|apply yW|apply xH|intro hc|(apply zG;first|(apply yC;first|(refine vV [4,6,7] [0,1,4,5,6,7,93] Z ?_;(conv=>whnf);(try simp only[zBf,zAv]);refine kZ tok Z Z Z Z Z Z (yM _ _ (λ_=>rfl)) Z Z Z zB Z ?_)|refine gQ tok Z Z Z Z Z Z (yM _ _ (λ_=>rfl)) Z Z Z zB Z Z Z ?_))|fail))<;>clear gd gn gt gv io)
  exact zH
 |some q3=>
 obtain⟨f,Y⟩:=q3;obtain⟨G,b0,bk,L⟩:=bD _ _ _ _ ap C;have b7:=zA iA f;have b1:ln f<=12:=by omega
 have b2:=zA yA Y
 have ar:ln Y<=100000:=by
  have:=zBd List.length L;rw[zAx]at this;omega
 rw[C,M]at c4;unfold uf at c4;have U:(a++f).length=vU k+v.toNat*wE k:=by rw[zAx,ha,G]
 have ag:∀x∈a++f,0<=x/\x<=4294967295:=λx hx=>by
  rcases zBe.1 hx with h|h
  .exact au x h
  .exact bk x h
 have V:=LD k h0 h1 ⟨k,p.take 10,a++f,Y⟩ v.toNat Z JL ar ag U zB;have v2:=YY k h0 h1 ⟨k,p.take 10,a++f,Y⟩ v.toNat Z JL ar ag (by show(a++f).length<=1000;omega) (λ_=>U) zB
 have ac:∀t:List Int,zX ⟨k,t,a++f,Y⟩= .agg [iA k,zE yA t,.sl false (a.map iA++f.map iA),zE yA Y]:=λt=>by
  rw[<-zA0];rfl
 rw[ac]at V v2;by_cases av:Y=[]/\1<=v
 .obtain⟨rfl,a9⟩:=av;have b4:=LE f;have a6:jT v=[v]:=VK zB
  have az:r=[v]++(f.map jT).flatten:=by
   rw[B,L,zBo];simp[a6]
  have bf:f≠[]:=λh=>by
   rw[h]at G;have:0<v.toNat*wE k:=Nat.mul_pos zB O;simp at G;omega
  have e2:dK (vU k) (wE k) (v.toNat:Int) ⟨k,p.take 10,a++f,[]⟩=p:=by
   unfold dK;rw[Os (λh=>by have:=h.2;rw[U]at this;have h3:0<v.toNat*wE k:=Nat.mul_pos zB O;omega)]
   show(p.take 10++ZA (vU k) (wE k) (v.toNat:Int) 0 (a++f))++([]++[])=p
   rw[FT _ _ _ zB f bf a 0 zB,zEo bx,zBo,zBo,<-az];exact z.symm
  have ax:¬(200<ln p\/p.length<10):=by
   have:=zBd List.length az;rw[zAx,zCx]at this;omega
  have e:MF (vU k) (wE k) p=some (a++f):=by
   rw[eD ax,Os zB,C];rfl
  rw[e];rw[e2]at v2;rw[show Br (wE k) v.toNat ([]:List Int)=true from zAw ⟨rfl,.inr zB⟩]at V;have bd:=TN p
  show zN 191 [iA k,zE yA p] [] (.tup [zX ⟨k,p.take 10,a++f,[]⟩,iA 0]) []
  rw[ac];clear z u E A e eD B C M a2 e2 az a6 ac U G L;generalize vU k=fx,wE k=gr at *;refine eM call191 λF hF=>?_
  (have gd:=I;have gn:=W;have gt:=S;have gv:=c3;have io:=c4;have la:=V;have lk:=v2;(repeat' (first|refine uS ?_|apply yW|apply xH|intro hc|(apply zG;first|(apply yC;first|(refine vV [4,6,7] [0,1,4,5,6,7,93] Z ?_;(conv=>whnf);(try simp only[zBf,zAv]);refine kZ tok Z Z Z Z Z Z (yM _ _ (λ_=>rfl)) Z Z Z zB Z ?_)|refine gQ tok Z Z Z Z Z Z (yM _ _ (λ_=>rfl)) Z Z Z zB Z Z Z ?_))|fail))<;>clear gd gn gt gv io la lk)
  exact zH
 .have e:MF (vU k) (wE k) p=none:=by
   by_cases h:200<ln p\/p.length<10
   .exact zAs h
   .rw[eD h];by_cases a9:v<1
    .rw[zAs (.inl a9)]
    .rw[Os zB,C];exact Os λh3=>av ⟨h3,zB⟩
  rw[e]
  rw[show Br (wE k) v.toNat Y=false from zAu (λh=>by
   rcases h with⟨h3,h4⟩
   exact av ⟨zBv h3,zB⟩)]at V
  show zN 191 [iA k,zE yA p] [] (.tup [zX ⟨0,[],[],[]⟩,iA 6]) []
  clear z u E A e eD B C M a2 ac U G L v2;generalize vU k=fx,wE k=gr at *;refine eM call191 λF hF=>?_
  (have gd:=I;have gn:=W;have gt:=S;have gv:=c3;have io:=c4;have la:=V;(repeat' (first|refine uS ?_|apply yW|apply xH|intro hc|(apply zG;first|(apply yC;first|(refine vV [4,6,7] [0,1,4,5,6,7,93] Z ?_;(conv=>whnf);(try simp only[zBf,zAv]);refine kZ tok Z Z Z Z Z Z (yM _ _ (λ_=>rfl)) Z Z Z zB Z ?_)|refine gQ tok Z Z Z Z Z Z (yM _ _ (λ_=>rfl)) Z Z Z zB Z Z Z ?_))|fail))<;>clear gd gn gt gv io la)
  exact zH
def Yi (l:List Rq) (q:Int) (hv:cJ l) (z:¬(ln l:Int)<=q):zN 354 [zE zY l,iA q] [] (bA false) []:=by
 have hl:=zA zY l;have u:=hv.n4;refine eM call354 λF hF=>?_
 exact mx
def Pd (l:List Rq) (q:Int) (hv:cJ l) (Y:¬(ln l:Int)<=q):zN 295 [zE zY l,iA q] [] (bA false) []:=by
 have hl:=zA zY l;have W:=hv.n4;refine eM call295 λF hF=>?_
 refine WW ?_;refine zO (ln l) [] [] [0,1,7,8] [9,0,1,7,8] Z (λi T U=>⟨(9,iA i)::T,U⟩) (Lq ?_ ?_)
 .intro i hi;have hy:=zJ zY l i hi;have B:l.getD i dd∈l:=by simp[pi,hi]
  obtain⟨i0,i1,v0,v1,S,V,t0,t1,z⟩:=hv.ok _ B;have C:=wR (l.getD i dd).id 0 4294967295;have E:=wR (l.getD i dd).vh 0 4294967295;have G:=wR (l.getD i dd).cls 0 3;have L:=wR (l.getD i dd).til 0 2147483648;have I:=FA (l.getD i dd).legs (by have:=XE z;omega);rw[zAw zB]at C E G L;rw[z]at I;by_cases A:0<i
  .have u:=yE zY l ((i:Int)-1) zB zB;rw[show((i:Int)-1).toNat=i-1 by omega]at u;have O:(l.map zY)[((i:Int)-1).toNat]? =some (zY (l.getD (i-1) dd)):=by rw[show((i:Int)-1).toNat=i-1 by omega];exact u
   have M:=hv.lt A hi;clear u B z;generalize l.getD i dd=t,l.getD (i-1) dd=p at *;refine yF (MO C E G L I) ?_;rfl
  .obtain rfl:i=0:=by omega
   clear B z;generalize l.getD 0 dd=t at *;refine yF (MO C E G L I) ?_;rfl
 .exact mx
def Wi (l:List Rq) (q id:Int) (v:Vh) (u:Int) (x:List Lg) (f4:Int) (hv:cJ l) (A:¬(ln l:Int)<=q):
  zN 353 [zE zY l,iA q,iA id,vC v,iA u,zE yO x,iA f4] [] (.tup [zE zY [],iA 1]) []:=by
 have z:=Yi l q hv A;refine eM call353 λF hF=>?_
 exact nl z
def Od (l:List Rq) (q id:Int) (v:Vh) (u:Int) (x:List Lg) (f4:Int) (hv:cJ l) (A:¬(ln l:Int)<=q):
  zN 293 [zE zY l,iA q,iA id,vC v,iA u,zE yO x,iA f4] [] (.tup [zE zY [],iA 1]) []:=by
 have z:=Pd l q hv A;refine eM call293 λF hF=>?_
 exact nl z
def LF {r x:Rq}:x∈gX l r->x=r\/x∈l:=λh=>by
 unfold gX at h
 rcases zBe.1 h with h|h
 .exact .inr (zCr h)
 .rcases zCh.1 h with h|h
  .exact .inl h
  .exact .inr (zB1 h)
theorem J3 {q id u:Int} {v:Vh} {x:List Lg} (hv:cJ l) (z:QW l q id u x=0) (I:0<=v.id) (L:v.id<=4294967295) (M:0<=v.cls) (O:v.cls<=3) (U:0<=f4) (V:f4<=1073741824):cJ (gX l (gO id v u x f4)):=by
 have h1:0<=id/\id<=4294967295/\1<=u/\u<=600/\AK x=true:=by
  grind [QW,gX,gO]
 rw[QW,Os (λh=>h h1)]at z
 have hh:kU l id=false:=by
  grind
 rw[Os CD]at z;have S:¬(q<=ln l\/4<=(ln l:Int)):=λh=>by rw[zAs h]at z;cases z
 have E:∀r∈l,r.id≠id:=by simpa [kU]using hh
 have C:=Kc l id;refine⟨λr A=>?_,?_,?_⟩
 .rcases LF A with rfl|A
  .exact⟨h1.1,h1.2.1,I,L,M,O,by show 0<=f4+u;omega,by show f4+u<=2147483648;omega,h1.2.2.2.2⟩
  .exact hv.ok r A
 .have G:=hv.so;unfold gX
  show((l.take (XD l id))++gO id v u x f4::l.drop (XD l id)).Pairwise _
  rw[zEz,zFu];have B:=G;rw[<-zEj (XD l id) l,zEz]at B
  grind [QW,gX,gO,XD,List.mem_iff_getElem,List.length_take,Jc,pi,List.mem_of_mem_drop,Ic,List.drop_eq_getElem_cons,List.pairwise_cons,List.drop_eq_nil_of_le]
 all_goals grind [QW,gX,gO]
theorem I3 {g:Lg} {p:Int×Int} (u:QX g=true) (h:JY f4 g p=true):QX (EN f4 g p)=true:=by grind [QX,JY,EN,EO]
theorem Bf :∀(gs:List Lg) (w:List (Int×Int)) (ga u:List Lg),u.map (·.jn)=ga.map (·.jn)->ln w=ln gs->(gs.zipWith (JY f4) w).all id=true->kV ga gs=true->kV u (gs.zipWith (EN f4) w)=true
 | [],w,ga,u,_,_,_,_=>by cases w<;>rfl
 |g::gs,[],ga,u,_,hl,_,_=>by simp at hl
 |g::gs,p::w,ga,u,A,hl,z,h=>by
  rw[zD6,zFy,zA4]at z;rw[kV,zA4,zA4]at h;obtain⟨h1,h2,B⟩:=h;rw[zD6,kV,zA4,zA4];refine⟨I3 h1 z.1,?_,Bf gs w (ga++[g]) (u++[EN f4 g p]) (by rw[zA0,zA0,A];rfl) CB z.2 B⟩;have e:∀l:List Lg,(l.any λy=>y.jn==g.jn)=(l.map (·.jn)).any (· ==g.jn):=λl=>by rw[List.any_map];rfl
  show(!(u.any λy=>y.jn==g.jn))=true
  rw[e,A,<-e];exact h2
theorem F3 {id:Int} {w:List (Int×Int)} (hv:cJ l) (E:fP l id w f4=0):cJ (ZV l id w f4):=by
 have hh:kU l id=true:=by
  grind [fP,ZV]
 obtain⟨ga,x,post,hL,I,_,G,_⟩:=RF hh;rw[fP,zAs hh,G]at E
 have C:ln w=ln x.legs/\AD x.legs w f4=true:=by
  grind
 have u:=hv.ok x CE;rw[GV hL hv I];have B:=hv.so;have A:=hv.n4;rw[hL]at B A;rw[zEz,zFu]at B;refine⟨λr z=>?_,?_,by simpa using A⟩
 .rw[zBe,zCh]at z
  rcases z with z|rfl|z
  .exact hv.ok r (by rw[hL];simp[z])
  .refine⟨u.i0,u.i1,u.v0,u.v1,u.c0,u.c1,u.t0,u.t1,?_⟩;have h1:=XE u.lg
   have h2:kV [] x.legs=true:=by
    have:=u.lg
    grind [fP,ZV,AK]
   unfold AK;rw[zA4];exact⟨zAw (by rw[List.length_zipWith];omega),Bf x.legs w [] [] Z C.1 C.2 h2⟩
  .exact hv.ok r (by rw[hL];simp[z])
 all_goals grind [fP,ZV,List.pairwise_cons]
