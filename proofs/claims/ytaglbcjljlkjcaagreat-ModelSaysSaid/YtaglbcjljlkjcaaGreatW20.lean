/- Part 20. -/
import Derived.Test.YtaglbcjljlkjcaaGreatW19
namespace Go.Proofs.YtaglbcjljlkjcaaGreat.Av
open Tryz
set_option linter.all false
set_option maxRecDepth 4000
set_option maxHeartbeats 8000000
open List renaming length->ln,replicate->pb,range->pi,take->py,drop->p5,getD->qd
open Inhabited renaming default->dd
def Jp:List AV:=[iA 0,.s (.slice none 0 0),iA 0,iA 0,.s (.slice none 0 0),iA 0,iA 0,iA 0,iA 0,.s (.slice none 0 0),.s (.slice none 0 0),iA 0,iA 0,iA 0,.s (.slice none 0 0),.s (.slice none 0 0),.s (.slice none 0 0)]
theorem Ui {c:Cf} {d:wC} (hI:qB c d) (u:List In) (b0:ln u<=1000) (az:∀i∈u,Sy i) (f3:Int) (n0:0<=f3) (n1:f3<=1073741824) (z:Nat->SS) (ap:z 0=⟨dq d u,[],[],[]⟩) (hn:ln d.au=1) (hm:1<=ln u)
  (hz:∀s,EP c (dq d u) (z s).d/\((z s).R.length=s/\(z s).en.length<=1000*s/\(z s).ks.length<=1000*s/\∀x∈(z s).ks,0<=x/\x<(ln c.js:Int))/\Dr c f3 u s (z s) (z (s+1))):
  zN 115 [wE c,zM d,zE uS u,iA f3] [] (uw (ww (z 1).d f3) (z 1).R (z 1).en (z 1).ks) []:=by
 have kc:=LD d hI.bd zB;have av:(d.au.map bA).length=1:=by rw[zAr,hn]
 have bf:=zA uS u;have km:=eo (z 1).d.rq f3 (hz 1).1.i.v;have O:wE c= .agg [.sl false (c.js.map wJ),.sl false (c.ags.map uI),iA c.per,iA c.cap,iA c.hold,iA c.lock]:=rfl;rw[O];unfold XT zM xD at kc;have e0:=qN (QF u) d.au;have a1:(min ((u.map uS).length:Int) ((d.au.map bA).length:Int)).toNat=1:=by omega
 have a5:((u.take 1).map uS).length=1:=by rw[zAr,zBg];omega
 have I:∀s,s<1->((u.take 1).map uS)[s]? =some (uS (u.getD s dd)):=λs hs=>by
  rw[zAz,zCg,f5 hs,zA0,zBk zB];rfl
 obtain⟨br,⟨bs,bu,bx,_⟩,kh,S,ac,a2,ag⟩:=hz 0;have L:=I 0 zB;refine eM call115 λF hF=>?_
 refine zS kc ?_;rw[a1,av];refine zO (1) [1004,4,5,8,28] [4,5,8,28] [2,3,4,5,8,12,13,14,39] [40,9,10,2,3,4,5,8,12,13,14,39] Z (λi T U=>⟨(40,iA i)::(9,.s (.slice none 0 0))::(10,.s (.slice none 0 0))::T,(1004,.arr 1 ((aX (QF u) d.au i).map bA) false)::U⟩) ?_;(conv=>whnf);refine⟨by(rw[e0];rfl),?_,?_⟩
 .intro i hi;have a7:((aX (QF u) d.au i).map bA)[i]? =some (bA (d.au.getD i dd)):=by rw[zAz,vV,f5 zB,Os (zDo i)];rfl
  have cb:((aX (QF u) d.au i).map bA).length=1:=by rw[zAr,wZ,hn]
  rw[vN bA (QF u) d.au i zB];have G:=YJ a7;clear kc km;generalize (aX (QF u) d.au i).map bA=xs,d.au.getD i dd=b9 at *;unfold QF;by_cases h1:i<1
  .have hy:=I i h1;have a3:i<ln u:=by omega
   generalize u.getD i dd=x at *;obtain⟨op,A⟩:=x;rw[show uS ⟨op,A⟩= .agg [bA op,zE vH A]from Z]at hy;cases op
   .rw[Os (λh=>by cases h.2)];refine WW ?_;rfl
   .rw[f5 ⟨a3,rfl⟩,G];refine WW ?_;rfl
  .rw[Os (λh=>by omega)];refine WW ?_;rfl
 ·(refine WW ?_)
  refine wI [4,5,8,28] [2,3,4,5,8,9,10,12,13,14,61,62] Z ?_
  (conv=>whnf)
  rw[aq (by omega:ln d.au=1),show aX (QF u) d.au 1=Pi u d.au by unfold Pi;rw[hn],a5];refine zQ 13 1002 3 Z Z Z ?_;refine zQ 14 1003 1 Z Z Z ?_;refine zQ 9 1006 4 Z Z Z ?_;refine AP 28 Z ?_;refine VR 28 0 1006 Z Z Z Z Z ?_;refine wB 2 [5,28,1002,1003,1006,4,8] [13,14,62,2,3,4,5,8,12,61] Z ?_;refine yB (st0:=⟨[(13,.ref 1002 0 ((z 0).en.map kG).length),(14,.ref 1003 0 ((z 0).ks.map iA).length),(62,iA 0),(2,.sl false ((u.take 1).map uS)),(3,iA f3),(4,.ptr 4 0 0),(5,.ptr 5 0 0),(8,.ptr 8 0 0),(12,.ref 28 0 1),(61,iA 1)],[(5,.box (YI (z 0).d)),(28,.arr 1 [.ref 1006 0 ([]:List AV).length] ⟨false,true⟩),(1002,.arr 3 ((z 0).en.map kG) true),(1003,.arr 1 ((z 0).ks.map iA) true),(1006,.arr 4 ([]:List AV) true),(4,.box [.sl false (c.js.map wJ),.sl false (c.ags.map uI),iA c.per,iA c.cap,iA c.hold,iA c.lock]),(8,.box Jp)]⟩) (by rw[ap];rfl) ?_;obtain⟨r0,C⟩:∃r,r=(kh (fE u 0).length).rs:=⟨_,rfl⟩;have ar:(z 1).R=(z 0).R++[r0]:=by rw[C,ag]
  have q0:(z 1).d=(kh (fE u 0).length).d/\(z 1).en=(kh (fE u 0).length).en/\(z 1).ks=(kh (fE u 0).length).ks:=by rw[ag];exact⟨rfl,rfl,rfl⟩
  have a9:=zA kG (z 0).en;have ba:=zA iA (z 0).ks;by_cases Y:(u.getD 0 dd).opn=true
  case' pos=>
   have B:fE u 0=(u.getD 0 dd).its:=by unfold fE;rw[f5 ⟨zB,Y⟩]
   have ax:=(IL az 0).1;rw[B]at ax q0 ac C;clear B;generalize u.getD 0 dd=x at *;obtain⟨op,A⟩:=x;dsimp only at *;subst Y;rw[show uS ⟨true,A⟩= .agg [bA true,zE vH A]from Z]at L;have bb:=zA vH A;refine WW ?_;refine zU (A) [5,1002,1003,28,1006,4,8] [4,8] [2,3,4,5,8,12,16,61,62,75,76] [13,14,77,2,3,4,5,8,12,16,61,62,75,76] Z (λi f4 T U=>⟨(13,.ref 1002 0 ((kh i).en.map kG).length)::(14,.ref 1003 0 ((kh i).ks.map iA).length)::(77,iA i)::T,(5,.box (YI (kh i).d))::(1002,.arr 3 ((kh i).en.map kG) true)::(1003,.arr 1 ((kh i).ks.map iA) true)::(28,.arr 1 [.ref 1006 0 ((kh i).rs.map zW).length] ⟨false,true⟩)::(1006,.arr 4 ((kh i).rs.map zW) true)::U⟩) ?_;(conv=>whnf);refine⟨by(rw[S];rfl),?_,?_⟩
   .intro k f4 it post hx hk;have a6:=yJ vH hx hk;have V:=zX hx hk;have E:A.getD k dd=it:=by rw[hx,<-hk];simp[qd]
    obtain⟨h,hB,hP,W⟩:=ac k V;rw[E]at hB;obtain⟨b1,b2,b3,b4⟩:=a2 k;have b6:=zA kG (kh k).en;have b7:=zA iA (kh k).ks;have ca:=zA zW (kh k).rs;have M:=hB.1;rw[W];dsimp only;rw[show((kh k).rs++[h.p]).map zW=(kh k).rs.map zW++[zW h.p] by simp,show∀e:En,((kh k).en++[e]).map kG=(kh k).en.map kG++[kG e]from λe=>by simp,E];rw[O]at M;unfold EQ zM xD vH at M;unfold vH at a6;have bz:(z 0).en.length<=2000/\(z 0).ks.length<=2000:=by omega
    clear hx E W hB hP I kc km;generalize (kh k).rs.map zW=cc,(kh k).en.map kG=bl,h.p=p9,h.e=e9,h.d=d9 at *;generalize b5:h.k=k9 at *;generalize (kh k).d=bk at *;obtain⟨pk,pt,pa,pd⟩:=p9;unfold zW OG at M;dsimp only at M;unfold YI kG OG zW;by_cases h0:0<=k9
    .rw[f5 h0,show((kh k).ks++[k9]).map iA=(kh k).ks.map iA++[iA k9] by simp];generalize (kh k).ks.map iA=a8 at *;refine zS M ?_;rfl
    .rw[Os h0];generalize (kh k).ks.map iA=a8 at *;refine zS M ?_;rfl
   obtain⟨w1,w2,w3⟩:=q0;refine WW ?_
  case' neg=>
   have B:fE u 0=[]:=by unfold fE;rw[Os (λh=>Y h.2)]
   rw[B,zBx,S]at q0 C;obtain⟨w1,w2,w3⟩:=q0;have a4:(u.getD 0 dd).opn=false:=by simpa using Y
   clear B Y;generalize u.getD 0 dd=x at *;obtain⟨op,A⟩:=x;dsimp only at *;subst a4;rw[show uS ⟨false,A⟩= .agg [bA false,zE vH A]from Z]at L;refine WW ?_
  all_goals clear L a9 ba
  all_goals
   refine yB (st0:=⟨[(13,.ref 1002 0 ((z 1).en.map kG).length),(14,.ref 1003 0 ((z 1).ks.map iA).length),(62,iA 1),(2,.sl false ((u.take 1).map uS)),(3,iA f3),(4,.ptr 4 0 0),(5,.ptr 5 0 0),(8,.ptr 8 0 0),(12,.ref 28 0 1),(61,iA 1)],[(5,.box (YI (z 1).d)),(28,.arr 1 [.ref 1006 0 (r0.map zW).length] ⟨false,true⟩),(1002,.arr 3 ((z 1).en.map kG) true),(1003,.arr 1 ((z 1).ks.map iA) true),(1006,.arr 4 (r0.map zW) true),(4,.box [.sl false (c.js.map wJ),.sl false (c.ags.map uI),iA c.per,iA c.cap,iA c.hold,iA c.lock]),(8,.box Jp)]⟩) (by rw[w1,w2,w3,C];rfl) ?_;refine zS km ?_;refine zH [] Z Z ?_ Z
   show AV.tup [zM (ww (z 1).d f3),.sl false [.sl false (py _ (p5 0 (r0.map zW)))],.sl false (py _ (p5 0 ((z 1).en.map kG))),.sl false (py _ (p5 0 ((z 1).ks.map iA)))]=_
   simp only[zBd,zAt];unfold uw;rw[ar,ap];rfl
theorem Ti {c:Cf} {d:wC} (hI:qB c d) (u:List In) (cm:ln u<=1000) (a4:∀i∈u,Sy i) (f3:Int) (n0:0<=f3) (n1:f3<=1073741824) (z:Nat->SS) (a9:z 0=⟨dq d u,[],[],[]⟩) (hn:ln d.au=2) (hm:2<=ln u)
  (hz:∀s,EP c (dq d u) (z s).d/\((z s).R.length=s/\(z s).en.length<=1000*s/\(z s).ks.length<=1000*s/\∀x∈(z s).ks,0<=x/\x<(ln c.js:Int))/\Dr c f3 u s (z s) (z (s+1))):
  zN 115 [wE c,zM d,zE uS u,iA f3] [] (uw (ww (z 2).d f3) (z 2).R (z 2).en (z 2).ks) []:=by
 have kc:=LD d hI.bd zB;have bl:(d.au.map bA).length=2:=by rw[zAr,hn]
 have cd:=zA uS u;have km:=eo (z 2).d.rq f3 (hz 2).1.i.v;have S:wE c= .agg [.sl false (c.js.map wJ),.sl false (c.ags.map uI),iA c.per,iA c.cap,iA c.hold,iA c.lock]:=rfl;rw[S];unfold XT zM xD at kc;have e0:=qN (QF u) d.au;have b0:(min ((u.map uS).length:Int) ((d.au.map bA).length:Int)).toNat=2:=by omega
 have ca:((u.take 2).map uS).length=2:=by rw[zAr,zBg];omega
 have M:∀s,s<2->((u.take 2).map uS)[s]? =some (uS (u.getD s dd)):=λs hs=>by
  rw[zAz,zCg,f5 hs,zA0,zBk zB];rfl
 obtain⟨ce,⟨cg,ci,ck,_⟩,kh,a1,a5,b2,a7⟩:=hz 0;have ag:=M 0 zB;obtain⟨cf,⟨ch,cj,cl,_⟩,kj,a2,a6,b3,a8⟩:=hz 1;have ap:=M 1 zB;refine eM call115 λF hF=>?_
 refine zS kc ?_;rw[b0,bl];refine zO (2) [1004,4,5,8,28] [4,5,8,28] [2,3,4,5,8,12,13,14,39] [40,9,10,2,3,4,5,8,12,13,14,39] Z (λi T U=>⟨(40,iA i)::(9,.s (.slice none 0 0))::(10,.s (.slice none 0 0))::T,(1004,.arr 1 ((aX (QF u) d.au i).map bA) false)::U⟩) ?_;(conv=>whnf);refine⟨by(rw[e0];rfl),?_,?_⟩
 .intro i hi;have cb:((aX (QF u) d.au i).map bA)[i]? =some (bA (d.au.getD i dd)):=by rw[zAz,vV,f5 zB,Os (zDo i)];rfl
  have cn:((aX (QF u) d.au i).map bA).length=2:=by rw[zAr,wZ,hn]
  rw[vN bA (QF u) d.au i zB];have ac:=YJ cb;clear kc km;generalize (aX (QF u) d.au i).map bA=xs,d.au.getD i dd=b9 at *;unfold QF;by_cases h1:i<2
  .have hy:=M i h1;have b4:i<ln u:=by omega
   generalize u.getD i dd=x at *;obtain⟨op,A⟩:=x;rw[show uS ⟨op,A⟩= .agg [bA op,zE vH A]from Z]at hy;cases op
   .rw[Os (λh=>by cases h.2)];refine WW ?_;rfl
   .rw[f5 ⟨b4,rfl⟩,ac];refine WW ?_;rfl
  .rw[Os (λh=>by omega)];refine WW ?_;rfl
 ·(refine WW ?_)
  refine wI [4,5,8,28] [2,3,4,5,8,9,10,12,13,14,61,62] Z ?_
  (conv=>whnf)
  rw[aq (by omega:ln d.au=2),show aX (QF u) d.au 2=Pi u d.au by unfold Pi;rw[hn],ca];refine zQ 13 1002 3 Z Z Z ?_;refine zQ 14 1003 1 Z Z Z ?_;refine zQ 9 1006 4 Z Z Z ?_;refine zQ 10 1007 4 Z Z Z ?_;refine AP 28 Z ?_;refine VR 28 0 1006 Z Z Z Z Z ?_;refine VR 28 1 1007 Z Z Z Z Z ?_;refine wB 3 [5,28,1002,1003,1006,1007,4,8] [13,14,62,2,3,4,5,8,12,61] Z ?_;refine yB (st0:=⟨[(13,.ref 1002 0 ((z 0).en.map kG).length),(14,.ref 1003 0 ((z 0).ks.map iA).length),(62,iA 0),(2,.sl false ((u.take 2).map uS)),(3,iA f3),(4,.ptr 4 0 0),(5,.ptr 5 0 0),(8,.ptr 8 0 0),(12,.ref 28 0 2),(61,iA 2)],[(5,.box (YI (z 0).d)),(28,.arr 1 [.ref 1006 0 ([]:List AV).length,.ref 1007 0 ([]:List AV).length] ⟨false,true⟩),(1002,.arr 3 ((z 0).en.map kG) true),(1003,.arr 1 ((z 0).ks.map iA) true),(1006,.arr 4 ([]:List AV) true),(1007,.arr 4 ([]:List AV) true),(4,.box [.sl false (c.js.map wJ),.sl false (c.ags.map uI),iA c.per,iA c.cap,iA c.hold,iA c.lock]),(8,.box Jp)]⟩) (by rw[a9];rfl) ?_;obtain⟨r0,O⟩:∃r,r=(kh (fE u 0).length).rs:=⟨_,rfl⟩;have bf:(z 1).R=(z 0).R++[r0]:=by rw[O,a7]
  have q0:(z 1).d=(kh (fE u 0).length).d/\(z 1).en=(kh (fE u 0).length).en/\(z 1).ks=(kh (fE u 0).length).ks:=by rw[a7];exact⟨rfl,rfl,rfl⟩
  have ax:=zA kG (z 0).en;have az:=zA iA (z 0).ks;by_cases L:(u.getD 0 dd).opn=true
  case' pos=>
   have B:fE u 0=(u.getD 0 dd).its:=by unfold fE;rw[f5 ⟨zB,L⟩]
   have W:=(IL a4 0).1;rw[B]at W q0 a5 O;clear B;generalize u.getD 0 dd=x at *;obtain⟨op,A⟩:=x;dsimp only at *;subst L;rw[show uS ⟨true,A⟩= .agg [bA true,zE vH A]from Z]at ag;have a3:=zA vH A;refine WW ?_;refine zU (A) [5,1002,1003,28,1006,4,8,1007] [4,8,1007] [2,3,4,5,8,12,16,61,62,75,76] [13,14,77,2,3,4,5,8,12,16,61,62,75,76] Z (λi f4 T U=>⟨(13,.ref 1002 0 ((kh i).en.map kG).length)::(14,.ref 1003 0 ((kh i).ks.map iA).length)::(77,iA i)::T,(5,.box (YI (kh i).d))::(1002,.arr 3 ((kh i).en.map kG) true)::(1003,.arr 1 ((kh i).ks.map iA) true)::(28,.arr 1 [.ref 1006 0 ((kh i).rs.map zW).length,.ref 1007 0 ([]:List AV).length] ⟨false,true⟩)::(1006,.arr 4 ((kh i).rs.map zW) true)::U⟩) ?_;(conv=>whnf);refine⟨by(rw[a1];rfl),?_,?_⟩
   .intro k f4 it post hx hk;have ar:=yJ vH hx hk;have G:=zX hx hk;have C:A.getD k dd=it:=by rw[hx,<-hk];simp[qd]
    obtain⟨h,V,hP,I⟩:=a5 k G;rw[C]at V;obtain⟨bs,bu,bx,bz⟩:=b2 k;have b5:=zA kG (kh k).en;have b6:=zA iA (kh k).ks;have b7:=zA zW (kh k).rs;have E:=V.1;rw[I];dsimp only;rw[show((kh k).rs++[h.p]).map zW=(kh k).rs.map zW++[zW h.p] by simp,show∀e:En,((kh k).en++[e]).map kG=(kh k).en.map kG++[kG e]from λe=>by simp,C];rw[S]at E;unfold EQ zM xD vH at E;unfold vH at ar;have br:(z 0).en.length<=2000/\(z 0).ks.length<=2000:=by omega
    clear hx C I V hP M kc km;generalize (kh k).rs.map zW=cc,(kh k).en.map kG=bb,h.p=p9,h.e=e9,h.d=d9 at *;generalize b1:h.k=k9 at *;generalize (kh k).d=ba at *;obtain⟨pk,pt,pa,pd⟩:=p9;unfold zW OG at E;dsimp only at E;unfold YI kG OG zW;by_cases h0:0<=k9
    .rw[f5 h0,show((kh k).ks++[k9]).map iA=(kh k).ks.map iA++[iA k9] by simp];generalize (kh k).ks.map iA=av at *;refine zS E ?_;rfl
    .rw[Os h0];generalize (kh k).ks.map iA=av at *;refine zS E ?_;rfl
   obtain⟨w1,w2,w3⟩:=q0;refine WW ?_
  case' neg=>
   have B:fE u 0=[]:=by unfold fE;rw[Os (λh=>L h.2)]
   rw[B,zBx,a1]at q0 O;obtain⟨w1,w2,w3⟩:=q0;have Y:(u.getD 0 dd).opn=false:=by simpa using L
   clear B L;generalize u.getD 0 dd=x at *;obtain⟨op,A⟩:=x;dsimp only at *;subst Y;rw[show uS ⟨false,A⟩= .agg [bA false,zE vH A]from Z]at ag;refine WW ?_
  all_goals clear ag ax az
  all_goals
   refine yB (st0:=⟨[(13,.ref 1002 0 ((z 1).en.map kG).length),(14,.ref 1003 0 ((z 1).ks.map iA).length),(62,iA 1),(2,.sl false ((u.take 2).map uS)),(3,iA f3),(4,.ptr 4 0 0),(5,.ptr 5 0 0),(8,.ptr 8 0 0),(12,.ref 28 0 2),(61,iA 2)],[(5,.box (YI (z 1).d)),(28,.arr 1 [.ref 1006 0 (r0.map zW).length,.ref 1007 0 ([]:List AV).length] ⟨false,true⟩),(1002,.arr 3 ((z 1).en.map kG) true),(1003,.arr 1 ((z 1).ks.map iA) true),(1006,.arr 4 (r0.map zW) true),(1007,.arr 4 ([]:List AV) true),(4,.box [.sl false (c.js.map wJ),.sl false (c.ags.map uI),iA c.per,iA c.cap,iA c.hold,iA c.lock]),(8,.box Jp)]⟩) (by rw[w1,w2,w3,O];rfl) ?_;obtain⟨r1,hr1⟩:∃r,r=(kj (fE u 1).length).rs:=⟨_,rfl⟩;have bk:(z 2).R=(z 1).R++[r1]:=by rw[hr1,a8]
   have q1:(z 2).d=(kj (fE u 1).length).d/\(z 2).en=(kj (fE u 1).length).en/\(z 2).ks=(kj (fE u 1).length).ks:=by rw[a8];exact⟨rfl,rfl,rfl⟩
   have ax:=zA kG (z 1).en;have az:=zA iA (z 1).ks;by_cases L:(u.getD 1 dd).opn=true
   case' pos=>
    have B:fE u 1=(u.getD 1 dd).its:=by unfold fE;rw[f5 ⟨zB,L⟩]
    have W:=(IL a4 1).1;rw[B]at W q1 a6 hr1;clear B;generalize u.getD 1 dd=x at *;obtain⟨op,A⟩:=x;dsimp only at *;subst L;rw[show uS ⟨true,A⟩= .agg [bA true,zE vH A]from Z]at ap;have a3:=zA vH A;refine WW ?_;refine zU (A) [5,1002,1003,28,1007,4,8,1006] [4,8,1006] [2,3,4,5,8,12,16,61,62,75,76] [13,14,77,2,3,4,5,8,12,16,61,62,75,76] Z (λi f4 T U=>⟨(13,.ref 1002 0 ((kj i).en.map kG).length)::(14,.ref 1003 0 ((kj i).ks.map iA).length)::(77,iA i)::T,(5,.box (YI (kj i).d))::(1002,.arr 3 ((kj i).en.map kG) true)::(1003,.arr 1 ((kj i).ks.map iA) true)::(28,.arr 1 [.ref 1006 0 (r0.map zW).length,.ref 1007 0 ((kj i).rs.map zW).length] ⟨false,true⟩)::(1007,.arr 4 ((kj i).rs.map zW) true)::U⟩) ?_;(conv=>whnf);refine⟨by(rw[a2];rfl),?_,?_⟩
    .intro k f4 it post hx hk;have ar:=yJ vH hx hk;have G:=zX hx hk;have C:A.getD k dd=it:=by rw[hx,<-hk];simp[qd]
     obtain⟨h,V,hP,I⟩:=a6 k G;rw[C]at V;obtain⟨bs,bu,bx,bz⟩:=b3 k;have b5:=zA kG (kj k).en;have b6:=zA iA (kj k).ks;have b7:=zA zW (kj k).rs;have E:=V.1;rw[I];dsimp only;rw[show((kj k).rs++[h.p]).map zW=(kj k).rs.map zW++[zW h.p] by simp,show∀e:En,((kj k).en++[e]).map kG=(kj k).en.map kG++[kG e]from λe=>by simp,C];rw[S]at E;unfold EQ zM xD vH at E;unfold vH at ar;have br:(z 1).en.length<=2000/\(z 1).ks.length<=2000:=by omega
     clear hx C I V hP M kc km;generalize (kj k).rs.map zW=cc,(kj k).en.map kG=bb,h.p=p9,h.e=e9,h.d=d9 at *;generalize b1:h.k=k9 at *;generalize (kj k).d=ba at *;obtain⟨pk,pt,pa,pd⟩:=p9;unfold zW OG at E;dsimp only at E;unfold YI kG OG zW;by_cases h0:0<=k9
     .rw[f5 h0,show((kj k).ks++[k9]).map iA=(kj k).ks.map iA++[iA k9] by simp];generalize (kj k).ks.map iA=av at *;refine zS E ?_;rfl
     .rw[Os h0];generalize (kj k).ks.map iA=av at *;refine zS E ?_;rfl
    obtain⟨w1,w2,w3⟩:=q1;refine WW ?_
   case' neg=>
    have B:fE u 1=[]:=by unfold fE;rw[Os (λh=>L h.2)]
    rw[B,zBx,a2]at q1 hr1;obtain⟨w1,w2,w3⟩:=q1;have Y:(u.getD 1 dd).opn=false:=by simpa using L
    clear B L;generalize u.getD 1 dd=x at *;obtain⟨op,A⟩:=x;dsimp only at *;subst Y;rw[show uS ⟨false,A⟩= .agg [bA false,zE vH A]from Z]at ap;refine WW ?_
   all_goals clear ap ax az
   all_goals
    refine yB (st0:=⟨[(13,.ref 1002 0 ((z 2).en.map kG).length),(14,.ref 1003 0 ((z 2).ks.map iA).length),(62,iA 2),(2,.sl false ((u.take 2).map uS)),(3,iA f3),(4,.ptr 4 0 0),(5,.ptr 5 0 0),(8,.ptr 8 0 0),(12,.ref 28 0 2),(61,iA 2)],[(5,.box (YI (z 2).d)),(28,.arr 1 [.ref 1006 0 (r0.map zW).length,.ref 1007 0 (r1.map zW).length] ⟨false,true⟩),(1002,.arr 3 ((z 2).en.map kG) true),(1003,.arr 1 ((z 2).ks.map iA) true),(1006,.arr 4 (r0.map zW) true),(1007,.arr 4 (r1.map zW) true),(4,.box [.sl false (c.js.map wJ),.sl false (c.ags.map uI),iA c.per,iA c.cap,iA c.hold,iA c.lock]),(8,.box Jp)]⟩) (by rw[w1,w2,w3,hr1];rfl) ?_;refine zS km ?_;refine zH [] Z Z ?_ Z
    show AV.tup [zM (ww (z 2).d f3),.sl false [.sl false (py _ (p5 0 (r0.map zW))),.sl false (py _ (p5 0 (r1.map zW)))],.sl false (py _ (p5 0 ((z 2).en.map kG))),.sl false (py _ (p5 0 ((z 2).ks.map iA)))]=_
    simp only[zBd,zAt];unfold uw;rw[bk,bf,a9];rfl
structure Vw where
 fl:Bool
 ov:Bool
 co:List Int
 cn:List Int
instance:Inhabited Vw:=⟨⟨false,false,[],[]⟩⟩
def vR (v:Vw):AV:= .agg [bA v.fl,bA v.ov,zE iA v.co,zE iA v.cn]
structure ia (v:Vw):Prop where
 n:v.co.length<=8
 m:v.cn.length<=8
 c:∀c∈v.co,0<=c/\c<=2
def fT (n:Int):Int:=IntKind.u8.wrap n
def FW (a b:Bool):Int:=(if a=true then 1 else 0)+(if b=true then 2 else 0)
def vJ (l:List Int):Nat->Int
 |0=>0
 |i+1=>vJ l i+l.getD i 0*p2 (2*(i:Int))
def l9 (v:Vw):List Int:=[FW v.fl v.ov,vT (vJ v.co (ln v.co)) 8,fT (vJ v.co (ln v.co))]++v.cn.map fT
def YF (l:List Vw):List Int:=(l.map l9).flatten
def Ip (i:Nat):p2 (2*((i+1:Nat):Int))=p2 (2*(i:Int))*4:=by
 unfold p2;rw[show(2*((i+1:Nat):Int)).toNat=(2*(i:Int)).toNat+2 by omega,Int.pow_add];rfl
def fU (i:Nat) (h:i<=8):1<=p2 (2*(i:Int))/\p2 (2*(i:Int))<=65536:=by
 have:i=0\/i=1\/i=2\/i=3\/i=4\/i=5\/i=6\/i=7\/i=8:=by omega
 rcases this with rfl|rfl|rfl|rfl|rfl|rfl|rfl|rfl|rfl<;>decide
theorem OF {l:List Int} (h:∀c∈l,0<=c/\c<=2):∀i,i<=ln l->i<=8->0<=vJ l i/\vJ l i<p2 (2*(i:Int))
 |0,_,_=>by simp[vJ,p2]
 | i+1,h1,h2=>by
  have A:=OF h i zB zB
  have u:l.getD i 0∈l:=by
   rw[zA0,zBk zB];exact zEl _
  have hc:=h _ u;have z:=fU i zB;rw[Ip,vJ];generalize l.getD i 0=c,p2 (2*(i:Int))=w at *;have:c=0\/c=1\/c=2:=by omega
  rcases this with rfl|rfl|rfl<;>omega
def S4 {n:Int} (u:0<=n) (h1:n<65536):0<=vT n 8/\vT n 8<=255:=by grind [vT]
def Za (f4:List Vw) (v:Vw):(YF (f4++[v])).map yA=(YF f4).map yA++[yA (FW v.fl v.ov),yA (vT (vJ v.co (ln v.co)) 8),yA (fT (vJ v.co (ln v.co)))]++v.cn.map (λn=>yA (fT n)):=by
 unfold YF l9;simp
def cW {l:List Vw} (h:∀v∈l,ia v):(YF l).length<=11*ln l:=by
 unfold YF
 induction l with
 |nil=>simp
 |cons v l u=>
  have h1:=u λx hx=>h x (by simp[hx])
  have h2:=(h v zV).m
  grind [YF,List.flatten_cons,List.length_append,List.length_cons,l9,List.length_map,List.length_nil]
theorem Hp (l:List Vw) (hn:ln l<=1000) (hb:∀v∈l,ia v):zN 124 [zE vR l] [] (.ref 1001 0 ((YF l).map yA).length) [(1001,.arr 1 ((YF l).map yA) true)]:=by
 have hl:=zA vR l;have ac:=cW hb;refine eM call124 λF hF=>?_
 refine WW ?_;refine zQ 3 1001 1 Z Z Z ?_;refine zU (l) [1001] [] [13,14] [3,15,13,14] Z (λi f4 T U=>⟨(3,.ref 1001 0 ((YF f4).map yA).length)::(15,iA i)::T,(1001,.arr 1 ((YF f4).map yA) true)::U⟩) (Lq ?_ ?_)
 .intro i f4 v post hx hi;have hy:=yJ vR hx hi;have av:=zX hx hi;have hv:=hb v (xA hx);have ap:=cW (l:=f4) (λw hw=>hb w (by rw[hx];simp[hw]));have az:((YF f4).map yA).length<=11000:=by rw[zAr];omega
  rw[Za];clear hx ap ac;generalize (YF f4).map yA=xs at *;have ar:=zA iA v.co;have au:=zA iA v.cn;have C:=λk hk=>OF hv.c k hk (zBw hk hv.n)
  have ag:=hv.n;have ax:=hv.m;obtain⟨fl,ov,A,Y⟩:=v;dsimp only at *;rw[show vR ⟨fl,ov,A,Y⟩= .agg [bA fl,bA ov,zE iA A,zE iA Y]from Z]at hy;have E:=C (ln A) (zAw _);have L:=fU (ln A) ag;have M:=S4 (n:=vJ A (ln A)) E.1 zB
  cases fl<;>cases ov
  ·(refine WW ?_)
   refine zU (A) [5,1001] [5,1001] [3,5,6,13,14,15,28,29] [7,8,30,3,5,6,13,14,15,28,29] Z (λi f4 T U=>⟨(7,iA (vJ A i))::(8,iA (p2 (2*(i:Int))))::(30,iA i)::T,U⟩) (Lq ?_ ?_)
   .intro k z c B u hk;have I:=yJ iA u hk;have G:=zX u hk;have R:=hv.c c (xA u);have S:A.getD k 0=c:=by rw[u,<-hk];simp[qd]
    have O:=C k zB;have V:=fU k zB;have e1:vJ A (k+1)=vJ A k+c*p2 (2*(k:Int)):=by rw[vJ,S]
    rw[e1,Ip];clear u C E L M e1 hv;generalize vJ A k=s,p2 (2*(k:Int))=w at *;have:c=0\/c=1\/c=2:=by omega
    rcases this with rfl|rfl|rfl
    all_goals
     refine WW ?_;rfl
   .clear C hv;generalize vJ A (ln A)=s at *;refine WW ?_;refine zU (Y) [1001] [] [13,14,15,53,54] [3,55,13,14,15,53,54] Z (λi f4 T U=>⟨(3,.ref 1001 0 (xs++[yA (FW false false),yA (vT s 8),yA (fT s)]++f4.map (λn=>yA (fT n))).length)::(55,iA i)::T,(1001,.arr 1 (xs++[yA (FW false false),yA (vT s 8),yA (fT s)]++f4.map (λn=>yA (fT n))) true)::U⟩) ?_;(conv=>whnf);refine⟨by(simp only[zCj,zBn];rfl),?_,?_⟩
    .intro k z c B u hk;have I:=yJ iA u hk;have G:=zX u hk;have W:(z.map (λn=>yA (fT n))).length=k:=by rw[zAr];exact hk
     rw[zAy,zCb,zCj,<-zBh];clear u;generalize z.map (λn=>yA (fT n))=zs2 at *;refine WW ?_;rfl
    ·(refine WW ?_)
     rfl
  ·(refine WW ?_)
   refine zU (A) [5,1001] [5,1001] [3,5,6,13,14,15,28,29] [7,8,30,3,5,6,13,14,15,28,29] Z (λi f4 T U=>⟨(7,iA (vJ A i))::(8,iA (p2 (2*(i:Int))))::(30,iA i)::T,U⟩) (Lq ?_ ?_)
   .intro k z c B u hk;have I:=yJ iA u hk;have G:=zX u hk;have R:=hv.c c (xA u);have S:A.getD k 0=c:=by rw[u,<-hk];simp[qd]
    have O:=C k zB;have V:=fU k zB;have e1:vJ A (k+1)=vJ A k+c*p2 (2*(k:Int)):=by rw[vJ,S]
    rw[e1,Ip];clear u C E L M e1 hv;generalize vJ A k=s,p2 (2*(k:Int))=w at *;have:c=0\/c=1\/c=2:=by omega
    rcases this with rfl|rfl|rfl
    all_goals
     refine WW ?_;rfl
   .clear C hv;generalize vJ A (ln A)=s at *;refine WW ?_;refine zU (Y) [1001] [] [13,14,15,53,54] [3,55,13,14,15,53,54] Z (λi f4 T U=>⟨(3,.ref 1001 0 (xs++[yA (FW false true),yA (vT s 8),yA (fT s)]++f4.map (λn=>yA (fT n))).length)::(55,iA i)::T,(1001,.arr 1 (xs++[yA (FW false true),yA (vT s 8),yA (fT s)]++f4.map (λn=>yA (fT n))) true)::U⟩) ?_;(conv=>whnf);refine⟨by(simp only[zCj,zBn];rfl),?_,?_⟩
    .intro k z c B u hk;have I:=yJ iA u hk;have G:=zX u hk;have W:(z.map (λn=>yA (fT n))).length=k:=by rw[zAr];exact hk
     rw[zAy,zCb,zCj,<-zBh];clear u;generalize z.map (λn=>yA (fT n))=zs2 at *;refine WW ?_;rfl
    ·(refine WW ?_)
     rfl
  ·(refine WW ?_)
   refine zU (A) [5,1001] [5,1001] [3,5,6,13,14,15,28,29] [7,8,30,3,5,6,13,14,15,28,29] Z (λi f4 T U=>⟨(7,iA (vJ A i))::(8,iA (p2 (2*(i:Int))))::(30,iA i)::T,U⟩) (Lq ?_ ?_)
   .intro k z c B u hk;have I:=yJ iA u hk;have G:=zX u hk;have R:=hv.c c (xA u);have S:A.getD k 0=c:=by rw[u,<-hk];simp[qd]
    have O:=C k zB;have V:=fU k zB;have e1:vJ A (k+1)=vJ A k+c*p2 (2*(k:Int)):=by rw[vJ,S]
    rw[e1,Ip];clear u C E L M e1 hv;generalize vJ A k=s,p2 (2*(k:Int))=w at *;have:c=0\/c=1\/c=2:=by omega
    rcases this with rfl|rfl|rfl
    all_goals
     refine WW ?_;rfl
   .clear C hv;generalize vJ A (ln A)=s at *;refine WW ?_;refine zU (Y) [1001] [] [13,14,15,53,54] [3,55,13,14,15,53,54] Z (λi f4 T U=>⟨(3,.ref 1001 0 (xs++[yA (FW true false),yA (vT s 8),yA (fT s)]++f4.map (λn=>yA (fT n))).length)::(55,iA i)::T,(1001,.arr 1 (xs++[yA (FW true false),yA (vT s 8),yA (fT s)]++f4.map (λn=>yA (fT n))) true)::U⟩) ?_;(conv=>whnf);refine⟨by(simp only[zCj,zBn];rfl),?_,?_⟩
    .intro k z c B u hk;have I:=yJ iA u hk;have G:=zX u hk;have W:(z.map (λn=>yA (fT n))).length=k:=by rw[zAr];exact hk
     rw[zAy,zCb,zCj,<-zBh];clear u;generalize z.map (λn=>yA (fT n))=zs2 at *;refine WW ?_;rfl
    ·(refine WW ?_)
     rfl
  ·(refine WW ?_)
   refine zU (A) [5,1001] [5,1001] [3,5,6,13,14,15,28,29] [7,8,30,3,5,6,13,14,15,28,29] Z (λi f4 T U=>⟨(7,iA (vJ A i))::(8,iA (p2 (2*(i:Int))))::(30,iA i)::T,U⟩) (Lq ?_ ?_)
   .intro k z c B u hk;have I:=yJ iA u hk;have G:=zX u hk;have R:=hv.c c (xA u);have S:A.getD k 0=c:=by rw[u,<-hk];simp[qd]
    have O:=C k zB;have V:=fU k zB;have e1:vJ A (k+1)=vJ A k+c*p2 (2*(k:Int)):=by rw[vJ,S]
    rw[e1,Ip];clear u C E L M e1 hv;generalize vJ A k=s,p2 (2*(k:Int))=w at *;have:c=0\/c=1\/c=2:=by omega
    rcases this with rfl|rfl|rfl
    all_goals
     refine WW ?_;rfl
   .clear C hv;generalize vJ A (ln A)=s at *;refine WW ?_;refine zU (Y) [1001] [] [13,14,15,53,54] [3,55,13,14,15,53,54] Z (λi f4 T U=>⟨(3,.ref 1001 0 (xs++[yA (FW true true),yA (vT s 8),yA (fT s)]++f4.map (λn=>yA (fT n))).length)::(55,iA i)::T,(1001,.arr 1 (xs++[yA (FW true true),yA (vT s 8),yA (fT s)]++f4.map (λn=>yA (fT n))) true)::U⟩) ?_;(conv=>whnf);refine⟨by(simp only[zCj,zBn];rfl),?_,?_⟩
    .intro k z c B u hk;have I:=yJ iA u hk;have G:=zX u hk;have W:(z.map (λn=>yA (fT n))).length=k:=by rw[zAr];exact hk
     rw[zAy,zCb,zCj,<-zBh];clear u;generalize z.map (λn=>yA (fT n))=zs2 at *;refine WW ?_;rfl
    ·(refine WW ?_)
     rfl
 ·(refine WW ?_)
  exact zP [1001] Z Z Z Z
def QE {c:Int} {k:Nat} (hk:k<8) (hc:0<=c/\c<=2):IntKind.i64.wrap (c*2 ^ (min (2*(k:Int)).toNat IntKind.i64.bits))=c*p2 (2*(k:Int)):=by
 have hb:IntKind.i64.bits=64:=rfl;have h1:=fU k zB;rw[hb,show min (2*(k:Int)).toNat 64=(2*(k:Int)).toNat by omega];have h2:c=0\/c=1\/c=2:=by omega
 unfold p2 at h1;refine kI (k:= .i64) ⟨?_,?_⟩
 .show -9223372036854775808<=_
  rcases h2 with rfl|rfl|rfl<;>omega
 .show _<=9223372036854775807
  rcases h2 with rfl|rfl|rfl<;>omega
theorem ug (l:List Vw) (hn:ln l<=1000) (hb:∀v∈l,ia v):zN 137 [zE vR l] [] (.ref 1001 0 ((YF l).map yA).length) [(1001,.arr 1 ((YF l).map yA) true)]:=by
 have hl:=zA vR l;have ag:=cW hb;refine eM call137 λF hF=>?_
 refine WW ?_;refine zQ 3 1001 1 Z Z Z ?_;refine zU (l) [1001] [] [12,13] [3,14,12,13] Z (λi f4 T U=>⟨(3,.ref 1001 0 ((YF f4).map yA).length)::(14,iA i)::T,(1001,.arr 1 ((YF f4).map yA) true)::U⟩) (Lq ?_ ?_)
 .intro i f4 v post hx hi;have hy:=yJ vR hx hi;have ax:=zX hx hi;have hv:=hb v (xA hx);have ar:=cW (l:=f4) (λw hw=>hb w (by rw[hx];simp[hw]));have a1:((YF f4).map yA).length<=11000:=by rw[zAr];omega
  rw[Za];clear hx ar ag;generalize (YF f4).map yA=xs at *;have au:=zA iA v.co;have av:=zA iA v.cn;have C:=λk hk=>OF hv.c k hk (zBw hk hv.n)
  have ap:=hv.n;have az:=hv.m;obtain⟨fl,ov,A,cn⟩:=v;dsimp only at *;rw[show vR ⟨fl,ov,A,cn⟩= .agg [bA fl,bA ov,zE iA A,zE iA cn]from Z]at hy;have E:=C (ln A) (zAw _);have O:=fU (ln A) ap;have R:=S4 (n:=vJ A (ln A)) E.1 zB
  cases fl<;>cases ov
  ·(refine WW ?_)
   refine zU (A) [5,1001] [5,1001] [3,5,6,12,13,14,27,28] [7,29,3,5,6,12,13,14,27,28] Z (λi f4 T U=>⟨(7,iA (vJ A i))::(29,iA i)::T,U⟩) (Lq ?_ ?_)
   .intro k z c B u hk;have M:=yJ iA u hk;have G:=zX u hk;have V:=hv.c c (xA u);have W:A.getD k 0=c:=by rw[u,<-hk];simp[qd]
    have S:=C k zB;have Y:=fU k zB;have e1:vJ A (k+1)=vJ A k+c*p2 (2*(k:Int)):=by rw[vJ,W]
    rw[e1];have I:=QE (c:=0) (k:=k) zB zB;have L:=QE (c:=2) (k:=k) zB zB;clear u C E O R e1 hv;generalize vJ A k=s at *;have:c=0\/c=1\/c=2:=by omega
    rcases this with rfl|rfl|rfl
    ·(refine WW ?_)
     rw[I];rfl
    ·(refine WW ?_)
     rw[zFl];rfl
    ·(refine WW ?_)
     rw[L];rfl
   .clear C hv;generalize vJ A (ln A)=s at *;refine WW ?_;refine zU (cn) [1001] [] [12,13,14,52,53] [3,54,12,13,14,52,53] Z (λi f4 T U=>⟨(3,.ref 1001 0 (xs++[yA (FW false false),yA (vT s 8),yA (fT s)]++f4.map (λn=>yA (fT n))).length)::(54,iA i)::T,(1001,.arr 1 (xs++[yA (FW false false),yA (vT s 8),yA (fT s)]++f4.map (λn=>yA (fT n))) true)::U⟩) ?_;(conv=>whnf);refine⟨by(simp only[zCj,zBn];rfl),?_,?_⟩
    .intro k z c B u hk;have M:=yJ iA u hk;have G:=zX u hk;have ac:(z.map (λn=>yA (fT n))).length=k:=by rw[zAr];exact hk
     rw[zAy,zCb,zCj,<-zBh];clear u;generalize z.map (λn=>yA (fT n))=zs2 at *;refine WW ?_;rfl
    ·(refine WW ?_)
     rfl
  ·(refine WW ?_)
   refine zU (A) [5,1001] [5,1001] [3,5,6,12,13,14,27,28] [7,29,3,5,6,12,13,14,27,28] Z (λi f4 T U=>⟨(7,iA (vJ A i))::(29,iA i)::T,U⟩) (Lq ?_ ?_)
   .intro k z c B u hk;have M:=yJ iA u hk;have G:=zX u hk;have V:=hv.c c (xA u);have W:A.getD k 0=c:=by rw[u,<-hk];simp[qd]
    have S:=C k zB;have Y:=fU k zB;have e1:vJ A (k+1)=vJ A k+c*p2 (2*(k:Int)):=by rw[vJ,W]
    rw[e1];have I:=QE (c:=0) (k:=k) zB zB;have L:=QE (c:=2) (k:=k) zB zB;clear u C E O R e1 hv;generalize vJ A k=s at *;have:c=0\/c=1\/c=2:=by omega
    rcases this with rfl|rfl|rfl
    ·(refine WW ?_)
     rw[I];rfl
    ·(refine WW ?_)
     rw[zFl];rfl
    ·(refine WW ?_)
     rw[L];rfl
   .clear C hv;generalize vJ A (ln A)=s at *;refine WW ?_;refine zU (cn) [1001] [] [12,13,14,52,53] [3,54,12,13,14,52,53] Z (λi f4 T U=>⟨(3,.ref 1001 0 (xs++[yA (FW false true),yA (vT s 8),yA (fT s)]++f4.map (λn=>yA (fT n))).length)::(54,iA i)::T,(1001,.arr 1 (xs++[yA (FW false true),yA (vT s 8),yA (fT s)]++f4.map (λn=>yA (fT n))) true)::U⟩) ?_;(conv=>whnf);refine⟨by(simp only[zCj,zBn];rfl),?_,?_⟩
    .intro k z c B u hk;have M:=yJ iA u hk;have G:=zX u hk;have ac:(z.map (λn=>yA (fT n))).length=k:=by rw[zAr];exact hk
     rw[zAy,zCb,zCj,<-zBh];clear u;generalize z.map (λn=>yA (fT n))=zs2 at *;refine WW ?_;rfl
    ·(refine WW ?_)
     rfl
  ·(refine WW ?_)
   refine zU (A) [5,1001] [5,1001] [3,5,6,12,13,14,27,28] [7,29,3,5,6,12,13,14,27,28] Z (λi f4 T U=>⟨(7,iA (vJ A i))::(29,iA i)::T,U⟩) (Lq ?_ ?_)
   .intro k z c B u hk;have M:=yJ iA u hk;have G:=zX u hk;have V:=hv.c c (xA u);have W:A.getD k 0=c:=by rw[u,<-hk];simp[qd]
    have S:=C k zB;have Y:=fU k zB;have e1:vJ A (k+1)=vJ A k+c*p2 (2*(k:Int)):=by rw[vJ,W]
    rw[e1];have I:=QE (c:=0) (k:=k) zB zB;have L:=QE (c:=2) (k:=k) zB zB;clear u C E O R e1 hv;generalize vJ A k=s at *;have:c=0\/c=1\/c=2:=by omega
    rcases this with rfl|rfl|rfl
    ·(refine WW ?_)
     rw[I];rfl
    ·(refine WW ?_)
     rw[zFl];rfl
    ·(refine WW ?_)
     rw[L];rfl
   .clear C hv;generalize vJ A (ln A)=s at *;refine WW ?_;refine zU (cn) [1001] [] [12,13,14,52,53] [3,54,12,13,14,52,53] Z (λi f4 T U=>⟨(3,.ref 1001 0 (xs++[yA (FW true false),yA (vT s 8),yA (fT s)]++f4.map (λn=>yA (fT n))).length)::(54,iA i)::T,(1001,.arr 1 (xs++[yA (FW true false),yA (vT s 8),yA (fT s)]++f4.map (λn=>yA (fT n))) true)::U⟩) ?_;(conv=>whnf);refine⟨by(simp only[zCj,zBn];rfl),?_,?_⟩
    .intro k z c B u hk;have M:=yJ iA u hk;have G:=zX u hk;have ac:(z.map (λn=>yA (fT n))).length=k:=by rw[zAr];exact hk
     rw[zAy,zCb,zCj,<-zBh];clear u;generalize z.map (λn=>yA (fT n))=zs2 at *;refine WW ?_;rfl
    ·(refine WW ?_)
     rfl
  ·(refine WW ?_)
   refine zU (A) [5,1001] [5,1001] [3,5,6,12,13,14,27,28] [7,29,3,5,6,12,13,14,27,28] Z (λi f4 T U=>⟨(7,iA (vJ A i))::(29,iA i)::T,U⟩) (Lq ?_ ?_)
   .intro k z c B u hk;have M:=yJ iA u hk;have G:=zX u hk;have V:=hv.c c (xA u);have W:A.getD k 0=c:=by rw[u,<-hk];simp[qd]
    have S:=C k zB;have Y:=fU k zB;have e1:vJ A (k+1)=vJ A k+c*p2 (2*(k:Int)):=by rw[vJ,W]
    rw[e1];have I:=QE (c:=0) (k:=k) zB zB;have L:=QE (c:=2) (k:=k) zB zB;clear u C E O R e1 hv;generalize vJ A k=s at *;have:c=0\/c=1\/c=2:=by omega
    rcases this with rfl|rfl|rfl
    ·(refine WW ?_)
     rw[I];rfl
    ·(refine WW ?_)
     rw[zFl];rfl
    ·(refine WW ?_)
     rw[L];rfl
   .clear C hv;generalize vJ A (ln A)=s at *;refine WW ?_;refine zU (cn) [1001] [] [12,13,14,52,53] [3,54,12,13,14,52,53] Z (λi f4 T U=>⟨(3,.ref 1001 0 (xs++[yA (FW true true),yA (vT s 8),yA (fT s)]++f4.map (λn=>yA (fT n))).length)::(54,iA i)::T,(1001,.arr 1 (xs++[yA (FW true true),yA (vT s 8),yA (fT s)]++f4.map (λn=>yA (fT n))) true)::U⟩) ?_;(conv=>whnf);refine⟨by(simp only[zCj,zBn];rfl),?_,?_⟩
    .intro k z c B u hk;have M:=yJ iA u hk;have G:=zX u hk;have ac:(z.map (λn=>yA (fT n))).length=k:=by rw[zAr];exact hk
     rw[zAy,zCb,zCj,<-zBh];clear u;generalize z.map (λn=>yA (fT n))=zs2 at *;refine WW ?_;rfl
    ·(refine WW ?_)
     rfl
 ·(refine WW ?_)
  exact zP [1001] Z Z Z Z
def cdW (g:Lg) (w:Vw):Int:=if 0<=g.ph/\g.ph<(ln w.co:Int)then(if w.ov=true/\w.fl=false/\w.co.getD g.ph.toNat dd=1 then 3 else 2)else 1
def Si (g:Lg) (v:List Vw) (f3:Int):Int:=if EM g f3=true/\0<=g.jn/\g.jn<(ln v:Int)then cdW g (v.getD g.jn.toNat dd)else 1
def Jd (g:Lg) (v:List Vw) (f3:Int):1<=Si g v f3/\Si g v f3<=3:=by grind [Si,cdW]
def Ya (g:Lg) (v:List Vw) (f3:Int) {Q:Int->Prop} (q1:EM g f3=false->Q 1) (B:EM g f3=true->g.jn<0->Q 1) (C:EM g f3=true->0<=g.jn->(ln v:Int)<=g.jn->Q 1)
  (q4:∀w,EM g f3=true->0<=g.jn->g.jn<(ln v:Int)->(v.map vR)[g.jn.toNat]? =some (vR w)->g.ph<0->Q 1)
  (E:∀w,EM g f3=true->0<=g.jn->g.jn<(ln v:Int)->(v.map vR)[g.jn.toNat]? =some (vR w)->0<=g.ph->(ln w.co:Int)<=g.ph->Q 1)
  (G:∀w c,EM g f3=true->0<=g.jn->g.jn<(ln v:Int)->(v.map vR)[g.jn.toNat]? =some (vR w)->0<=g.ph->g.ph<(ln w.co:Int)->(w.co.map iA)[g.ph.toNat]? =some (iA c)->Q (if w.ov=true/\w.fl=false/\c=1 then 3 else 2)):Q (Si g v f3):=by
 unfold Si
 cases hl:EM g f3 with
 |false=>rw[Os (λh=>by cases h.1)];exact q1 hl
 |true=>
  by_cases j0:g.jn<0
  .grind
  by_cases j1:(ln v:Int)<=g.jn
  .grind
  have u:=yE vR v g.jn zB zB;rw[f5 ⟨rfl,zB,zB⟩];generalize v.getD g.jn.toNat dd=w at *;unfold cdW;by_cases z:g.ph<0
  .grind
  by_cases A:(ln w.co:Int)<=g.ph
  .grind
  simp_all [EM,q4,vR,iA,Si]
def R4 (g:Lg) (v:List Vw) (f3:Int) (U:ln v<=1000) (hb:∀w∈v,ln w.co<=1000):zN 232 [yO g,zE vR v,iA f3] [] (iA (Si g v f3)) []:=by
 have u:=Zn g f3;have R:=zA vR v;have hb:∀w,(v.map vR)[g.jn.toNat]? =some (vR w)->(w.co.map iA).length=ln w.co:=λw _=>zA iA w.co
 unfold yO at *;refine Ya (Q:=λr=>zN 232 [.agg [iA g.jn,iA g.ph,iA g.fr,iA g.to,iA g.sc],zE vR v,iA f3] [] (iA r) []) g v f3 (λh1=>?_) (λh1 h2=>?_) (λh1 h2 C=>?_) (λw h1 h2 C z M=>?_) (λw h1 h2 C z M O=>?_) (λw c h1 h2 C z M O S=>?_)
 .rw[h1]at u;refine eM call232 λF hF=>?_
  exact ng u
 .rw[h1]at u;refine eM call232 λF hF=>?_
  exact ng u
 .rw[h1]at u;refine eM call232 λF hF=>?_
  exact ng u
 .rw[h1]at u;unfold vR at z;refine eM call232 λF hF=>?_
  exact ng u
 .rw[h1]at u;have E:=hb w z;unfold vR zE at z;refine eM call232 λF hF=>?_
  exact ng u
 .rw[h1]at u;have E:=hb w z;clear hb;obtain⟨B,G,L,I⟩:=w;rw[show vR ⟨B,G,L,I⟩= .agg [bA B,bA G,zE iA L,zE iA I]from Z]at z;dsimp only at *;cases G
  ·(refine eM call232 λF hF=>?_)
   exact ng u
  cases B
  case true=>
   refine eM call232 λF hF=>?_
   exact ng u
  by_cases A:c=1
  .rw[f5 ⟨rfl,rfl,A⟩];refine eM call232 λF hF=>?_
   exact ng u
  .rw[Os (λh=>A h.2.2)];refine eM call232 λF hF=>?_
   exact ng u
def Gv (g:Lg) (v:List Vw) (f3:Int) (U:ln v<=1000) (hb:∀w∈v,ln w.co<=1000):zN 200 [yO g,zE vR v,iA f3] [] (iA (Si g v f3)) []:=by
 have u:=Uf g f3;have R:=zA vR v;have hb:∀w,(v.map vR)[g.jn.toNat]? =some (vR w)->(w.co.map iA).length=ln w.co:=λw _=>zA iA w.co
 unfold yO at *;refine Ya (Q:=λr=>zN 200 [.agg [iA g.jn,iA g.ph,iA g.fr,iA g.to,iA g.sc],zE vR v,iA f3] [] (iA r) []) g v f3 (λh1=>?_) (λh1 h2=>?_) (λh1 h2 C=>?_) (λw h1 h2 C z M=>?_) (λw h1 h2 C z M O=>?_) (λw c h1 h2 C z M O S=>?_)
 .rw[h1]at u;refine eM call200 λF hF=>?_
  exact ng u
 .rw[h1]at u;refine eM call200 λF hF=>?_
  exact ng u
 .rw[h1]at u;refine eM call200 λF hF=>?_
  exact ng u
 .rw[h1]at u;unfold vR at z;refine eM call200 λF hF=>?_
  exact ng u
 .rw[h1]at u;have E:=hb w z;unfold vR zE at z;refine eM call200 λF hF=>?_
  exact ng u
 .rw[h1]at u;have E:=hb w z;clear hb;obtain⟨B,G,L,I⟩:=w;rw[show vR ⟨B,G,L,I⟩= .agg [bA B,bA G,zE iA L,zE iA I]from Z]at z;dsimp only at *;cases G
  ·(refine eM call200 λF hF=>?_)
   exact ng u
  cases B
  case true=>
   refine eM call200 λF hF=>?_
   exact ng u
  by_cases A:c=1
  .rw[f5 ⟨rfl,rfl,A⟩];refine eM call200 λF hF=>?_
   exact ng u
  .rw[Os (λh=>A h.2.2)];refine eM call200 λF hF=>?_
   exact ng u
def Id (l:List Rq) (v:List Vw) (f3:Int) (i:Nat):Int:=if i/3<ln l/\i % 3<(l.getD (i/3) dd).legs.length then Si ((l.getD (i/3) dd).legs.getD (i % 3) dd) v f3 else 0
def TW (l:List Rq) (v:List Vw) (f3:Int) (n:Nat):List Int:=(pi n).map (Id l v f3)
def Wa (l:List Rq) (v:List Vw) (f3:Int) (N i:Nat):List Int:=(pi N).map λj=>if j<i then Id l v f3 j else 0
def qg (l:List Rq) (v:List Vw) (f3:Int) (N i:Nat):(Wa l v f3 N i).length=N:=by simp[Wa]
def Gp (l:List Rq) (v:List Vw) (f3:Int) (N:Nat):(Wa l v f3 N 0).map yA=pb N (yA 0):=by
 apply zB0;intro j;unfold Wa;rw[zAz,zAz,zDb];by_cases hj:j<N
 .rw[zCk hj,f5 hj];simp
 .rw[zB4 qA,Os hj];rfl
def Gd (l:List Rq) (v:List Vw) (f3:Int) (N k j:Nat):((Wa l v f3 N k).map yA)[j]? =if j<N then some (yA (if j<k then Id l v f3 j else 0))else none:=by
 unfold Wa;rw[zAz,zAz];by_cases hj:j<N
 .rw[zCk hj,f5 hj];rfl
 .rw[zB4 qA,Os hj];rfl
def Fp (l:List Rq) (v:List Vw) (f3:Int) (N i:Nat) (hi:i<N):(Wa l v f3 N (i+1)).map yA=((Wa l v f3 N i).map yA).set i (yA (Id l v f3 i)):=by
 apply zB0;intro j;rw[zDz,Gd,Gd,zAr,qg];by_cases u:i=j
 .subst u;rw[f5 hi,f5 Z,f5 hi,f5 (Nat.lt_succ_self i)]
 .rw[Os u];by_cases hj:j<N
  .rw[f5 hj,f5 hj];by_cases h2:j<i
   .rw[f5 zB,f5 h2]
   .rw[Os zB,Os h2]
  .rw[Os hj,Os hj]
def Fv (l:List Rq) (v:List Vw) (f3:Int) (N:Nat):Wa l v f3 N N=TW l v f3 N:=by
 unfold Wa TW;apply List.map_congr_left;intro j hj;rw[f5 (zBi.1 hj)]
def Ep (l:List Rq) (v:List Vw) (f3:Int) (n:Nat):(TW l v f3 (n+1)).map yA=(TW l v f3 n).map yA++[yA (Id l v f3 n)]:=by
 unfold TW;rw[zCs];simp
theorem Dv (l:List Rq) (q:Nat) (v:List Vw) (f3:Int) (hq:q<=1000) (hl:ln l<=1000) (C:∀r∈l,ln r.legs<=1000) (S:ln v<=1000) (hb:∀w∈v,ln w.co<=1000):
  zN 182 [zE zY l,iA q,zE vR v,iA f3] [] (zE yA (TW l v f3 (q*3))) []:=by
 have R:=zA zY l;by_cases G:q=0
 .subst G;refine eM call182 λF hF=>?_
  exact ly
 have B:=Gp l v f3 (q*3);have Y:=zA vR v;refine eM call182 λF hF=>?_
 refine WW ?_;have L:q*3<=3000:=by omega
 generalize q*3=N at *;refine zO (N) [21] [] [0,2,3,9,23] [24,0,2,3,9,23] Z (λi T U=>⟨(24,iA i)::T,(21,.arr 1 ((Wa l v f3 N i).map yA) false)::U⟩) ?_;(conv=>whnf);refine⟨by(rw[B];rfl),?_,?_⟩
 .intro i hi;have W:(i:Int).tdiv 3=((i/3:Nat):Int):=by rw[zCv zB];omega
  have hk:(i:Int).tmod 3=((i % 3:Nat):Int):=by rw[zB1 zB];omega
  have O:aB .i64 ((i:Int).tdiv 3):=⟨by show -9223372036854775808<=_;omega,by show _<=9223372036854775807;omega⟩;have V:((Wa l v f3 N i).map yA).length=N:=by rw[zAr,qg]
  have e:=Fp l v f3 N i hi;rw[e];have ar:((Wa l v f3 N i).map yA)[i]? =some (yA (if i<i then Id l v f3 i else 0)):=by rw[Gd,f5 hi]
  have A:∀y:AV,(((Wa l v f3 N i).map yA).set i y)[i]? =some y:=λy=>zBs zB
  by_cases hr1:i/3<ln l
  .have hy:(l.map zY)[((i:Int).tdiv 3).toNat]? =some (zY (l.getD (i/3) dd)):=by rw[W];exact zJ zY l _ hr1
   have ac:(l.getD (i/3) dd).legs.length<=1000:=C _ Px;have ag:=zA yO (l.getD (i/3) dd).legs
   have z:Id l v f3 i=if i % 3<(l.getD (i/3) dd).legs.length then Si ((l.getD (i/3) dd).legs.getD (i % 3) dd) v f3 else 0:=by
    unfold Id;by_cases h:i % 3<(l.getD (i/3) dd).legs.length
    .rw[f5 ⟨hr1,h⟩,f5 h]
    .rw[Os (λI=>h I.2),Os h]
   rw[z];clear e z B;generalize l.getD (i/3) dd=x at *;unfold zY zE at hy;by_cases u:i % 3<ln x.legs
   .have ap:(x.legs.map yO)[((i:Int).tmod 3).toNat]? =some (yO (x.legs.getD (i % 3) dd)):=by rw[hk];exact zJ yO x.legs _ u
    have E:=R4 (x.legs.getD (i % 3) dd) v f3 S hb;have M:=Jd (x.legs.getD (i % 3) dd) v f3;rw[f5 u];generalize Si (x.legs.getD (i % 3) dd) v f3=c at *;generalize x.legs.getD (i % 3) dd=g at *;generalize (Wa l v f3 N i).map yA=xs at*
    (have ga:=E;(repeat' (first|refine WTR ?_|apply yW|apply xI|intro hc|(apply zG;first|(apply dX;refine Cc tok Z Z Z (A _) Z Z Z Z Z Z Z Z ?_)|refine SM ?_)|refine SB ?_|fail))<;>clear ga)
    refine zBb (St.mk _) ?_
    show [(21,xW.arr 1 ((xs.set i _).set i _) _)]=_
    rw[zE2];rfl
   .rw[Os u];generalize (Wa l v f3 N i).map yA=xs at *;refine WW ?_;rfl
  .have z:Id l v f3 i=0:=by unfold Id;rw[Os (λh=>hr1 h.1)]
   rw[z];clear e z B;generalize (Wa l v f3 N i).map yA=xs at *;refine WW ?_;rfl
 .rw[Fv];refine WW ?_;refine zH [] Z Z ?_ Z;exact zBb (AV.sl false) (zA1 (by simp[TW]))
def Dp (l:List Rq) (q:Nat) (v:List Vw) (f3:Int) (W:q<=1000) (hl:ln l<=1000) (A:∀r∈l,ln r.legs<=1000) (M:ln v<=1000) (hb:∀w∈v,ln w.co<=1000):
  zN 139 [zE zY l,iA q,zE vR v,iA f3] [] (zE yA (TW l v f3 (q*3))) []:=by
 have I:=zA zY l;refine eM call139 λF hF=>?_
 refine WW ?_;refine zQ 9 1001 1 Z Z Z ?_;refine zO (q) [1001] [] [0,2,3,13] [9,14,0,2,3,13] Z (λi T U=>⟨(9,.ref 1001 0 ((TW l v f3 (i*3)).map yA).length)::(14,iA i)::T,(1001,.arr 1 ((TW l v f3 (i*3)).map yA) true)::U⟩) (Lq ?_ ?_)
 .intro r Y;refine WW ?_;refine zO (3) [1001] [] [0,2,3,10,13,14] [9,17,0,2,3,10,13,14] Z (λi T U=>⟨(9,.ref 1001 0 ((TW l v f3 (r*3+i)).map yA).length)::(17,iA i)::T,(1001,.arr 1 ((TW l v f3 (r*3+i)).map yA) true)::U⟩) (Lq ?_ ?_)
  .intro k hk;have e:=Ep l v f3 (r*3+k);have O:((TW l v f3 (r*3+k)).map yA).length<=4000:=by simp[TW];omega
   rw[show r*3+(k+1)=r*3+k+1 from Z,e];have e3:(r*3+k)/3=r:=by omega
   have C:(r*3+k) % 3=k:=by omega
   by_cases hr1:r<ln l
   .have S:=zJ zY l r hr1;have L:(l.getD r dd).legs.length<=1000:=A _ Px
    have z:Id l v f3 (r*3+k)=if k<(l.getD r dd).legs.length then Si ((l.getD r dd).legs.getD k dd) v f3 else 0:=by
     unfold Id;rw[e3,C];by_cases h:k<(l.getD r dd).legs.length
     .rw[f5 ⟨hr1,h⟩,f5 h]
     .rw[Os (λE=>h E.2),Os h]
    rw[z];clear e z;generalize l.getD r dd=x at *;have R:=zA yO x.legs;unfold zY zE at S;by_cases u:k<ln x.legs
    .have V:=zJ yO x.legs k u;have B:=Gv (x.legs.getD k dd) v f3 M hb;have G:=Jd (x.legs.getD k dd) v f3;rw[f5 u];generalize Si (x.legs.getD k dd) v f3=c at *;generalize x.legs.getD k dd=g at *;generalize (TW l v f3 (r*3+k)).map yA=xs at *;refine zS B ?_;rfl
    .rw[Os u];generalize (TW l v f3 (r*3+k)).map yA=xs at *;refine WW ?_;rfl
   .have z:Id l v f3 (r*3+k)=0:=by unfold Id;rw[Os (λh=>hr1 zB)]
    rw[z];clear e z;generalize (TW l v f3 (r*3+k)).map yA=xs at *;refine WW ?_;rfl
  .rw[show r*3+3=(r+1)*3 by omega];refine WW ?_;rfl
 ·(refine WW ?_)
  refine zH [] Z Z ?_ Z;exact zBb (AV.sl false) zAt
def Cv (f3:Int) (v:List Vw) (b:List Int):Ms:=⟨17,[],[f3],YF v++b⟩
def Q4 (f3:Int) (v:List Vw) (b:List Int) (A:ln v<=1000) (hb:∀w∈v,ia w) (hl:ln b<=10000):zN 183 [iA f3,zE vR v,zE yA b] [] (zW (Cv f3 v b)) []:=by
 have C:=Hp v A hb;have h1:=cW hb;have B:=zA yA (YF v);have u:=zA yA b;rw[show zW (Cv f3 v b)= .agg [iA 17,.sl false [],.sl false [iA f3],.sl false ((YF v).map yA++b.map yA)] by unfold Cv zW zE;rw[zAy];rfl];generalize (YF v).map yA=xs at *;refine eM call183 λF hF=>?_
 refine WH C ?_;refine zH [] Z Z ?_ Z;exact zBb (λz=>AV.agg [iA 17,AV.sl false [],AV.sl false [iA f3],AV.sl false z]) zAt
def Bv (f3:Int) (v:List Vw) (b:List Int) (A:ln v<=1000) (hb:∀w∈v,ia w) (hl:ln b<=10000):zN 138 [iA f3,zE vR v,zE yA b] [] (zW (Cv f3 v b)) []:=by
 have C:=ug v A hb;have h1:=cW hb;have B:=zA yA (YF v);have u:=zA yA b;rw[show zW (Cv f3 v b)= .agg [iA 17,.sl false [],.sl false [iA f3],.sl false ((YF v).map yA++b.map yA)] by unfold Cv zW zE;rw[zAy];rfl];generalize (YF v).map yA=xs at *;refine eM call138 λF hF=>?_
 refine WH C ?_;refine zH [] Z Z ?_ Z;exact zBb (λz=>AV.agg [iA 17,AV.sl false [],AV.sl false [iA f3],AV.sl false z]) zAt
def LB (d:wC) (v:List Vw) (f3:Int):Ms:=Cv f3 v (TW d.rq v f3 (d.rg.ag.req.toNat*3))
def Cp (d:wC) (hd:dN d) (C:0<=d.rg.ag.req/\d.rg.ag.req<=4) (v:List Vw) (f3:Int) (z:ln v<=1000) (hb:∀w∈v,ia w):zN 120 [zM d,zE vR v,iA f3] [] (zW (LB d v f3)) []:=by
 have u:=Dv d.rq d.rg.ag.req.toNat v f3 zB hd.q hd.g z (λw B=>zBw (hb w B).n yY);rw[show((d.rg.ag.req.toNat:Nat):Int)=d.rg.ag.req by omega]at u;have A:=Q4 f3 v (TW d.rq v f3 (d.rg.ag.req.toNat*3)) z hb (by simp[TW];omega);unfold LB;generalize TW d.rq v f3 (d.rg.ag.req.toNat*3)=cs at *;unfold zW at *;unfold zM xD;generalize YF v=E at *;refine eM call120 λF hF=>?_
 exact mx (xV u A)
def Ri (d:wC) (hd:dN d) (C:0<=d.rg.ag.req/\d.rg.ag.req<=4) (v:List Vw) (f3:Int) (z:ln v<=1000) (hb:∀w∈v,ia w):zN 61 [zM d,zE vR v,iA f3] [] (zW (LB d v f3)) []:=by
 have u:=Dp d.rq d.rg.ag.req.toNat v f3 zB hd.q hd.g z (λw B=>zBw (hb w B).n yY);rw[show((d.rg.ag.req.toNat:Nat):Int)=d.rg.ag.req by omega]at u;have A:=Bv f3 v (TW d.rq v f3 (d.rg.ag.req.toNat*3)) z hb (by simp[TW];omega);unfold LB;generalize TW d.rq v f3 (d.rg.ag.req.toNat*3)=cs at *;unfold zW at *;unfold zM xD;generalize YF v=E at *;refine eM call61 λF hF=>?_
 exact mx (xV u A)
def P4 (n:Nat):Vw:=⟨true,false,pb n 0,pb n 0⟩
def K7 {n:Nat} (h:n<=8):ia (P4 n):=⟨by simp[P4];exact h,by simp[P4];exact h,λc hc=>by
 have:=(zEn.1 hc).2
 omega⟩
def zw (j:Jn) (h:ln j.ph<=8):zN 76 [wJ j] [] (vR (P4 (ln j.ph))) []:=by
 have hl:=zA xN j.ph;have u:∀n,(pb n (0:Int)).map iA=pb n (iA 0):=λn=>by simp
 rw[show vR (P4 (ln j.ph))= .agg [bA true,bA false,.sl false (pb (ln j.ph) (iA 0)),.sl false (pb (ln j.ph) (iA 0))] by unfold P4 vR zE;rw[u]];rw[<-hl];unfold wJ zE;generalize j.ph.map xN=P at *;refine eM call76 λF hF=>?_
 refine WW ?_;refine zH [] Z Z ?_ Z
 show AV.agg [bA true,bA false,.sl false (py (ln P) (p5 0 (pb (ln P) (iA 0)))),.sl false (py (ln P) (p5 0 (pb (ln P) (iA 0))))]=_
 rw[zBd,zA1 zV]
