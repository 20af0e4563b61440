/- Part 20. -/
import Derived.Test.YtaglbcjljlkjcaaGreatU19
namespace Go.Proofs.YtaglbcjljlkjcaaGreat.Av
open Tryz
set_option linter.all false
set_option maxRecDepth 4000
set_option maxHeartbeats 8000000
open List renaming length->ln,replicate->pi,range->py,take->p5,drop->qd,getD->qy
open Inhabited renaming default->dd
def Fp:List AV:=[iA 0,.s (.slice none 0 0),iA 0,iA 0,.s (.slice none 0 0),iA 0,iA 0,iA 0,iA 0,.s (.slice none 0 0),.s (.slice none 0 0),iA 0,iA 0,iA 0,.s (.slice none 0 0),.s (.slice none 0 0),.s (.slice none 0 0)]
theorem Ti {c:Cf} {d:wC} (hI:qD c d) (u:List In) (b0:ln u<=1000) (az:∀i∈u,Sy i) (f4:Int) (n0:0<=f4) (n1:f4<=1073741824) (z:Nat->SS) (ap:z 0=⟨mq d u,[],[],[]⟩) (hn:ln d.au=1) (hm:1<=ln u)
  (hz:∀s,ES c (mq d u) (z s).d/\((z s).R.length=s/\(z s).en.length<=1000*s/\(z s).ks.length<=1000*s/\∀x∈(z s).ks,0<=x/\x<(ln c.js:Int))/\xw c f4 u s (z s) (z (s+1))):
  zN 115 [wH c,zM d,zE uZ u,iA f4] [] (qw (uw (z 1).d f4) (z 1).R (z 1).en (z 1).ks) []:=by
 have kc:=LK d hI.bd zB;have av:(d.au.map bA).length=1:=by rw[zAt,hn]
 have bf:=zA uZ u;have km:=Xo (z 1).d.rq f4 (hz 1).1.i.v;have O:wH c= .agg [.sl false (c.js.map wD),.sl false (c.ags.map uF),iA c.per,iA c.cap,iA c.hold,iA c.lock]:=rfl;rw[O];unfold XU zM xD at kc;have e0:=qM (QH u) d.au;have a1:(min ((u.map uZ).length:Int) ((d.au.map bA).length:Int)).toNat=1:=by omega
 have a5:((u.take 1).map uZ).length=1:=by rw[zAt,zBi];omega
 have I:∀s,s<1->((u.take 1).map uZ)[s]? =some (uZ (u.getD s dd)):=λs hs=>by
  rw[zA1,zCi,zAs hs,zA5,zBq zB];rfl
 obtain⟨br,⟨bs,bu,bx,_⟩,kh,S,ac,a2,ag⟩:=hz 0;have L:=I 0 zB;refine eM call115 λF hF=>?_
 refine zS kc ?_;rw[a1,av];refine zO (1) [1004,4,5,8,28] [4,5,8,28] [2,3,4,5,8,12,13,14,39] [40,9,10,2,3,4,5,8,12,13,14,39] Z (λi T U=>⟨(40,iA i)::(9,.s (.slice none 0 0))::(10,.s (.slice none 0 0))::T,(1004,.arr 1 ((aZ (QH u) d.au i).map bA) false)::U⟩) ?_;(conv=>whnf);refine⟨by(rw[e0];rfl),?_,?_⟩
 .intro i hi;have a7:((aZ (QH u) d.au i).map bA)[i]? =some (bA (d.au.getD i dd)):=by rw[zA1,vS,zAs zB,Os (zDp i)];rfl
  have cb:((aZ (QH u) d.au i).map bA).length=1:=by rw[zAt,wT,hn]
  rw[vN bA (QH u) d.au i zB];have G:=YM a7;clear kc km;generalize (aZ (QH u) d.au i).map bA=xs,d.au.getD i dd=b9 at *;unfold QH;by_cases h1:i<1
  .have hy:=I i h1;have a3:i<ln u:=by omega
   generalize u.getD i dd=x at *;obtain⟨op,A⟩:=x;rw[show uZ ⟨op,A⟩= .agg [bA op,zE vO A]from Z]at hy;cases op
   .rw[Os (λh=>by cases h.2)];refine WW ?_;rfl
   .rw[zAs ⟨a3,rfl⟩,G];refine WW ?_;rfl
  .rw[Os (λh=>by omega)];refine WW ?_;rfl
 ·(refine WW ?_)
  refine wJ [4,5,8,28] [2,3,4,5,8,9,10,12,13,14,61,62] Z ?_
  (conv=>whnf)
  rw[tq (by omega:ln d.au=1),show aZ (QH u) d.au 1=Oi u d.au by unfold Oi;rw[hn],a5];refine zQ 13 1002 3 Z Z Z ?_;refine zQ 14 1003 1 Z Z Z ?_;refine zQ 9 1006 4 Z Z Z ?_;refine AN 28 Z ?_;refine VR 28 0 1006 Z Z Z Z Z ?_;refine wB 2 [5,28,1002,1003,1006,4,8] [13,14,62,2,3,4,5,8,12,61] Z ?_;refine yB (st0:=⟨[(13,.ref 1002 0 ((z 0).en.map kF).length),(14,.ref 1003 0 ((z 0).ks.map iA).length),(62,iA 0),(2,.sl false ((u.take 1).map uZ)),(3,iA f4),(4,.ptr 4 0 0),(5,.ptr 5 0 0),(8,.ptr 8 0 0),(12,.ref 28 0 1),(61,iA 1)],[(5,.box (YL (z 0).d)),(28,.arr 1 [.ref 1006 0 ([]:List AV).length] ⟨false,true⟩),(1002,.arr 3 ((z 0).en.map kF) true),(1003,.arr 1 ((z 0).ks.map iA) true),(1006,.arr 4 ([]:List AV) true),(4,.box [.sl false (c.js.map wD),.sl false (c.ags.map uF),iA c.per,iA c.cap,iA c.hold,iA c.lock]),(8,.box Fp)]⟩) (by rw[ap];rfl) ?_;obtain⟨r0,C⟩:∃r,r=(kh (dF u 0).length).rs:=⟨_,rfl⟩;have ar:(z 1).R=(z 0).R++[r0]:=by rw[C,ag]
  have q0:(z 1).d=(kh (dF u 0).length).d/\(z 1).en=(kh (dF u 0).length).en/\(z 1).ks=(kh (dF u 0).length).ks:=by rw[ag];exact⟨rfl,rfl,rfl⟩
  have a9:=zA kF (z 0).en;have ba:=zA iA (z 0).ks;by_cases Y:(u.getD 0 dd).opn=true
  case' pos=>
   have B:dF u 0=(u.getD 0 dd).its:=by unfold dF;rw[zAs ⟨zB,Y⟩]
   have ax:=(IS az 0).1;rw[B]at ax q0 ac C;clear B;generalize u.getD 0 dd=x at *;obtain⟨op,A⟩:=x;dsimp only at *;subst Y;rw[show uZ ⟨true,A⟩= .agg [bA true,zE vO A]from Z]at L;have bb:=zA vO A;refine WW ?_;refine zU (A) [5,1002,1003,28,1006,4,8] [4,8] [2,3,4,5,8,12,16,61,62,75,76] [13,14,77,2,3,4,5,8,12,16,61,62,75,76] Z (λi ga T U=>⟨(13,.ref 1002 0 ((kh i).en.map kF).length)::(14,.ref 1003 0 ((kh i).ks.map iA).length)::(77,iA i)::T,(5,.box (YL (kh i).d))::(1002,.arr 3 ((kh i).en.map kF) true)::(1003,.arr 1 ((kh i).ks.map iA) true)::(28,.arr 1 [.ref 1006 0 ((kh i).rs.map zX).length] ⟨false,true⟩)::(1006,.arr 4 ((kh i).rs.map zX) true)::U⟩) ?_;(conv=>whnf);refine⟨by(rw[S];rfl),?_,?_⟩
   .intro k ga it post hx hk;have a6:=yJ vO hx hk;have V:=zW hx hk;have E:A.getD k dd=it:=by rw[hx,<-hk];simp[qy]
    obtain⟨h,hB,hP,W⟩:=ac k V;rw[E]at hB;obtain⟨b1,b2,b3,b4⟩:=a2 k;have b6:=zA kF (kh k).en;have b7:=zA iA (kh k).ks;have ca:=zA zX (kh k).rs;have M:=hB.1;rw[W];dsimp only;rw[show((kh k).rs++[h.p]).map zX=(kh k).rs.map zX++[zX h.p] by simp,show∀e:En,((kh k).en++[e]).map kF=(kh k).en.map kF++[kF e]from λe=>by simp,E];rw[O]at M;unfold ET zM xD vO at M;unfold vO at a6;have bz:(z 0).en.length<=2000/\(z 0).ks.length<=2000:=by omega
    clear hx E W hB hP I kc km;generalize (kh k).rs.map zX=cc,(kh k).en.map kF=bl,h.p=p9,h.e=e9,h.d=d9 at *;generalize b5:h.k=k9 at *;generalize (kh k).d=bk at *;obtain⟨pk,pt,pa,pd⟩:=p9;unfold zX OK at M;dsimp only at M;unfold YL kF OK zX;by_cases h0:0<=k9
    .rw[zAs h0,show((kh k).ks++[k9]).map iA=(kh k).ks.map iA++[iA k9] by simp];generalize (kh k).ks.map iA=a8 at *;refine zS M ?_;rfl
    .rw[Os h0];generalize (kh k).ks.map iA=a8 at *;refine zS M ?_;rfl
   obtain⟨w1,w2,w3⟩:=q0;refine WW ?_
  case' neg=>
   have B:dF u 0=[]:=by unfold dF;rw[Os (λh=>Y h.2)]
   rw[B,zBz,S]at q0 C;obtain⟨w1,w2,w3⟩:=q0;have a4:(u.getD 0 dd).opn=false:=by simpa using Y
   clear B Y;generalize u.getD 0 dd=x at *;obtain⟨op,A⟩:=x;dsimp only at *;subst a4;rw[show uZ ⟨false,A⟩= .agg [bA false,zE vO A]from Z]at L;refine WW ?_
  all_goals clear L a9 ba
  all_goals
   refine yB (st0:=⟨[(13,.ref 1002 0 ((z 1).en.map kF).length),(14,.ref 1003 0 ((z 1).ks.map iA).length),(62,iA 1),(2,.sl false ((u.take 1).map uZ)),(3,iA f4),(4,.ptr 4 0 0),(5,.ptr 5 0 0),(8,.ptr 8 0 0),(12,.ref 28 0 1),(61,iA 1)],[(5,.box (YL (z 1).d)),(28,.arr 1 [.ref 1006 0 (r0.map zX).length] ⟨false,true⟩),(1002,.arr 3 ((z 1).en.map kF) true),(1003,.arr 1 ((z 1).ks.map iA) true),(1006,.arr 4 (r0.map zX) true),(4,.box [.sl false (c.js.map wD),.sl false (c.ags.map uF),iA c.per,iA c.cap,iA c.hold,iA c.lock]),(8,.box Fp)]⟩) (by rw[w1,w2,w3,C];rfl) ?_;refine zS km ?_;refine zI [] Z Z ?_ Z
   show AV.tup [zM (uw (z 1).d f4),.sl false [.sl false (p5 _ (qd 0 (r0.map zX)))],.sl false (p5 _ (qd 0 ((z 1).en.map kF))),.sl false (p5 _ (qd 0 ((z 1).ks.map iA)))]=_
   simp only[zBf,zAv];unfold qw;rw[ar,ap];rfl
theorem Si {c:Cf} {d:wC} (hI:qD c d) (u:List In) (cn:ln u<=1000) (a5:∀i∈u,Sy i) (f4:Int) (n0:0<=f4) (n1:f4<=1073741824) (z:Nat->SS) (ba:z 0=⟨mq d u,[],[],[]⟩) (hn:ln d.au=2) (hm:2<=ln u)
  (hz:∀s,ES c (mq d u) (z s).d/\((z s).R.length=s/\(z s).en.length<=1000*s/\(z s).ks.length<=1000*s/\∀x∈(z s).ks,0<=x/\x<(ln c.js:Int))/\xw c f4 u s (z s) (z (s+1))):
  zN 115 [wH c,zM d,zE uZ u,iA f4] [] (qw (uw (z 2).d f4) (z 2).R (z 2).en (z 2).ks) []:=by
 have kc:=LK d hI.bd zB;have br:(d.au.map bA).length=2:=by rw[zAt,hn]
 have ce:=zA uZ u;have km:=Xo (z 2).d.rq f4 (hz 2).1.i.v;have V:wH c= .agg [.sl false (c.js.map wD),.sl false (c.ags.map uF),iA c.per,iA c.cap,iA c.hold,iA c.lock]:=rfl;rw[V];unfold XU zM xD at kc;have e0:=qM (QH u) d.au;have b1:(min ((u.map uZ).length:Int) ((d.au.map bA).length:Int)).toNat=2:=by omega
 have cb:((u.take 2).map uZ).length=2:=by rw[zAt,zBi];omega
 have M:∀s,s<2->((u.take 2).map uZ)[s]? =some (uZ (u.getD s dd)):=λs hs=>by
  rw[zA1,zCi,zAs hs,zA5,zBq zB];rfl
 obtain⟨cf,⟨ch,cj,cl,_⟩,kh,a2,a6,b3,a8⟩:=hz 0;have ap:=M 0 zB;obtain⟨cg,⟨ci,ck,cm,_⟩,kj,a3,a7,b4,a9⟩:=hz 1;have ar:=M 1 zB;refine eM call115 λF hF=>?_
 refine zS kc ?_;rw[b1,br];refine zO (2) [1004,4,5,8,28] [4,5,8,28] [2,3,4,5,8,12,13,14,39] [40,9,10,2,3,4,5,8,12,13,14,39] Z (λi T U=>⟨(40,iA i)::(9,.s (.slice none 0 0))::(10,.s (.slice none 0 0))::T,(1004,.arr 1 ((aZ (QH u) d.au i).map bA) false)::U⟩) ?_;(conv=>whnf);refine⟨by(rw[e0];rfl),?_,?_⟩
 .intro i hi;have cc:((aZ (QH u) d.au i).map bA)[i]? =some (bA (d.au.getD i dd)):=by rw[zA1,vS,zAs zB,Os (zDp i)];rfl
  have co:((aZ (QH u) d.au i).map bA).length=2:=by rw[zAt,wT,hn]
  rw[vN bA (QH u) d.au i zB];have ag:=YM cc;clear kc km;generalize (aZ (QH u) d.au i).map bA=xs,d.au.getD i dd=b9 at *;unfold QH;by_cases h1:i<2
  .have hy:=M i h1;have b5:i<ln u:=by omega
   generalize u.getD i dd=x at *;obtain⟨op,A⟩:=x;rw[show uZ ⟨op,A⟩= .agg [bA op,zE vO A]from Z]at hy;cases op
   .rw[Os (λh=>by cases h.2)];refine WW ?_;rfl
   .rw[zAs ⟨b5,rfl⟩,ag];refine WW ?_;rfl
  .rw[Os (λh=>by omega)];refine WW ?_;rfl
 ·(refine WW ?_)
  refine wJ [4,5,8,28] [2,3,4,5,8,9,10,12,13,14,61,62] Z ?_
  (conv=>whnf)
  rw[tq (by omega:ln d.au=2),show aZ (QH u) d.au 2=Oi u d.au by unfold Oi;rw[hn],cb];refine zQ 13 1002 3 Z Z Z ?_;refine zQ 14 1003 1 Z Z Z ?_;refine zQ 9 1006 4 Z Z Z ?_;refine zQ 10 1007 4 Z Z Z ?_;refine AN 28 Z ?_;refine VR 28 0 1006 Z Z Z Z Z ?_;refine VR 28 1 1007 Z Z Z Z Z ?_;refine wB 3 [5,28,1002,1003,1006,1007,4,8] [13,14,62,2,3,4,5,8,12,61] Z ?_;refine yB (st0:=⟨[(13,.ref 1002 0 ((z 0).en.map kF).length),(14,.ref 1003 0 ((z 0).ks.map iA).length),(62,iA 0),(2,.sl false ((u.take 2).map uZ)),(3,iA f4),(4,.ptr 4 0 0),(5,.ptr 5 0 0),(8,.ptr 8 0 0),(12,.ref 28 0 2),(61,iA 2)],[(5,.box (YL (z 0).d)),(28,.arr 1 [.ref 1006 0 ([]:List AV).length,.ref 1007 0 ([]:List AV).length] ⟨false,true⟩),(1002,.arr 3 ((z 0).en.map kF) true),(1003,.arr 1 ((z 0).ks.map iA) true),(1006,.arr 4 ([]:List AV) true),(1007,.arr 4 ([]:List AV) true),(4,.box [.sl false (c.js.map wD),.sl false (c.ags.map uF),iA c.per,iA c.cap,iA c.hold,iA c.lock]),(8,.box Fp)]⟩) (by rw[ba];rfl) ?_;obtain⟨r0,O⟩:∃r,r=(kh (dF u 0).length).rs:=⟨_,rfl⟩;have bk:(z 1).R=(z 0).R++[r0]:=by rw[O,a8]
  have q0:(z 1).d=(kh (dF u 0).length).d/\(z 1).en=(kh (dF u 0).length).en/\(z 1).ks=(kh (dF u 0).length).ks:=by rw[a8];exact⟨rfl,rfl,rfl⟩
  have az:=zA kF (z 0).en;have a1:=zA iA (z 0).ks;by_cases L:(u.getD 0 dd).opn=true
  case' pos=>
   have B:dF u 0=(u.getD 0 dd).its:=by unfold dF;rw[zAs ⟨zB,L⟩]
   have Y:=(IS a5 0).1;rw[B]at Y q0 a6 O;clear B;generalize u.getD 0 dd=x at *;obtain⟨op,A⟩:=x;dsimp only at *;subst L;rw[show uZ ⟨true,A⟩= .agg [bA true,zE vO A]from Z]at ap;have a4:=zA vO A;refine WW ?_;refine zU (A) [5,1002,1003,28,1006,4,8,1007] [4,8,1007] [2,3,4,5,8,12,16,61,62,75,76] [13,14,77,2,3,4,5,8,12,16,61,62,75,76] Z (λi ga T U=>⟨(13,.ref 1002 0 ((kh i).en.map kF).length)::(14,.ref 1003 0 ((kh i).ks.map iA).length)::(77,iA i)::T,(5,.box (YL (kh i).d))::(1002,.arr 3 ((kh i).en.map kF) true)::(1003,.arr 1 ((kh i).ks.map iA) true)::(28,.arr 1 [.ref 1006 0 ((kh i).rs.map zX).length,.ref 1007 0 ([]:List AV).length] ⟨false,true⟩)::(1006,.arr 4 ((kh i).rs.map zX) true)::U⟩) ?_;(conv=>whnf);refine⟨by(rw[a2];rfl),?_,?_⟩
   .intro k ga it post S hk;have av:=yJ vO S hk;have G:=zW S hk;have C:A.getD k dd=it:=by rw[S,<-hk];simp[qy]
    obtain⟨h,W,hP,I⟩:=a6 k G;rw[C]at W;obtain⟨bu,bx,bz,b0⟩:=b3 k;have b6:=zA kF (kh k).en;have b7:=zA iA (kh k).ks;have ca:=zA zX (kh k).rs;have E:=W.1;rw[I];dsimp only;rw[show((kh k).rs++[h.p]).map zX=(kh k).rs.map zX++[zX h.p] by simp,show∀e:En,((kh k).en++[e]).map kF=(kh k).en.map kF++[kF e]from λe=>by simp,C];rw[V]at E;unfold ET zM xD vO at E;unfold vO at av;have bs:(z 0).en.length<=2000/\(z 0).ks.length<=2000:=by omega
    clear S C I W hP M kc km;generalize (kh k).rs.map zX=cd,(kh k).en.map kF=bf,h.p=p9,h.e=e9,h.d=d9 at *;generalize b2:h.k=k9 at *;generalize (kh k).d=bb at *;obtain⟨pk,pt,pa,pd⟩:=p9;unfold zX OK at E;dsimp only at E;unfold YL kF OK zX;by_cases h0:0<=k9
    .rw[zAs h0,show((kh k).ks++[k9]).map iA=(kh k).ks.map iA++[iA k9] by simp];generalize (kh k).ks.map iA=ax at *;refine zS E ?_;rfl
    .rw[Os h0];generalize (kh k).ks.map iA=ax at *;refine zS E ?_;rfl
   obtain⟨w1,w2,w3⟩:=q0;refine WW ?_
  case' neg=>
   have B:dF u 0=[]:=by unfold dF;rw[Os (λh=>L h.2)]
   rw[B,zBz,a2]at q0 O;obtain⟨w1,w2,w3⟩:=q0;have ac:(u.getD 0 dd).opn=false:=by simpa using L
   clear B L;generalize u.getD 0 dd=x at *;obtain⟨op,A⟩:=x;dsimp only at *;subst ac;rw[show uZ ⟨false,A⟩= .agg [bA false,zE vO A]from Z]at ap;refine WW ?_
  all_goals clear ap az a1
  all_goals
   refine yB (st0:=⟨[(13,.ref 1002 0 ((z 1).en.map kF).length),(14,.ref 1003 0 ((z 1).ks.map iA).length),(62,iA 1),(2,.sl false ((u.take 2).map uZ)),(3,iA f4),(4,.ptr 4 0 0),(5,.ptr 5 0 0),(8,.ptr 8 0 0),(12,.ref 28 0 2),(61,iA 2)],[(5,.box (YL (z 1).d)),(28,.arr 1 [.ref 1006 0 (r0.map zX).length,.ref 1007 0 ([]:List AV).length] ⟨false,true⟩),(1002,.arr 3 ((z 1).en.map kF) true),(1003,.arr 1 ((z 1).ks.map iA) true),(1006,.arr 4 (r0.map zX) true),(1007,.arr 4 ([]:List AV) true),(4,.box [.sl false (c.js.map wD),.sl false (c.ags.map uF),iA c.per,iA c.cap,iA c.hold,iA c.lock]),(8,.box Fp)]⟩) (by rw[w1,w2,w3,O];rfl) ?_;obtain⟨r1,hr1⟩:∃r,r=(kj (dF u 1).length).rs:=⟨_,rfl⟩;have bl:(z 2).R=(z 1).R++[r1]:=by rw[hr1,a9]
   have q1:(z 2).d=(kj (dF u 1).length).d/\(z 2).en=(kj (dF u 1).length).en/\(z 2).ks=(kj (dF u 1).length).ks:=by rw[a9];exact⟨rfl,rfl,rfl⟩
   have az:=zA kF (z 1).en;have a1:=zA iA (z 1).ks;by_cases L:(u.getD 1 dd).opn=true
   case' pos=>
    have B:dF u 1=(u.getD 1 dd).its:=by unfold dF;rw[zAs ⟨zB,L⟩]
    have Y:=(IS a5 1).1;rw[B]at Y q1 a7 hr1;clear B;generalize u.getD 1 dd=x at *;obtain⟨op,A⟩:=x;dsimp only at *;subst L;rw[show uZ ⟨true,A⟩= .agg [bA true,zE vO A]from Z]at ar;have a4:=zA vO A;refine WW ?_;refine zU (A) [5,1002,1003,28,1007,4,8,1006] [4,8,1006] [2,3,4,5,8,12,16,61,62,75,76] [13,14,77,2,3,4,5,8,12,16,61,62,75,76] Z (λi ga T U=>⟨(13,.ref 1002 0 ((kj i).en.map kF).length)::(14,.ref 1003 0 ((kj i).ks.map iA).length)::(77,iA i)::T,(5,.box (YL (kj i).d))::(1002,.arr 3 ((kj i).en.map kF) true)::(1003,.arr 1 ((kj i).ks.map iA) true)::(28,.arr 1 [.ref 1006 0 (r0.map zX).length,.ref 1007 0 ((kj i).rs.map zX).length] ⟨false,true⟩)::(1007,.arr 4 ((kj i).rs.map zX) true)::U⟩) ?_;(conv=>whnf);refine⟨by(rw[a3];rfl),?_,?_⟩
    .intro k ga it post S hk;have av:=yJ vO S hk;have G:=zW S hk;have C:A.getD k dd=it:=by rw[S,<-hk];simp[qy]
     obtain⟨h,W,hP,I⟩:=a7 k G;rw[C]at W;obtain⟨bu,bx,bz,b0⟩:=b4 k;have b6:=zA kF (kj k).en;have b7:=zA iA (kj k).ks;have ca:=zA zX (kj k).rs;have E:=W.1;rw[I];dsimp only;rw[show((kj k).rs++[h.p]).map zX=(kj k).rs.map zX++[zX h.p] by simp,show∀e:En,((kj k).en++[e]).map kF=(kj k).en.map kF++[kF e]from λe=>by simp,C];rw[V]at E;unfold ET zM xD vO at E;unfold vO at av;have bs:(z 1).en.length<=2000/\(z 1).ks.length<=2000:=by omega
     clear S C I W hP M kc km;generalize (kj k).rs.map zX=cd,(kj k).en.map kF=bf,h.p=p9,h.e=e9,h.d=d9 at *;generalize b2:h.k=k9 at *;generalize (kj k).d=bb at *;obtain⟨pk,pt,pa,pd⟩:=p9;unfold zX OK at E;dsimp only at E;unfold YL kF OK zX;by_cases h0:0<=k9
     .rw[zAs h0,show((kj k).ks++[k9]).map iA=(kj k).ks.map iA++[iA k9] by simp];generalize (kj k).ks.map iA=ax at *;refine zS E ?_;rfl
     .rw[Os h0];generalize (kj k).ks.map iA=ax at *;refine zS E ?_;rfl
    obtain⟨w1,w2,w3⟩:=q1;refine WW ?_
   case' neg=>
    have B:dF u 1=[]:=by unfold dF;rw[Os (λh=>L h.2)]
    rw[B,zBz,a3]at q1 hr1;obtain⟨w1,w2,w3⟩:=q1;have ac:(u.getD 1 dd).opn=false:=by simpa using L
    clear B L;generalize u.getD 1 dd=x at *;obtain⟨op,A⟩:=x;dsimp only at *;subst ac;rw[show uZ ⟨false,A⟩= .agg [bA false,zE vO A]from Z]at ar;refine WW ?_
   all_goals clear ar az a1
   all_goals
    refine yB (st0:=⟨[(13,.ref 1002 0 ((z 2).en.map kF).length),(14,.ref 1003 0 ((z 2).ks.map iA).length),(62,iA 2),(2,.sl false ((u.take 2).map uZ)),(3,iA f4),(4,.ptr 4 0 0),(5,.ptr 5 0 0),(8,.ptr 8 0 0),(12,.ref 28 0 2),(61,iA 2)],[(5,.box (YL (z 2).d)),(28,.arr 1 [.ref 1006 0 (r0.map zX).length,.ref 1007 0 (r1.map zX).length] ⟨false,true⟩),(1002,.arr 3 ((z 2).en.map kF) true),(1003,.arr 1 ((z 2).ks.map iA) true),(1006,.arr 4 (r0.map zX) true),(1007,.arr 4 (r1.map zX) true),(4,.box [.sl false (c.js.map wD),.sl false (c.ags.map uF),iA c.per,iA c.cap,iA c.hold,iA c.lock]),(8,.box Fp)]⟩) (by rw[w1,w2,w3,hr1];rfl) ?_;refine zS km ?_;refine zI [] Z Z ?_ Z
    show AV.tup [zM (uw (z 2).d f4),.sl false [.sl false (p5 _ (qd 0 (r0.map zX))),.sl false (p5 _ (qd 0 (r1.map zX)))],.sl false (p5 _ (qd 0 ((z 2).en.map kF))),.sl false (p5 _ (qd 0 ((z 2).ks.map iA)))]=_
    simp only[zBf,zAv];unfold qw;rw[bl,bk,ba];rfl
structure Vw where
 fl:Bool
 ov:Bool
 co:List Int
 cn:List Int
instance:Inhabited Vw:=⟨⟨false,false,[],[]⟩⟩
def vG (v:Vw):AV:= .agg [bA v.fl,bA v.ov,zE iA v.co,zE iA v.cn]
structure ma (v:Vw):Prop where
 n:v.co.length<=8
 m:v.cn.length<=8
 c:∀c∈v.co,0<=c/\c<=2
def fU (n:Int):Int:=IntKind.u8.wrap n
def EA (a b:Bool):Int:=(if a=true then 1 else 0)+(if b=true then 2 else 0)
def vJ (l:List Int):Nat->Int
 |0=>0
 |i+1=>vJ l i+l.getD i 0*p2 (2*(i:Int))
def l9 (v:Vw):List Int:=[EA v.fl v.ov,vQ (vJ v.co (ln v.co)) 8,fU (vJ v.co (ln v.co))]++v.cn.map fU
def XS (l:List Vw):List Int:=(l.map l9).flatten
def Ep (i:Nat):p2 (2*((i+1:Nat):Int))=p2 (2*(i:Int))*4:=by
 unfold p2;rw[show(2*((i+1:Nat):Int)).toNat=(2*(i:Int)).toNat+2 by omega,Int.pow_add];rfl
def fV (i:Nat) (h:i<=8):1<=p2 (2*(i:Int))/\p2 (2*(i:Int))<=65536:=by
 have:i=0\/i=1\/i=2\/i=3\/i=4\/i=5\/i=6\/i=7\/i=8:=by omega
 rcases this with rfl|rfl|rfl|rfl|rfl|rfl|rfl|rfl|rfl<;>decide
theorem OJ {l:List Int} (h:∀c∈l,0<=c/\c<=2):∀i,i<=ln l->i<=8->0<=vJ l i/\vJ l i<p2 (2*(i:Int))
 |0,_,_=>by simp[vJ,p2]
 | i+1,h1,h2=>by
  have A:=OJ h i zB zB
  have u:l.getD i 0∈l:=by
   rw[zA5,zBq zB];exact zEn _
  have hc:=h _ u;have z:=fV i zB;rw[Ep,vJ];generalize l.getD i 0=c,p2 (2*(i:Int))=w at *;have:c=0\/c=1\/c=2:=by omega
  rcases this with rfl|rfl|rfl<;>omega
def R4 {n:Int} (u:0<=n) (h1:n<65536):0<=vQ n 8/\vQ n 8<=255:=by grind [vQ]
def sa (ga:List Vw) (v:Vw):(XS (ga++[v])).map yA=(XS ga).map yA++[yA (EA v.fl v.ov),yA (vQ (vJ v.co (ln v.co)) 8),yA (fU (vJ v.co (ln v.co)))]++v.cn.map (λn=>yA (fU n)):=by
 unfold XS l9;simp
def cY {l:List Vw} (h:∀v∈l,ma v):(XS l).length<=11*ln l:=by
 unfold XS
 induction l with
 |nil=>simp
 |cons v l z=>
  have h1:=z λx u=>h x (by simp[u])
  have h2:=(h v zV).m
  grind [XS,List.flatten_cons,List.length_append,List.length_cons,l9,List.length_map,List.length_nil]
theorem Dp (l:List Vw) (hn:ln l<=1000) (hb:∀v∈l,ma v):zN 124 [zE vG l] [] (.ref 1001 0 ((XS l).map yA).length) [(1001,.arr 1 ((XS l).map yA) true)]:=by
 have hl:=zA vG l;have ac:=cY hb;refine eM call124 λF hF=>?_
 refine WW ?_;refine zQ 3 1001 1 Z Z Z ?_;refine zU (l) [1001] [] [13,14] [3,15,13,14] Z (λi ga T U=>⟨(3,.ref 1001 0 ((XS ga).map yA).length)::(15,iA i)::T,(1001,.arr 1 ((XS ga).map yA) true)::U⟩) (Lq ?_ ?_)
 .intro i ga v post hx hi;have hy:=yJ vG hx hi;have av:=zW hx hi;have hv:=hb v (xA hx);have ap:=cY (l:=ga) (λw hw=>hb w (by rw[hx];simp[hw]));have az:((XS ga).map yA).length<=11000:=by rw[zAt];omega
  rw[sa];clear hx ap ac;generalize (XS ga).map yA=xs at *;have ar:=zA iA v.co;have au:=zA iA v.cn;have C:=λk hk=>OJ hv.c k hk (zBx hk hv.n)
  have ag:=hv.n;have ax:=hv.m;obtain⟨fl,ov,A,cn⟩:=v;dsimp only at *;rw[show vG ⟨fl,ov,A,cn⟩= .agg [bA fl,bA ov,zE iA A,zE iA cn]from Z]at hy;have E:=C (ln A) (zAy _);have L:=fV (ln A) ag;have M:=R4 (n:=vJ A (ln A)) E.1 zB
  cases fl<;>cases ov
  ·(refine WW ?_)
   refine zU (A) [5,1001] [5,1001] [3,5,6,13,14,15,28,29] [7,8,30,3,5,6,13,14,15,28,29] Z (λi ga T U=>⟨(7,iA (vJ A i))::(8,iA (p2 (2*(i:Int))))::(30,iA i)::T,U⟩) (Lq ?_ ?_)
   .intro k z c B u hk;have I:=yJ iA u hk;have G:=zW u hk;have S:=hv.c c (xA u);have V:A.getD k 0=c:=by rw[u,<-hk];simp[qy]
    have O:=C k zB;have W:=fV k zB;have e1:vJ A (k+1)=vJ A k+c*p2 (2*(k:Int)):=by rw[vJ,V]
    rw[e1,Ep];clear u C E L M e1 hv;generalize vJ A k=s,p2 (2*(k:Int))=w at *;have:c=0\/c=1\/c=2:=by omega
    rcases this with rfl|rfl|rfl
    all_goals
     refine WW ?_;rfl
   .clear C hv;generalize vJ A (ln A)=s at *;refine WW ?_;refine zU (cn) [1001] [] [13,14,15,53,54] [3,55,13,14,15,53,54] Z (λi ga T U=>⟨(3,.ref 1001 0 (xs++[yA (EA false false),yA (vQ s 8),yA (fU s)]++ga.map (λn=>yA (fU n))).length)::(55,iA i)::T,(1001,.arr 1 (xs++[yA (EA false false),yA (vQ s 8),yA (fU s)]++ga.map (λn=>yA (fU n))) true)::U⟩) ?_;(conv=>whnf);refine⟨by(simp only[zCm,zBo];rfl),?_,?_⟩
    .intro k z c B u hk;have I:=yJ iA u hk;have G:=zW u hk;have Y:(z.map (λn=>yA (fU n))).length=k:=by rw[zAt];exact hk
     rw[zA0,zCc,zCm,<-zBl];clear u;generalize z.map (λn=>yA (fU n))=zs2 at *;refine WW ?_;rfl
    ·(refine WW ?_)
     rfl
  ·(refine WW ?_)
   refine zU (A) [5,1001] [5,1001] [3,5,6,13,14,15,28,29] [7,8,30,3,5,6,13,14,15,28,29] Z (λi ga T U=>⟨(7,iA (vJ A i))::(8,iA (p2 (2*(i:Int))))::(30,iA i)::T,U⟩) (Lq ?_ ?_)
   .intro k z c B u hk;have I:=yJ iA u hk;have G:=zW u hk;have S:=hv.c c (xA u);have V:A.getD k 0=c:=by rw[u,<-hk];simp[qy]
    have O:=C k zB;have W:=fV k zB;have e1:vJ A (k+1)=vJ A k+c*p2 (2*(k:Int)):=by rw[vJ,V]
    rw[e1,Ep];clear u C E L M e1 hv;generalize vJ A k=s,p2 (2*(k:Int))=w at *;have:c=0\/c=1\/c=2:=by omega
    rcases this with rfl|rfl|rfl
    all_goals
     refine WW ?_;rfl
   .clear C hv;generalize vJ A (ln A)=s at *;refine WW ?_;refine zU (cn) [1001] [] [13,14,15,53,54] [3,55,13,14,15,53,54] Z (λi ga T U=>⟨(3,.ref 1001 0 (xs++[yA (EA false true),yA (vQ s 8),yA (fU s)]++ga.map (λn=>yA (fU n))).length)::(55,iA i)::T,(1001,.arr 1 (xs++[yA (EA false true),yA (vQ s 8),yA (fU s)]++ga.map (λn=>yA (fU n))) true)::U⟩) ?_;(conv=>whnf);refine⟨by(simp only[zCm,zBo];rfl),?_,?_⟩
    .intro k z c B u hk;have I:=yJ iA u hk;have G:=zW u hk;have Y:(z.map (λn=>yA (fU n))).length=k:=by rw[zAt];exact hk
     rw[zA0,zCc,zCm,<-zBl];clear u;generalize z.map (λn=>yA (fU n))=zs2 at *;refine WW ?_;rfl
    ·(refine WW ?_)
     rfl
  ·(refine WW ?_)
   refine zU (A) [5,1001] [5,1001] [3,5,6,13,14,15,28,29] [7,8,30,3,5,6,13,14,15,28,29] Z (λi ga T U=>⟨(7,iA (vJ A i))::(8,iA (p2 (2*(i:Int))))::(30,iA i)::T,U⟩) (Lq ?_ ?_)
   .intro k z c B u hk;have I:=yJ iA u hk;have G:=zW u hk;have S:=hv.c c (xA u);have V:A.getD k 0=c:=by rw[u,<-hk];simp[qy]
    have O:=C k zB;have W:=fV k zB;have e1:vJ A (k+1)=vJ A k+c*p2 (2*(k:Int)):=by rw[vJ,V]
    rw[e1,Ep];clear u C E L M e1 hv;generalize vJ A k=s,p2 (2*(k:Int))=w at *;have:c=0\/c=1\/c=2:=by omega
    rcases this with rfl|rfl|rfl
    all_goals
     refine WW ?_;rfl
   .clear C hv;generalize vJ A (ln A)=s at *;refine WW ?_;refine zU (cn) [1001] [] [13,14,15,53,54] [3,55,13,14,15,53,54] Z (λi ga T U=>⟨(3,.ref 1001 0 (xs++[yA (EA true false),yA (vQ s 8),yA (fU s)]++ga.map (λn=>yA (fU n))).length)::(55,iA i)::T,(1001,.arr 1 (xs++[yA (EA true false),yA (vQ s 8),yA (fU s)]++ga.map (λn=>yA (fU n))) true)::U⟩) ?_;(conv=>whnf);refine⟨by(simp only[zCm,zBo];rfl),?_,?_⟩
    .intro k z c B u hk;have I:=yJ iA u hk;have G:=zW u hk;have Y:(z.map (λn=>yA (fU n))).length=k:=by rw[zAt];exact hk
     rw[zA0,zCc,zCm,<-zBl];clear u;generalize z.map (λn=>yA (fU n))=zs2 at *;refine WW ?_;rfl
    ·(refine WW ?_)
     rfl
  ·(refine WW ?_)
   refine zU (A) [5,1001] [5,1001] [3,5,6,13,14,15,28,29] [7,8,30,3,5,6,13,14,15,28,29] Z (λi ga T U=>⟨(7,iA (vJ A i))::(8,iA (p2 (2*(i:Int))))::(30,iA i)::T,U⟩) (Lq ?_ ?_)
   .intro k z c B u hk;have I:=yJ iA u hk;have G:=zW u hk;have S:=hv.c c (xA u);have V:A.getD k 0=c:=by rw[u,<-hk];simp[qy]
    have O:=C k zB;have W:=fV k zB;have e1:vJ A (k+1)=vJ A k+c*p2 (2*(k:Int)):=by rw[vJ,V]
    rw[e1,Ep];clear u C E L M e1 hv;generalize vJ A k=s,p2 (2*(k:Int))=w at *;have:c=0\/c=1\/c=2:=by omega
    rcases this with rfl|rfl|rfl
    all_goals
     refine WW ?_;rfl
   .clear C hv;generalize vJ A (ln A)=s at *;refine WW ?_;refine zU (cn) [1001] [] [13,14,15,53,54] [3,55,13,14,15,53,54] Z (λi ga T U=>⟨(3,.ref 1001 0 (xs++[yA (EA true true),yA (vQ s 8),yA (fU s)]++ga.map (λn=>yA (fU n))).length)::(55,iA i)::T,(1001,.arr 1 (xs++[yA (EA true true),yA (vQ s 8),yA (fU s)]++ga.map (λn=>yA (fU n))) true)::U⟩) ?_;(conv=>whnf);refine⟨by(simp only[zCm,zBo];rfl),?_,?_⟩
    .intro k z c B u hk;have I:=yJ iA u hk;have G:=zW u hk;have Y:(z.map (λn=>yA (fU n))).length=k:=by rw[zAt];exact hk
     rw[zA0,zCc,zCm,<-zBl];clear u;generalize z.map (λn=>yA (fU n))=zs2 at *;refine WW ?_;rfl
    ·(refine WW ?_)
     rfl
 ·(refine WW ?_)
  exact zP [1001] Z Z Z Z
def QG {c:Int} {k:Nat} (hk:k<8) (hc:0<=c/\c<=2):IntKind.i64.wrap (c*2 ^ (min (2*(k:Int)).toNat IntKind.i64.bits))=c*p2 (2*(k:Int)):=by
 have hb:IntKind.i64.bits=64:=rfl;have h1:=fV k zB;rw[hb,show min (2*(k:Int)).toNat 64=(2*(k:Int)).toNat by omega];have h2:c=0\/c=1\/c=2:=by omega
 unfold p2 at h1;refine kI (k:= .i64) ⟨?_,?_⟩
 .show -9223372036854775808<=_
  rcases h2 with rfl|rfl|rfl<;>omega
 .show _<=9223372036854775807
  rcases h2 with rfl|rfl|rfl<;>omega
theorem qg (l:List Vw) (hn:ln l<=1000) (hb:∀v∈l,ma v):zN 137 [zE vG l] [] (.ref 1001 0 ((XS l).map yA).length) [(1001,.arr 1 ((XS l).map yA) true)]:=by
 have hl:=zA vG l;have ap:=cY hb;refine eM call137 λF hF=>?_
 refine WW ?_;refine zQ 3 1001 1 Z Z Z ?_;refine zU (l) [1001] [] [12,13] [3,14,12,13] Z (λi ga T U=>⟨(3,.ref 1001 0 ((XS ga).map yA).length)::(14,iA i)::T,(1001,.arr 1 ((XS ga).map yA) true)::U⟩) (Lq ?_ ?_)
 .intro i ga v post hx hi;have hy:=yJ vG hx hi;have az:=zW hx hi;have hv:=hb v (xA hx);have au:=cY (l:=ga) (λw hw=>hb w (by rw[hx];simp[hw]));have a2:((XS ga).map yA).length<=11000:=by rw[zAt];omega
  rw[sa];clear hx au ap;generalize (XS ga).map yA=xs at *;have av:=zA iA v.co;have ax:=zA iA v.cn;have C:=λk hk=>OJ hv.c k hk (zBx hk hv.n)
  have ar:=hv.n;have a1:=hv.m;obtain⟨fl,ov,A,cn⟩:=v;dsimp only at *;rw[show vG ⟨fl,ov,A,cn⟩= .agg [bA fl,bA ov,zE iA A,zE iA cn]from Z]at hy;have E:=C (ln A) (zAy _);have O:=fV (ln A) ar;have S:=R4 (n:=vJ A (ln A)) E.1 zB
  cases fl<;>cases ov
  ·(refine WW ?_)
   refine zU (A) [5,1001] [5,1001] [3,5,6,12,13,14,27,28] [7,29,3,5,6,12,13,14,27,28] Z (λi ga T U=>⟨(7,iA (vJ A i))::(29,iA i)::T,U⟩) (Lq ?_ ?_)
   .intro k z c B u hk;have M:=yJ iA u hk;have G:=zW u hk;have W:=hv.c c (xA u);have Y:A.getD k 0=c:=by rw[u,<-hk];simp[qy]
    have V:=C k zB;have ac:=fV k zB;have e1:vJ A (k+1)=vJ A k+c*p2 (2*(k:Int)):=by rw[vJ,Y]
    rw[e1];have I:=QG (c:=0) (k:=k) zB zB;have L:=QG (c:=2) (k:=k) zB zB;clear u C E O S e1 hv;generalize vJ A k=s at *;have:c=0\/c=1\/c=2:=by omega
    rcases this with rfl|rfl|rfl
    ·(refine WW ?_)
     rw[I];rfl
    ·(refine WW ?_)
     rw[zFn];rfl
    ·(refine WW ?_)
     rw[L];rfl
   .clear C hv;generalize vJ A (ln A)=s at *;refine WW ?_;refine zU (cn) [1001] [] [12,13,14,52,53] [3,54,12,13,14,52,53] Z (λi ga T U=>⟨(3,.ref 1001 0 (xs++[yA (EA false false),yA (vQ s 8),yA (fU s)]++ga.map (λn=>yA (fU n))).length)::(54,iA i)::T,(1001,.arr 1 (xs++[yA (EA false false),yA (vQ s 8),yA (fU s)]++ga.map (λn=>yA (fU n))) true)::U⟩) ?_;(conv=>whnf);refine⟨by(simp only[zCm,zBo];rfl),?_,?_⟩
    .intro k z c B u hk;have M:=yJ iA u hk;have G:=zW u hk;have ag:(z.map (λn=>yA (fU n))).length=k:=by rw[zAt];exact hk
     rw[zA0,zCc,zCm,<-zBl];clear u;generalize z.map (λn=>yA (fU n))=zs2 at *;refine WW ?_;rfl
    ·(refine WW ?_)
     rfl
  ·(refine WW ?_)
   refine zU (A) [5,1001] [5,1001] [3,5,6,12,13,14,27,28] [7,29,3,5,6,12,13,14,27,28] Z (λi ga T U=>⟨(7,iA (vJ A i))::(29,iA i)::T,U⟩) (Lq ?_ ?_)
   .intro k z c B u hk;have M:=yJ iA u hk;have G:=zW u hk;have W:=hv.c c (xA u);have Y:A.getD k 0=c:=by rw[u,<-hk];simp[qy]
    have V:=C k zB;have ac:=fV k zB;have e1:vJ A (k+1)=vJ A k+c*p2 (2*(k:Int)):=by rw[vJ,Y]
    rw[e1];have I:=QG (c:=0) (k:=k) zB zB;have L:=QG (c:=2) (k:=k) zB zB;clear u C E O S e1 hv;generalize vJ A k=s at *;have:c=0\/c=1\/c=2:=by omega
    rcases this with rfl|rfl|rfl
    ·(refine WW ?_)
     rw[I];rfl
    ·(refine WW ?_)
     rw[zFn];rfl
    ·(refine WW ?_)
     rw[L];rfl
   .clear C hv;generalize vJ A (ln A)=s at *;refine WW ?_;refine zU (cn) [1001] [] [12,13,14,52,53] [3,54,12,13,14,52,53] Z (λi ga T U=>⟨(3,.ref 1001 0 (xs++[yA (EA false true),yA (vQ s 8),yA (fU s)]++ga.map (λn=>yA (fU n))).length)::(54,iA i)::T,(1001,.arr 1 (xs++[yA (EA false true),yA (vQ s 8),yA (fU s)]++ga.map (λn=>yA (fU n))) true)::U⟩) ?_;(conv=>whnf);refine⟨by(simp only[zCm,zBo];rfl),?_,?_⟩
    .intro k z c B u hk;have M:=yJ iA u hk;have G:=zW u hk;have ag:(z.map (λn=>yA (fU n))).length=k:=by rw[zAt];exact hk
     rw[zA0,zCc,zCm,<-zBl];clear u;generalize z.map (λn=>yA (fU n))=zs2 at *;refine WW ?_;rfl
    ·(refine WW ?_)
     rfl
  ·(refine WW ?_)
   refine zU (A) [5,1001] [5,1001] [3,5,6,12,13,14,27,28] [7,29,3,5,6,12,13,14,27,28] Z (λi ga T U=>⟨(7,iA (vJ A i))::(29,iA i)::T,U⟩) (Lq ?_ ?_)
   .intro k z c B u hk;have M:=yJ iA u hk;have G:=zW u hk;have W:=hv.c c (xA u);have Y:A.getD k 0=c:=by rw[u,<-hk];simp[qy]
    have V:=C k zB;have ac:=fV k zB;have e1:vJ A (k+1)=vJ A k+c*p2 (2*(k:Int)):=by rw[vJ,Y]
    rw[e1];have I:=QG (c:=0) (k:=k) zB zB;have L:=QG (c:=2) (k:=k) zB zB;clear u C E O S e1 hv;generalize vJ A k=s at *;have:c=0\/c=1\/c=2:=by omega
    rcases this with rfl|rfl|rfl
    ·(refine WW ?_)
     rw[I];rfl
    ·(refine WW ?_)
     rw[zFn];rfl
    ·(refine WW ?_)
     rw[L];rfl
   .clear C hv;generalize vJ A (ln A)=s at *;refine WW ?_;refine zU (cn) [1001] [] [12,13,14,52,53] [3,54,12,13,14,52,53] Z (λi ga T U=>⟨(3,.ref 1001 0 (xs++[yA (EA true false),yA (vQ s 8),yA (fU s)]++ga.map (λn=>yA (fU n))).length)::(54,iA i)::T,(1001,.arr 1 (xs++[yA (EA true false),yA (vQ s 8),yA (fU s)]++ga.map (λn=>yA (fU n))) true)::U⟩) ?_;(conv=>whnf);refine⟨by(simp only[zCm,zBo];rfl),?_,?_⟩
    .intro k z c B u hk;have M:=yJ iA u hk;have G:=zW u hk;have ag:(z.map (λn=>yA (fU n))).length=k:=by rw[zAt];exact hk
     rw[zA0,zCc,zCm,<-zBl];clear u;generalize z.map (λn=>yA (fU n))=zs2 at *;refine WW ?_;rfl
    ·(refine WW ?_)
     rfl
  ·(refine WW ?_)
   refine zU (A) [5,1001] [5,1001] [3,5,6,12,13,14,27,28] [7,29,3,5,6,12,13,14,27,28] Z (λi ga T U=>⟨(7,iA (vJ A i))::(29,iA i)::T,U⟩) (Lq ?_ ?_)
   .intro k z c B u hk;have M:=yJ iA u hk;have G:=zW u hk;have W:=hv.c c (xA u);have Y:A.getD k 0=c:=by rw[u,<-hk];simp[qy]
    have V:=C k zB;have ac:=fV k zB;have e1:vJ A (k+1)=vJ A k+c*p2 (2*(k:Int)):=by rw[vJ,Y]
    rw[e1];have I:=QG (c:=0) (k:=k) zB zB;have L:=QG (c:=2) (k:=k) zB zB;clear u C E O S e1 hv;generalize vJ A k=s at *;have:c=0\/c=1\/c=2:=by omega
    rcases this with rfl|rfl|rfl
    ·(refine WW ?_)
     rw[I];rfl
    ·(refine WW ?_)
     rw[zFn];rfl
    ·(refine WW ?_)
     rw[L];rfl
   .clear C hv;generalize vJ A (ln A)=s at *;refine WW ?_;refine zU (cn) [1001] [] [12,13,14,52,53] [3,54,12,13,14,52,53] Z (λi ga T U=>⟨(3,.ref 1001 0 (xs++[yA (EA true true),yA (vQ s 8),yA (fU s)]++ga.map (λn=>yA (fU n))).length)::(54,iA i)::T,(1001,.arr 1 (xs++[yA (EA true true),yA (vQ s 8),yA (fU s)]++ga.map (λn=>yA (fU n))) true)::U⟩) ?_;(conv=>whnf);refine⟨by(simp only[zCm,zBo];rfl),?_,?_⟩
    .intro k z c B u hk;have M:=yJ iA u hk;have G:=zW u hk;have ag:(z.map (λn=>yA (fU n))).length=k:=by rw[zAt];exact hk
     rw[zA0,zCc,zCm,<-zBl];clear u;generalize z.map (λn=>yA (fU n))=zs2 at *;refine WW ?_;rfl
    ·(refine WW ?_)
     rfl
 ·(refine WW ?_)
  exact zP [1001] Z Z Z Z
def cdW (g:Lg) (w:Vw):Int:=if 0<=g.ph/\g.ph<(ln w.co:Int)then(if w.ov=true/\w.fl=false/\w.co.getD g.ph.toNat dd=1 then 3 else 2)else 1
def Ri (g:Lg) (v:List Vw) (f4:Int):Int:=if EP g f4=true/\0<=g.jn/\g.jn<(ln v:Int)then cdW g (v.getD g.jn.toNat dd)else 1
def Ld (g:Lg) (v:List Vw) (f4:Int):1<=Ri g v f4/\Ri g v f4<=3:=by grind [Ri,cdW]
def ta (g:Lg) (v:List Vw) (f4:Int) {Q:Int->Prop} (q1:EP g f4=false->Q 1) (B:EP g f4=true->g.jn<0->Q 1) (C:EP g f4=true->0<=g.jn->(ln v:Int)<=g.jn->Q 1)
  (q4:∀w,EP g f4=true->0<=g.jn->g.jn<(ln v:Int)->(v.map vG)[g.jn.toNat]? =some (vG w)->g.ph<0->Q 1)
  (E:∀w,EP g f4=true->0<=g.jn->g.jn<(ln v:Int)->(v.map vG)[g.jn.toNat]? =some (vG w)->0<=g.ph->(ln w.co:Int)<=g.ph->Q 1)
  (G:∀w c,EP g f4=true->0<=g.jn->g.jn<(ln v:Int)->(v.map vG)[g.jn.toNat]? =some (vG w)->0<=g.ph->g.ph<(ln w.co:Int)->(w.co.map iA)[g.ph.toNat]? =some (iA c)->Q (if w.ov=true/\w.fl=false/\c=1 then 3 else 2)):Q (Ri g v f4):=by
 unfold Ri
 cases hl:EP g f4 with
 |false=>rw[Os (λh=>by cases h.1)];exact q1 hl
 |true=>
  by_cases j0:g.jn<0
  .grind
  by_cases j1:(ln v:Int)<=g.jn
  .grind
  have u:=yE vG v g.jn zB zB;rw[zAs ⟨rfl,zB,zB⟩];generalize v.getD g.jn.toNat dd=w at *;unfold cdW;by_cases z:g.ph<0
  .grind
  by_cases A:(ln w.co:Int)<=g.ph
  .grind
  simp_all [EP,q4,vG,iA,Ri]
def Q4 (g:Lg) (v:List Vw) (f4:Int) (V:ln v<=1000) (hb:∀w∈v,ln w.co<=1000):zN 232 [yO g,zE vG v,iA f4] [] (iA (Ri g v f4)) []:=by
 have u:=Un g f4;have S:=zA vG v;have hb:∀w,(v.map vG)[g.jn.toNat]? =some (vG w)->(w.co.map iA).length=ln w.co:=λw _=>zA iA w.co
 unfold yO at *;refine ta (Q:=λr=>zN 232 [.agg [iA g.jn,iA g.ph,iA g.fr,iA g.to,iA g.sc],zE vG v,iA f4] [] (iA r) []) g v f4 (λh1=>?_) (λh1 h2=>?_) (λh1 h2 C=>?_) (λw h1 h2 C z M=>?_) (λw h1 h2 C z M O=>?_) (λw c h1 h2 C z M O U=>?_)
 .rw[h1]at u;refine eM call232 λF hF=>?_
  exact nl u
 .rw[h1]at u;refine eM call232 λF hF=>?_
  exact nl u
 .rw[h1]at u;refine eM call232 λF hF=>?_
  exact nl u
 .rw[h1]at u;unfold vG at z;refine eM call232 λF hF=>?_
  exact nl u
 .rw[h1]at u;have E:=hb w z;unfold vG zE at z;refine eM call232 λF hF=>?_
  exact nl u
 .rw[h1]at u;have E:=hb w z;clear hb;obtain⟨B,G,L,I⟩:=w;rw[show vG ⟨B,G,L,I⟩= .agg [bA B,bA G,zE iA L,zE iA I]from Z]at z;dsimp only at *;cases G
  ·(refine eM call232 λF hF=>?_)
   exact nl u
  cases B
  case true=>
   refine eM call232 λF hF=>?_
   exact nl u
  by_cases A:c=1
  .rw[zAs ⟨rfl,rfl,A⟩];refine eM call232 λF hF=>?_
   exact nl u
  .rw[Os (λh=>A h.2.2)];refine eM call232 λF hF=>?_
   exact nl u
def Gv (g:Lg) (v:List Vw) (f4:Int) (V:ln v<=1000) (hb:∀w∈v,ln w.co<=1000):zN 200 [yO g,zE vG v,iA f4] [] (iA (Ri g v f4)) []:=by
 have u:=Tf g f4;have S:=zA vG v;have hb:∀w,(v.map vG)[g.jn.toNat]? =some (vG w)->(w.co.map iA).length=ln w.co:=λw _=>zA iA w.co
 unfold yO at *;refine ta (Q:=λr=>zN 200 [.agg [iA g.jn,iA g.ph,iA g.fr,iA g.to,iA g.sc],zE vG v,iA f4] [] (iA r) []) g v f4 (λh1=>?_) (λh1 h2=>?_) (λh1 h2 C=>?_) (λw h1 h2 C z M=>?_) (λw h1 h2 C z M O=>?_) (λw c h1 h2 C z M O U=>?_)
 .rw[h1]at u;refine eM call200 λF hF=>?_
  exact nl u
 .rw[h1]at u;refine eM call200 λF hF=>?_
  exact nl u
 .rw[h1]at u;refine eM call200 λF hF=>?_
  exact nl u
 .rw[h1]at u;unfold vG at z;refine eM call200 λF hF=>?_
  exact nl u
 .rw[h1]at u;have E:=hb w z;unfold vG zE at z;refine eM call200 λF hF=>?_
  exact nl u
 .rw[h1]at u;have E:=hb w z;clear hb;obtain⟨B,G,L,I⟩:=w;rw[show vG ⟨B,G,L,I⟩= .agg [bA B,bA G,zE iA L,zE iA I]from Z]at z;dsimp only at *;cases G
  ·(refine eM call200 λF hF=>?_)
   exact nl u
  cases B
  case true=>
   refine eM call200 λF hF=>?_
   exact nl u
  by_cases A:c=1
  .rw[zAs ⟨rfl,rfl,A⟩];refine eM call200 λF hF=>?_
   exact nl u
  .rw[Os (λh=>A h.2.2)];refine eM call200 λF hF=>?_
   exact nl u
def Jd (l:List Rq) (v:List Vw) (f4:Int) (i:Nat):Int:=if i/3<ln l/\i % 3<(l.getD (i/3) dd).legs.length then Ri ((l.getD (i/3) dd).legs.getD (i % 3) dd) v f4 else 0
def TX (l:List Rq) (v:List Vw) (f4:Int) (n:Nat):List Int:=(py n).map (Jd l v f4)
def ia (l:List Rq) (v:List Vw) (f4:Int) (N i:Nat):List Int:=(py N).map λj=>if j<i then Jd l v f4 j else 0
def jg (l:List Rq) (v:List Vw) (f4:Int) (N i:Nat):(ia l v f4 N i).length=N:=by simp[ia]
def Cp (l:List Rq) (v:List Vw) (f4:Int) (N:Nat):(ia l v f4 N 0).map yA=pi N (yA 0):=by
 apply zB2;intro j;unfold ia;rw[zA1,zA1,zC9];by_cases hj:j<N
 .rw[zCn hj,zAs hj];simp
 .rw[zB6 qB,Os hj];rfl
def Id (l:List Rq) (v:List Vw) (f4:Int) (N k j:Nat):((ia l v f4 N k).map yA)[j]? =if j<N then some (yA (if j<k then Jd l v f4 j else 0))else none:=by
 unfold ia;rw[zA1,zA1];by_cases hj:j<N
 .rw[zCn hj,zAs hj];rfl
 .rw[zB6 qB,Os hj];rfl
def Bp (l:List Rq) (v:List Vw) (f4:Int) (N i:Nat) (hi:i<N):(ia l v f4 N (i+1)).map yA=((ia l v f4 N i).map yA).set i (yA (Jd l v f4 i)):=by
 apply zB2;intro j;rw[zD1,Id,Id,zAt,jg];by_cases u:i=j
 .subst u;rw[zAs hi,zAs Z,zAs hi,zAs (Nat.lt_succ_self i)]
 .rw[Os u];by_cases hj:j<N
  .rw[zAs hj,zAs hj];by_cases h2:j<i
   .rw[zAs zB,zAs h2]
   .rw[Os zB,Os h2]
  .rw[Os hj,Os hj]
def Fv (l:List Rq) (v:List Vw) (f4:Int) (N:Nat):ia l v f4 N N=TX l v f4 N:=by
 unfold ia TX;apply List.map_congr_left;intro j hj;rw[zAs (zBj.1 hj)]
def Ap (l:List Rq) (v:List Vw) (f4:Int) (n:Nat):(TX l v f4 (n+1)).map yA=(TX l v f4 n).map yA++[yA (Jd l v f4 n)]:=by
 unfold TX;rw[zCt];simp
theorem Dv (l:List Rq) (q:Nat) (v:List Vw) (f4:Int) (hq:q<=1000) (hl:ln l<=1000) (C:∀r∈l,ln r.legs<=1000) (V:ln v<=1000) (hb:∀w∈v,ln w.co<=1000):
  zN 182 [zE zY l,iA q,zE vG v,iA f4] [] (zE yA (TX l v f4 (q*3))) []:=by
 have S:=zA zY l;by_cases G:q=0
 .subst G;refine eM call182 λF hF=>?_
  exact mx
 have B:=Cp l v f4 (q*3);have ac:=zA vG v;refine eM call182 λF hF=>?_
 refine WW ?_;have L:q*3<=3000:=by omega
 generalize q*3=N at *;refine zO (N) [21] [] [0,2,3,9,23] [24,0,2,3,9,23] Z (λi T U=>⟨(24,iA i)::T,(21,.arr 1 ((ia l v f4 N i).map yA) false)::U⟩) ?_;(conv=>whnf);refine⟨by(rw[B];rfl),?_,?_⟩
 .intro i hi;have Y:(i:Int).tdiv 3=((i/3:Nat):Int):=by rw[zCw zB];omega
  have hk:(i:Int).tmod 3=((i % 3:Nat):Int):=by rw[zB3 zB];omega
  have O:aD .i64 ((i:Int).tdiv 3):=⟨by show -9223372036854775808<=_;omega,by show _<=9223372036854775807;omega⟩;have W:((ia l v f4 N i).map yA).length=N:=by rw[zAt,jg]
  have e:=Bp l v f4 N i hi;rw[e];have au:((ia l v f4 N i).map yA)[i]? =some (yA (if i<i then Jd l v f4 i else 0)):=by rw[Id,zAs hi]
  have A:∀y:AV,(((ia l v f4 N i).map yA).set i y)[i]? =some y:=λy=>zBs zB
  by_cases hr1:i/3<ln l
  .have hy:(l.map zY)[((i:Int).tdiv 3).toNat]? =some (zY (l.getD (i/3) dd)):=by rw[Y];exact zJ zY l _ hr1
   have ag:(l.getD (i/3) dd).legs.length<=1000:=C _ Rx;have ap:=zA yO (l.getD (i/3) dd).legs
   have z:Jd l v f4 i=if i % 3<(l.getD (i/3) dd).legs.length then Ri ((l.getD (i/3) dd).legs.getD (i % 3) dd) v f4 else 0:=by
    unfold Jd;by_cases h:i % 3<(l.getD (i/3) dd).legs.length
    .rw[zAs ⟨hr1,h⟩,zAs h]
    .rw[Os (λI=>h I.2),Os h]
   rw[z];clear e z B;generalize l.getD (i/3) dd=x at *;unfold zY zE at hy;by_cases u:i % 3<ln x.legs
   .have ar:(x.legs.map yO)[((i:Int).tmod 3).toNat]? =some (yO (x.legs.getD (i % 3) dd)):=by rw[hk];exact zJ yO x.legs _ u
    have E:=Q4 (x.legs.getD (i % 3) dd) v f4 V hb;have M:=Ld (x.legs.getD (i % 3) dd) v f4;rw[zAs u];generalize Ri (x.legs.getD (i % 3) dd) v f4=c at *;generalize x.legs.getD (i % 3) dd=g at *;generalize (ia l v f4 N i).map yA=xs at*
    (have gd:=E;(repeat' (first|refine WTR ?_|apply yW|apply xH|intro hc|(apply zG;first|(apply dX;refine Dc tok Z Z Z (A _) Z Z Z Z Z Z Z Z ?_)|refine SM ?_)|refine SB ?_|fail))<;>clear gd)
    refine zBd (St.mk _) ?_
    show [(21,xW.arr 1 ((xs.set i _).set i _) _)]=_
    rw[zE4];rfl
   .rw[Os u];generalize (ia l v f4 N i).map yA=xs at *;refine WW ?_;rfl
  .have z:Jd l v f4 i=0:=by unfold Jd;rw[Os (λh=>hr1 h.1)]
   rw[z];clear e z B;generalize (ia l v f4 N i).map yA=xs at *;refine WW ?_;rfl
 .rw[Fv];refine WW ?_;refine zI [] Z Z ?_ Z;exact zBd (AV.sl false) (zA2 (by simp[TX]))
def xq (l:List Rq) (q:Nat) (v:List Vw) (f4:Int) (Y:q<=1000) (hl:ln l<=1000) (A:∀r∈l,ln r.legs<=1000) (M:ln v<=1000) (hb:∀w∈v,ln w.co<=1000):
  zN 139 [zE zY l,iA q,zE vG v,iA f4] [] (zE yA (TX l v f4 (q*3))) []:=by
 have I:=zA zY l;refine eM call139 λF hF=>?_
 refine WW ?_;refine zQ 9 1001 1 Z Z Z ?_;refine zO (q) [1001] [] [0,2,3,13] [9,14,0,2,3,13] Z (λi T U=>⟨(9,.ref 1001 0 ((TX l v f4 (i*3)).map yA).length)::(14,iA i)::T,(1001,.arr 1 ((TX l v f4 (i*3)).map yA) true)::U⟩) (Lq ?_ ?_)
 .intro r hr;refine WW ?_;refine zO (3) [1001] [] [0,2,3,10,13,14] [9,17,0,2,3,10,13,14] Z (λi T U=>⟨(9,.ref 1001 0 ((TX l v f4 (r*3+i)).map yA).length)::(17,iA i)::T,(1001,.arr 1 ((TX l v f4 (r*3+i)).map yA) true)::U⟩) (Lq ?_ ?_)
  .intro k hk;have e:=Ap l v f4 (r*3+k);have O:((TX l v f4 (r*3+k)).map yA).length<=4000:=by simp[TX];omega
   rw[show r*3+(k+1)=r*3+k+1 from Z,e];have e3:(r*3+k)/3=r:=by omega
   have C:(r*3+k) % 3=k:=by omega
   by_cases hr1:r<ln l
   .have V:=zJ zY l r hr1;have L:(l.getD r dd).legs.length<=1000:=A _ Rx
    have z:Jd l v f4 (r*3+k)=if k<(l.getD r dd).legs.length then Ri ((l.getD r dd).legs.getD k dd) v f4 else 0:=by
     unfold Jd;rw[e3,C];by_cases h:k<(l.getD r dd).legs.length
     .rw[zAs ⟨hr1,h⟩,zAs h]
     .rw[Os (λE=>h E.2),Os h]
    rw[z];clear e z;generalize l.getD r dd=x at *;have S:=zA yO x.legs;unfold zY zE at V;by_cases u:k<ln x.legs
    .have W:=zJ yO x.legs k u;have B:=Gv (x.legs.getD k dd) v f4 M hb;have G:=Ld (x.legs.getD k dd) v f4;rw[zAs u];generalize Ri (x.legs.getD k dd) v f4=c at *;generalize x.legs.getD k dd=g at *;generalize (TX l v f4 (r*3+k)).map yA=xs at *;refine zS B ?_;rfl
    .rw[Os u];generalize (TX l v f4 (r*3+k)).map yA=xs at *;refine WW ?_;rfl
   .have z:Jd l v f4 (r*3+k)=0:=by unfold Jd;rw[Os (λh=>hr1 zB)]
    rw[z];clear e z;generalize (TX l v f4 (r*3+k)).map yA=xs at *;refine WW ?_;rfl
  .rw[show r*3+3=(r+1)*3 by omega];refine WW ?_;rfl
 ·(refine WW ?_)
  refine zI [] Z Z ?_ Z;exact zBd (AV.sl false) zAv
def Cv (f4:Int) (v:List Vw) (b:List Int):Ms:=⟨17,[],[f4],XS v++b⟩
def P4 (f4:Int) (v:List Vw) (b:List Int) (A:ln v<=1000) (hb:∀w∈v,ma w) (hl:ln b<=10000):zN 183 [iA f4,zE vG v,zE yA b] [] (zX (Cv f4 v b)) []:=by
 have C:=Dp v A hb;have h1:=cY hb;have B:=zA yA (XS v);have u:=zA yA b;rw[show zX (Cv f4 v b)= .agg [iA 17,.sl false [],.sl false [iA f4],.sl false ((XS v).map yA++b.map yA)] by unfold Cv zX zE;rw[zA0];rfl];generalize (XS v).map yA=xs at *;refine eM call183 λF hF=>?_
 refine VX C ?_;refine zI [] Z Z ?_ Z;exact zBd (λz=>AV.agg [iA 17,AV.sl false [],AV.sl false [iA f4],AV.sl false z]) zAv
def Bv (f4:Int) (v:List Vw) (b:List Int) (A:ln v<=1000) (hb:∀w∈v,ma w) (hl:ln b<=10000):zN 138 [iA f4,zE vG v,zE yA b] [] (zX (Cv f4 v b)) []:=by
 have C:=qg v A hb;have h1:=cY hb;have B:=zA yA (XS v);have u:=zA yA b;rw[show zX (Cv f4 v b)= .agg [iA 17,.sl false [],.sl false [iA f4],.sl false ((XS v).map yA++b.map yA)] by unfold Cv zX zE;rw[zA0];rfl];generalize (XS v).map yA=xs at *;refine eM call138 λF hF=>?_
 refine VX C ?_;refine zI [] Z Z ?_ Z;exact zBd (λz=>AV.agg [iA 17,AV.sl false [],AV.sl false [iA f4],AV.sl false z]) zAv
def KS (d:wC) (v:List Vw) (f4:Int):Ms:=Cv f4 v (TX d.rq v f4 (d.rg.ag.req.toNat*3))
def wq (d:wC) (hd:dN d) (C:0<=d.rg.ag.req/\d.rg.ag.req<=4) (v:List Vw) (f4:Int) (z:ln v<=1000) (hb:∀w∈v,ma w):zN 120 [zM d,zE vG v,iA f4] [] (zX (KS d v f4)) []:=by
 have u:=Dv d.rq d.rg.ag.req.toNat v f4 zB hd.q hd.g z (λw B=>zBx (hb w B).n yY);rw[show((d.rg.ag.req.toNat:Nat):Int)=d.rg.ag.req by omega]at u;have A:=P4 f4 v (TX d.rq v f4 (d.rg.ag.req.toNat*3)) z hb (by simp[TX];omega);unfold KS;generalize TX d.rq v f4 (d.rg.ag.req.toNat*3)=cs at *;unfold zX at *;unfold zM xD;generalize XS v=E at *;refine eM call120 λF hF=>?_
 exact ng (xQ u A)
def Qi (d:wC) (hd:dN d) (C:0<=d.rg.ag.req/\d.rg.ag.req<=4) (v:List Vw) (f4:Int) (z:ln v<=1000) (hb:∀w∈v,ma w):zN 61 [zM d,zE vG v,iA f4] [] (zX (KS d v f4)) []:=by
 have u:=xq d.rq d.rg.ag.req.toNat v f4 zB hd.q hd.g z (λw B=>zBx (hb w B).n yY);rw[show((d.rg.ag.req.toNat:Nat):Int)=d.rg.ag.req by omega]at u;have A:=Bv f4 v (TX d.rq v f4 (d.rg.ag.req.toNat*3)) z hb (by simp[TX];omega);unfold KS;generalize TX d.rq v f4 (d.rg.ag.req.toNat*3)=cs at *;unfold zX at *;unfold zM xD;generalize XS v=E at *;refine eM call61 λF hF=>?_
 exact ng (xQ u A)
def O4 (n:Nat):Vw:=⟨true,false,pi n 0,pi n 0⟩
def M7 {n:Nat} (h:n<=8):ma (O4 n):=⟨by simp[O4];exact h,by simp[O4];exact h,λc hc=>by
 have:=(zEp.1 hc).2
 omega⟩
def zw (j:Jn) (h:ln j.ph<=8):zN 76 [wD j] [] (vG (O4 (ln j.ph))) []:=by
 have hl:=zA xN j.ph;have u:∀n,(pi n (0:Int)).map iA=pi n (iA 0):=λn=>by simp
 rw[show vG (O4 (ln j.ph))= .agg [bA true,bA false,.sl false (pi (ln j.ph) (iA 0)),.sl false (pi (ln j.ph) (iA 0))] by unfold O4 vG zE;rw[u]];rw[<-hl];unfold wD zE;generalize j.ph.map xN=P at *;refine eM call76 λF hF=>?_
 refine WW ?_;refine zI [] Z Z ?_ Z
 show AV.agg [bA true,bA false,.sl false (p5 (ln P) (qd 0 (pi (ln P) (iA 0)))),.sl false (p5 (ln P) (qd 0 (pi (ln P) (iA 0))))]=_
 rw[zBf,zA2 zV]
