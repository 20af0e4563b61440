/- Part 20. -/
import Derived.Test.YtaglbcjljlkjcaaGreatT19
namespace Go.Proofs.YtaglbcjljlkjcaaGreat.Av
open Tryz
set_option linter.all false
set_option maxRecDepth 4000
set_option maxHeartbeats 8000000
open List renaming length->ln,replicate->oj,range->pb,take->pi,drop->py,getD->p5
open Inhabited renaming default->dd
def Fp:List AV:=[iA 0,.s (.slice none 0 0),iA 0,iA 0,.s (.slice none 0 0),iA 0,iA 0,iA 0,iA 0,.s (.slice none 0 0),.s (.slice none 0 0),iA 0,iA 0,iA 0,.s (.slice none 0 0),.s (.slice none 0 0),.s (.slice none 0 0)]
theorem Mi {c:Cf} {d:wD} (hI:qC c d) (u:List In) (b0:ln u<=1000) (az:∀i∈u,Fy i) (f3:Int) (n0:0<=f3) (n1:f3<=1073741824) (z:Nat->SS) (ap:z 0=⟨mq d u,[],[],[]⟩) (hn:ln d.au=1) (hm:1<=ln u)
  (hz:∀s,EZ c (mq d u) (z s).d/\((z s).R.length=s/\(z s).en.length<=1000*s/\(z s).ks.length<=1000*s/\∀x∈(z s).ks,0<=x/\x<(ln c.js:Int))/\pw c f3 u s (z s) (z (s+1))):
  zM 115 [wH c,zN d,zE uT u,iA f3] [] (sw (lw (z 1).d f3) (z 1).R (z 1).en (z 1).ks) []:=by
 have kc:=LJ d hI.bd zB;have av:(d.au.map bA).length=1:=by rw[zA5,hn]
 have bf:=zA uT u;have km:=Lo (z 1).d.rq f3 (hz 1).1.i.v;have O:wH c= .agg [.sl false (c.js.map wK),.sl false (c.ags.map uK),iA c.per,iA c.cap,iA c.hold,iA c.lock]:=rfl;rw[O];unfold XW zN xD at kc;have e0:=qN (QK u) d.au;have a1:(min ((u.map uT).length:Int) ((d.au.map bA).length:Int)).toNat=1:=by omega
 have a5:((u.take 1).map uT).length=1:=by rw[zA5,zBt];omega
 have I:∀s,s<1->((u.take 1).map uT)[s]? =some (uT (u.getD s dd)):=λs hs=>by
  rw[zBd,zCu,zA4 hs,zBk,zB2 zB];rfl
 obtain⟨br,⟨bs,bu,bx,_⟩,io,S,ac,a2,ag⟩:=hz 0;have L:=I 0 zB;refine eM call115 λF hF=>?_
 refine zU kc ?_;rw[a1,av];refine zO (1) [1004,4,5,8,28] [4,5,8,28] [2,3,4,5,8,12,13,14,39] [40,9,10,2,3,4,5,8,12,13,14,39] Z (λi T U=>⟨(40,iA i)::(9,.s (.slice none 0 0))::(10,.s (.slice none 0 0))::T,(1004,.arr 1 ((ZA (QK u) d.au i).map bA) false)::U⟩) ?_;(conv=>whnf);refine⟨by(rw[e0];rfl),?_,?_⟩
 .intro i hi;have a7:((ZA (QK u) d.au i).map bA)[i]? =some (bA (d.au.getD i dd)):=by rw[zBd,vY,zA4 zB,Os (zD1 i)];rfl
  have ca:((ZA (QK u) d.au i).map bA).length=1:=by rw[zA5,vC,hn]
  rw[vP bA (QK u) d.au i zB];have G:=YL a7;clear kc km;generalize (ZA (QK u) d.au i).map bA=xs,d.au.getD i dd=b9 at *;unfold QK;by_cases h1:i<1
  .have hy:=I i h1;have a3:i<ln u:=by omega
   generalize u.getD i dd=x at *;obtain⟨op,A⟩:=x;rw[show uT ⟨op,A⟩= .agg [bA op,zE vQ A]from Z]at hy;cases op
   .rw[Os (λh=>by cases h.2)];refine WW ?_;rfl
   .rw[zA4 ⟨a3,rfl⟩,G];refine WW ?_;rfl
  .rw[Os (λh=>by omega)];refine WW ?_;rfl
 ·(refine WW ?_)
  refine wL [4,5,8,28] [2,3,4,5,8,9,10,12,13,14,61,62] Z ?_
  (conv=>whnf)
  rw[tq (by omega:ln d.au=1),show ZA (QK u) d.au 1=Gi u d.au by unfold Gi;rw[hn],a5];refine zS 13 1002 3 Z Z Z ?_;refine zS 14 1003 1 Z Z Z ?_;refine zS 9 1006 4 Z Z Z ?_;refine AK 28 Z ?_;refine VU 28 0 1006 Z Z Z Z Z ?_;refine wC 2 [5,28,1002,1003,1006,4,8] [13,14,62,2,3,4,5,8,12,61] Z ?_;refine yC (st0:=⟨[(13,.ref 1002 0 ((z 0).en.map kF).length),(14,.ref 1003 0 ((z 0).ks.map iA).length),(62,iA 0),(2,.sl false ((u.take 1).map uT)),(3,iA f3),(4,.ptr 4 0 0),(5,.ptr 5 0 0),(8,.ptr 8 0 0),(12,.ref 28 0 1),(61,iA 1)],[(5,.box (YJ (z 0).d)),(28,.arr 1 [.ref 1006 0 ([]:List AV).length] ⟨false,true⟩),(1002,.arr 3 ((z 0).en.map kF) true),(1003,.arr 1 ((z 0).ks.map iA) true),(1006,.arr 4 ([]:List AV) true),(4,.box [.sl false (c.js.map wK),.sl false (c.ags.map uK),iA c.per,iA c.cap,iA c.hold,iA c.lock]),(8,.box Fp)]⟩) (by rw[ap];rfl) ?_;obtain⟨r0,C⟩:∃r,r=(io (dJ u 0).length).rs:=⟨_,rfl⟩;have ar:(z 1).R=(z 0).R++[r0]:=by rw[C,ag]
  have q0:(z 1).d=(io (dJ u 0).length).d/\(z 1).en=(io (dJ u 0).length).en/\(z 1).ks=(io (dJ u 0).length).ks:=by rw[ag];exact⟨rfl,rfl,rfl⟩
  have a9:=zA kF (z 0).en;have ba:=zA iA (z 0).ks;by_cases Y:(u.getD 0 dd).opn=true
  case' pos=>
   have B:dJ u 0=(u.getD 0 dd).its:=by unfold dJ;rw[zA4 ⟨zB,Y⟩]
   have ax:=(IX az 0).1;rw[B]at ax q0 ac C;clear B;generalize u.getD 0 dd=x at *;obtain⟨op,A⟩:=x;dsimp only at *;subst Y;rw[show uT ⟨true,A⟩= .agg [bA true,zE vQ A]from Z]at L;have bb:=zA vQ A;refine WW ?_;refine zQ (A) [5,1002,1003,28,1006,4,8] [4,8] [2,3,4,5,8,12,16,61,62,75,76] [13,14,77,2,3,4,5,8,12,16,61,62,75,76] Z (λi f4 T U=>⟨(13,.ref 1002 0 ((io i).en.map kF).length)::(14,.ref 1003 0 ((io i).ks.map iA).length)::(77,iA i)::T,(5,.box (YJ (io i).d))::(1002,.arr 3 ((io i).en.map kF) true)::(1003,.arr 1 ((io i).ks.map iA) true)::(28,.arr 1 [.ref 1006 0 ((io i).rs.map zX).length] ⟨false,true⟩)::(1006,.arr 4 ((io i).rs.map zX) true)::U⟩) ?_;(conv=>whnf);refine⟨by(rw[S];rfl),?_,?_⟩
   .intro k f4 it post hx hk;have a6:=zZ vQ hx hk;have V:=zV hx hk;have E:A.getD k dd=it:=by rw[hx,<-hk];simp[p5]
    obtain⟨h,hB,hP,W⟩:=ac k V;rw[E]at hB;obtain⟨b1,b2,b3,b4⟩:=a2 k;have b6:=zA kF (io k).en;have b7:=zA iA (io k).ks;have b8:=zA zX (io k).rs;have M:=hB.1;rw[W];dsimp only;rw[show((io k).rs++[h.p]).map zX=(io k).rs.map zX++[zX h.p] by simp,show∀e:En,((io k).en++[e]).map kF=(io k).en.map kF++[kF e]from λe=>by simp,E];rw[O]at M;unfold DA zN xD vQ at M;unfold vQ at a6;have bz:(z 0).en.length<=2000/\(z 0).ks.length<=2000:=by omega
    clear hx E W hB hP I kc km;generalize (io k).rs.map zX=cb,(io k).en.map kF=bl,h.p=p9,h.e=e9,h.d=d9 at *;generalize b5:h.k=k9 at *;generalize (io k).d=bk at *;obtain⟨pk,pt,pa,pd⟩:=p9;unfold zX OM at M;dsimp only at M;unfold YJ kF OM zX;by_cases h0:0<=k9
    .rw[zA4 h0,show((io k).ks++[k9]).map iA=(io k).ks.map iA++[iA k9] by simp];generalize (io k).ks.map iA=a8 at *;refine zU M ?_;rfl
    .rw[Os h0];generalize (io k).ks.map iA=a8 at *;refine zU M ?_;rfl
   obtain⟨w1,w2,w3⟩:=q0;refine WW ?_
  case' neg=>
   have B:dJ u 0=[]:=by unfold dJ;rw[Os (λh=>Y h.2)]
   rw[B,zCb,S]at q0 C;obtain⟨w1,w2,w3⟩:=q0;have a4:(u.getD 0 dd).opn=false:=by simpa using Y
   clear B Y;generalize u.getD 0 dd=x at *;obtain⟨op,A⟩:=x;dsimp only at *;subst a4;rw[show uT ⟨false,A⟩= .agg [bA false,zE vQ A]from Z]at L;refine WW ?_
  all_goals clear L a9 ba
  all_goals
   refine yC (st0:=⟨[(13,.ref 1002 0 ((z 1).en.map kF).length),(14,.ref 1003 0 ((z 1).ks.map iA).length),(62,iA 1),(2,.sl false ((u.take 1).map uT)),(3,iA f3),(4,.ptr 4 0 0),(5,.ptr 5 0 0),(8,.ptr 8 0 0),(12,.ref 28 0 1),(61,iA 1)],[(5,.box (YJ (z 1).d)),(28,.arr 1 [.ref 1006 0 (r0.map zX).length] ⟨false,true⟩),(1002,.arr 3 ((z 1).en.map kF) true),(1003,.arr 1 ((z 1).ks.map iA) true),(1006,.arr 4 (r0.map zX) true),(4,.box [.sl false (c.js.map wK),.sl false (c.ags.map uK),iA c.per,iA c.cap,iA c.hold,iA c.lock]),(8,.box Fp)]⟩) (by rw[w1,w2,w3,C];rfl) ?_;refine zU km ?_;refine zI [] Z Z ?_ Z
   show AV.tup [zN (lw (z 1).d f3),.sl false [.sl false (pi _ (py 0 (r0.map zX)))],.sl false (pi _ (py 0 ((z 1).en.map kF))),.sl false (pi _ (py 0 ((z 1).ks.map iA)))]=_
   simp only[zBr,zA8];unfold sw;rw[ar,ap];rfl
theorem Ki {c:Cf} {d:wD} (hI:qC c d) (u:List In) (cm:ln u<=1000) (a5:∀i∈u,Fy i) (f3:Int) (n0:0<=f3) (n1:f3<=1073741824) (z:Nat->SS) (ba:z 0=⟨mq d u,[],[],[]⟩) (hn:ln d.au=2) (hm:2<=ln u)
  (hz:∀s,EZ c (mq d u) (z s).d/\((z s).R.length=s/\(z s).en.length<=1000*s/\(z s).ks.length<=1000*s/\∀x∈(z s).ks,0<=x/\x<(ln c.js:Int))/\pw c f3 u s (z s) (z (s+1))):
  zM 115 [wH c,zN d,zE uT u,iA f3] [] (sw (lw (z 2).d f3) (z 2).R (z 2).en (z 2).ks) []:=by
 have kc:=LJ d hI.bd zB;have br:(d.au.map bA).length=2:=by rw[zA5,hn]
 have cd:=zA uT u;have km:=Lo (z 2).d.rq f3 (hz 2).1.i.v;have V:wH c= .agg [.sl false (c.js.map wK),.sl false (c.ags.map uK),iA c.per,iA c.cap,iA c.hold,iA c.lock]:=rfl;rw[V];unfold XW zN xD at kc;have e0:=qN (QK u) d.au;have b1:(min ((u.map uT).length:Int) ((d.au.map bA).length:Int)).toNat=2:=by omega
 have ca:((u.take 2).map uT).length=2:=by rw[zA5,zBt];omega
 have M:∀s,s<2->((u.take 2).map uT)[s]? =some (uT (u.getD s dd)):=λs hs=>by
  rw[zBd,zCu,zA4 hs,zBk,zB2 zB];rfl
 obtain⟨ce,⟨cg,ci,ck,_⟩,io,a2,a6,b3,a8⟩:=hz 0;have ap:=M 0 zB;obtain⟨cf,⟨ch,cj,cl,_⟩,kh,a3,a7,b4,a9⟩:=hz 1;have ar:=M 1 zB;refine eM call115 λF hF=>?_
 refine zU kc ?_;rw[b1,br];refine zO (2) [1004,4,5,8,28] [4,5,8,28] [2,3,4,5,8,12,13,14,39] [40,9,10,2,3,4,5,8,12,13,14,39] Z (λi T U=>⟨(40,iA i)::(9,.s (.slice none 0 0))::(10,.s (.slice none 0 0))::T,(1004,.arr 1 ((ZA (QK u) d.au i).map bA) false)::U⟩) ?_;(conv=>whnf);refine⟨by(rw[e0];rfl),?_,?_⟩
 .intro i hi;have cb:((ZA (QK u) d.au i).map bA)[i]? =some (bA (d.au.getD i dd)):=by rw[zBd,vY,zA4 zB,Os (zD1 i)];rfl
  have cn:((ZA (QK u) d.au i).map bA).length=2:=by rw[zA5,vC,hn]
  rw[vP bA (QK u) d.au i zB];have ag:=YL cb;clear kc km;generalize (ZA (QK u) d.au i).map bA=xs,d.au.getD i dd=b9 at *;unfold QK;by_cases h1:i<2
  .have hy:=M i h1;have b5:i<ln u:=by omega
   generalize u.getD i dd=x at *;obtain⟨op,A⟩:=x;rw[show uT ⟨op,A⟩= .agg [bA op,zE vQ A]from Z]at hy;cases op
   .rw[Os (λh=>by cases h.2)];refine WW ?_;rfl
   .rw[zA4 ⟨b5,rfl⟩,ag];refine WW ?_;rfl
  .rw[Os (λh=>by omega)];refine WW ?_;rfl
 ·(refine WW ?_)
  refine wL [4,5,8,28] [2,3,4,5,8,9,10,12,13,14,61,62] Z ?_
  (conv=>whnf)
  rw[tq (by omega:ln d.au=2),show ZA (QK u) d.au 2=Gi u d.au by unfold Gi;rw[hn],ca];refine zS 13 1002 3 Z Z Z ?_;refine zS 14 1003 1 Z Z Z ?_;refine zS 9 1006 4 Z Z Z ?_;refine zS 10 1007 4 Z Z Z ?_;refine AK 28 Z ?_;refine VU 28 0 1006 Z Z Z Z Z ?_;refine VU 28 1 1007 Z Z Z Z Z ?_;refine wC 3 [5,28,1002,1003,1006,1007,4,8] [13,14,62,2,3,4,5,8,12,61] Z ?_;refine yC (st0:=⟨[(13,.ref 1002 0 ((z 0).en.map kF).length),(14,.ref 1003 0 ((z 0).ks.map iA).length),(62,iA 0),(2,.sl false ((u.take 2).map uT)),(3,iA f3),(4,.ptr 4 0 0),(5,.ptr 5 0 0),(8,.ptr 8 0 0),(12,.ref 28 0 2),(61,iA 2)],[(5,.box (YJ (z 0).d)),(28,.arr 1 [.ref 1006 0 ([]:List AV).length,.ref 1007 0 ([]:List AV).length] ⟨false,true⟩),(1002,.arr 3 ((z 0).en.map kF) true),(1003,.arr 1 ((z 0).ks.map iA) true),(1006,.arr 4 ([]:List AV) true),(1007,.arr 4 ([]:List AV) true),(4,.box [.sl false (c.js.map wK),.sl false (c.ags.map uK),iA c.per,iA c.cap,iA c.hold,iA c.lock]),(8,.box Fp)]⟩) (by rw[ba];rfl) ?_;obtain⟨r0,O⟩:∃r,r=(io (dJ u 0).length).rs:=⟨_,rfl⟩;have bk:(z 1).R=(z 0).R++[r0]:=by rw[O,a8]
  have q0:(z 1).d=(io (dJ u 0).length).d/\(z 1).en=(io (dJ u 0).length).en/\(z 1).ks=(io (dJ u 0).length).ks:=by rw[a8];exact⟨rfl,rfl,rfl⟩
  have az:=zA kF (z 0).en;have a1:=zA iA (z 0).ks;by_cases L:(u.getD 0 dd).opn=true
  case' pos=>
   have B:dJ u 0=(u.getD 0 dd).its:=by unfold dJ;rw[zA4 ⟨zB,L⟩]
   have Y:=(IX a5 0).1;rw[B]at Y q0 a6 O;clear B;generalize u.getD 0 dd=x at *;obtain⟨op,A⟩:=x;dsimp only at *;subst L;rw[show uT ⟨true,A⟩= .agg [bA true,zE vQ A]from Z]at ap;have a4:=zA vQ A;refine WW ?_;refine zQ (A) [5,1002,1003,28,1006,4,8,1007] [4,8,1007] [2,3,4,5,8,12,16,61,62,75,76] [13,14,77,2,3,4,5,8,12,16,61,62,75,76] Z (λi f4 T U=>⟨(13,.ref 1002 0 ((io i).en.map kF).length)::(14,.ref 1003 0 ((io i).ks.map iA).length)::(77,iA i)::T,(5,.box (YJ (io i).d))::(1002,.arr 3 ((io i).en.map kF) true)::(1003,.arr 1 ((io i).ks.map iA) true)::(28,.arr 1 [.ref 1006 0 ((io i).rs.map zX).length,.ref 1007 0 ([]:List AV).length] ⟨false,true⟩)::(1006,.arr 4 ((io i).rs.map zX) true)::U⟩) ?_;(conv=>whnf);refine⟨by(rw[a2];rfl),?_,?_⟩
   .intro k f4 it post S hk;have av:=zZ vQ S hk;have G:=zV S hk;have C:A.getD k dd=it:=by rw[S,<-hk];simp[p5]
    obtain⟨h,W,hP,I⟩:=a6 k G;rw[C]at W;obtain⟨bu,bx,bz,b0⟩:=b3 k;have b6:=zA kF (io k).en;have b7:=zA iA (io k).ks;have b8:=zA zX (io k).rs;have E:=W.1;rw[I];dsimp only;rw[show((io k).rs++[h.p]).map zX=(io k).rs.map zX++[zX h.p] by simp,show∀e:En,((io k).en++[e]).map kF=(io k).en.map kF++[kF e]from λe=>by simp,C];rw[V]at E;unfold DA zN xD vQ at E;unfold vQ at av;have bs:(z 0).en.length<=2000/\(z 0).ks.length<=2000:=by omega
    clear S C I W hP M kc km;generalize (io k).rs.map zX=cc,(io k).en.map kF=bf,h.p=p9,h.e=e9,h.d=d9 at *;generalize b2:h.k=k9 at *;generalize (io k).d=bb at *;obtain⟨pk,pt,pa,pd⟩:=p9;unfold zX OM at E;dsimp only at E;unfold YJ kF OM zX;by_cases h0:0<=k9
    .rw[zA4 h0,show((io k).ks++[k9]).map iA=(io k).ks.map iA++[iA k9] by simp];generalize (io k).ks.map iA=ax at *;refine zU E ?_;rfl
    .rw[Os h0];generalize (io k).ks.map iA=ax at *;refine zU E ?_;rfl
   obtain⟨w1,w2,w3⟩:=q0;refine WW ?_
  case' neg=>
   have B:dJ u 0=[]:=by unfold dJ;rw[Os (λh=>L h.2)]
   rw[B,zCb,a2]at q0 O;obtain⟨w1,w2,w3⟩:=q0;have ac:(u.getD 0 dd).opn=false:=by simpa using L
   clear B L;generalize u.getD 0 dd=x at *;obtain⟨op,A⟩:=x;dsimp only at *;subst ac;rw[show uT ⟨false,A⟩= .agg [bA false,zE vQ A]from Z]at ap;refine WW ?_
  all_goals clear ap az a1
  all_goals
   refine yC (st0:=⟨[(13,.ref 1002 0 ((z 1).en.map kF).length),(14,.ref 1003 0 ((z 1).ks.map iA).length),(62,iA 1),(2,.sl false ((u.take 2).map uT)),(3,iA f3),(4,.ptr 4 0 0),(5,.ptr 5 0 0),(8,.ptr 8 0 0),(12,.ref 28 0 2),(61,iA 2)],[(5,.box (YJ (z 1).d)),(28,.arr 1 [.ref 1006 0 (r0.map zX).length,.ref 1007 0 ([]:List AV).length] ⟨false,true⟩),(1002,.arr 3 ((z 1).en.map kF) true),(1003,.arr 1 ((z 1).ks.map iA) true),(1006,.arr 4 (r0.map zX) true),(1007,.arr 4 ([]:List AV) true),(4,.box [.sl false (c.js.map wK),.sl false (c.ags.map uK),iA c.per,iA c.cap,iA c.hold,iA c.lock]),(8,.box Fp)]⟩) (by rw[w1,w2,w3,O];rfl) ?_;obtain⟨r1,hr1⟩:∃r,r=(kh (dJ u 1).length).rs:=⟨_,rfl⟩;have bl:(z 2).R=(z 1).R++[r1]:=by rw[hr1,a9]
   have q1:(z 2).d=(kh (dJ u 1).length).d/\(z 2).en=(kh (dJ u 1).length).en/\(z 2).ks=(kh (dJ u 1).length).ks:=by rw[a9];exact⟨rfl,rfl,rfl⟩
   have az:=zA kF (z 1).en;have a1:=zA iA (z 1).ks;by_cases L:(u.getD 1 dd).opn=true
   case' pos=>
    have B:dJ u 1=(u.getD 1 dd).its:=by unfold dJ;rw[zA4 ⟨zB,L⟩]
    have Y:=(IX a5 1).1;rw[B]at Y q1 a7 hr1;clear B;generalize u.getD 1 dd=x at *;obtain⟨op,A⟩:=x;dsimp only at *;subst L;rw[show uT ⟨true,A⟩= .agg [bA true,zE vQ A]from Z]at ar;have a4:=zA vQ A;refine WW ?_;refine zQ (A) [5,1002,1003,28,1007,4,8,1006] [4,8,1006] [2,3,4,5,8,12,16,61,62,75,76] [13,14,77,2,3,4,5,8,12,16,61,62,75,76] Z (λi f4 T U=>⟨(13,.ref 1002 0 ((kh i).en.map kF).length)::(14,.ref 1003 0 ((kh i).ks.map iA).length)::(77,iA i)::T,(5,.box (YJ (kh i).d))::(1002,.arr 3 ((kh i).en.map kF) true)::(1003,.arr 1 ((kh i).ks.map iA) true)::(28,.arr 1 [.ref 1006 0 (r0.map zX).length,.ref 1007 0 ((kh i).rs.map zX).length] ⟨false,true⟩)::(1007,.arr 4 ((kh i).rs.map zX) true)::U⟩) ?_;(conv=>whnf);refine⟨by(rw[a3];rfl),?_,?_⟩
    .intro k f4 it post S hk;have av:=zZ vQ S hk;have G:=zV S hk;have C:A.getD k dd=it:=by rw[S,<-hk];simp[p5]
     obtain⟨h,W,hP,I⟩:=a7 k G;rw[C]at W;obtain⟨bu,bx,bz,b0⟩:=b4 k;have b6:=zA kF (kh k).en;have b7:=zA iA (kh k).ks;have b8:=zA zX (kh k).rs;have E:=W.1;rw[I];dsimp only;rw[show((kh k).rs++[h.p]).map zX=(kh k).rs.map zX++[zX h.p] by simp,show∀e:En,((kh k).en++[e]).map kF=(kh k).en.map kF++[kF e]from λe=>by simp,C];rw[V]at E;unfold DA zN xD vQ at E;unfold vQ at av;have bs:(z 1).en.length<=2000/\(z 1).ks.length<=2000:=by omega
     clear S C I W hP M kc km;generalize (kh k).rs.map zX=cc,(kh k).en.map kF=bf,h.p=p9,h.e=e9,h.d=d9 at *;generalize b2:h.k=k9 at *;generalize (kh k).d=bb at *;obtain⟨pk,pt,pa,pd⟩:=p9;unfold zX OM at E;dsimp only at E;unfold YJ kF OM zX;by_cases h0:0<=k9
     .rw[zA4 h0,show((kh k).ks++[k9]).map iA=(kh k).ks.map iA++[iA k9] by simp];generalize (kh k).ks.map iA=ax at *;refine zU E ?_;rfl
     .rw[Os h0];generalize (kh k).ks.map iA=ax at *;refine zU E ?_;rfl
    obtain⟨w1,w2,w3⟩:=q1;refine WW ?_
   case' neg=>
    have B:dJ u 1=[]:=by unfold dJ;rw[Os (λh=>L h.2)]
    rw[B,zCb,a3]at q1 hr1;obtain⟨w1,w2,w3⟩:=q1;have ac:(u.getD 1 dd).opn=false:=by simpa using L
    clear B L;generalize u.getD 1 dd=x at *;obtain⟨op,A⟩:=x;dsimp only at *;subst ac;rw[show uT ⟨false,A⟩= .agg [bA false,zE vQ A]from Z]at ar;refine WW ?_
   all_goals clear ar az a1
   all_goals
    refine yC (st0:=⟨[(13,.ref 1002 0 ((z 2).en.map kF).length),(14,.ref 1003 0 ((z 2).ks.map iA).length),(62,iA 2),(2,.sl false ((u.take 2).map uT)),(3,iA f3),(4,.ptr 4 0 0),(5,.ptr 5 0 0),(8,.ptr 8 0 0),(12,.ref 28 0 2),(61,iA 2)],[(5,.box (YJ (z 2).d)),(28,.arr 1 [.ref 1006 0 (r0.map zX).length,.ref 1007 0 (r1.map zX).length] ⟨false,true⟩),(1002,.arr 3 ((z 2).en.map kF) true),(1003,.arr 1 ((z 2).ks.map iA) true),(1006,.arr 4 (r0.map zX) true),(1007,.arr 4 (r1.map zX) true),(4,.box [.sl false (c.js.map wK),.sl false (c.ags.map uK),iA c.per,iA c.cap,iA c.hold,iA c.lock]),(8,.box Fp)]⟩) (by rw[w1,w2,w3,hr1];rfl) ?_;refine zU km ?_;refine zI [] Z Z ?_ Z
    show AV.tup [zN (lw (z 2).d f3),.sl false [.sl false (pi _ (py 0 (r0.map zX))),.sl false (pi _ (py 0 (r1.map zX)))],.sl false (pi _ (py 0 ((z 2).en.map kF))),.sl false (pi _ (py 0 ((z 2).ks.map iA)))]=_
    simp only[zBr,zA8];unfold sw;rw[bl,bk,ba];rfl
structure Vw where
 fl:Bool
 ov:Bool
 co:List Int
 cn:List Int
instance:Inhabited Vw:=⟨⟨false,false,[],[]⟩⟩
def vO (v:Vw):AV:= .agg [bA v.fl,bA v.ov,zE iA v.co,zE iA v.cn]
structure Ua (v:Vw):Prop where
 n:v.co.length<=8
 m:v.cn.length<=8
 c:∀c∈v.co,0<=c/\c<=2
def fW (n:Int):Int:=IntKind.u8.wrap n
def EG (a b:Bool):Int:=(if a=true then 1 else 0)+(if b=true then 2 else 0)
def vK (l:List Int):Nat->Int
 |0=>0
 |i+1=>vK l i+l.getD i 0*p2 (2*(i:Int))
def K9 (v:Vw):List Int:=[EG v.fl v.ov,vV (vK v.co (ln v.co)) 8,fW (vK v.co (ln v.co))]++v.cn.map fW
def XU (l:List Vw):List Int:=(l.map K9).flatten
def Ep (i:Nat):p2 (2*((i+1:Nat):Int))=p2 (2*(i:Int))*4:=by
 unfold p2;rw[show(2*((i+1:Nat):Int)).toNat=(2*(i:Int)).toNat+2 by omega,Int.pow_add];rfl
def fX (i:Nat) (h:i<=8):1<=p2 (2*(i:Int))/\p2 (2*(i:Int))<=65536:=by
 have:i=0\/i=1\/i=2\/i=3\/i=4\/i=5\/i=6\/i=7\/i=8:=by omega
 rcases this with rfl|rfl|rfl|rfl|rfl|rfl|rfl|rfl|rfl<;>decide
theorem OL {l:List Int} (h:∀c∈l,0<=c/\c<=2):∀i,i<=ln l->i<=8->0<=vK l i/\vK l i<p2 (2*(i:Int))
 |0,_,_=>by simp[vK,p2]
 | i+1,h1,h2=>by
  have A:=OL h i zB zB
  have u:l.getD i 0∈l:=by
   rw[zBk,zB2 zB];exact zEz _
  have hc:=h _ u;have z:=fX i zB;rw[Ep,vK];generalize l.getD i 0=c,p2 (2*(i:Int))=w at *;have:c=0\/c=1\/c=2:=by omega
  rcases this with rfl|rfl|rfl<;>omega
def f5 {n:Int} (u:0<=n) (h1:n<65536):0<=vV n 8/\vV n 8<=255:=by grind [vV]
def Ta (f4:List Vw) (v:Vw):(XU (f4++[v])).map yA=(XU f4).map yA++[yA (EG v.fl v.ov),yA (vV (vK v.co (ln v.co)) 8),yA (fW (vK v.co (ln v.co)))]++v.cn.map (λn=>yA (fW n)):=by
 unfold XU K9;simp
def cZ {l:List Vw} (h:∀v∈l,Ua v):(XU l).length<=11*ln l:=by
 unfold XU
 induction l with
 |nil=>simp
 |cons v l z=>
  have h1:=z λx u=>h x (by simp[u])
  have h2:=(h v zW).m
  grind [XU,List.flatten_cons,List.length_append,List.length_cons,K9,List.length_map,List.length_nil]
theorem Dp (l:List Vw) (hn:ln l<=1000) (hb:∀v∈l,Ua v):zM 124 [zE vO l] [] (.ref 1001 0 ((XU l).map yA).length) [(1001,.arr 1 ((XU l).map yA) true)]:=by
 have hl:=zA vO l;have ac:=cZ hb;refine eM call124 λF hF=>?_
 refine WW ?_;refine zS 3 1001 1 Z Z Z ?_;refine zQ (l) [1001] [] [13,14] [3,15,13,14] Z (λi f4 T U=>⟨(3,.ref 1001 0 ((XU f4).map yA).length)::(15,iA i)::T,(1001,.arr 1 ((XU f4).map yA) true)::U⟩) (Lq ?_ ?_)
 .intro i f4 v post hx hi;have hy:=zZ vO hx hi;have av:=zV hx hi;have hv:=hb v (yU hx);have ap:=cZ (l:=f4) (λw hw=>hb w (by rw[hx];simp[hw]));have az:((XU f4).map yA).length<=11000:=by rw[zA5];omega
  rw[Ta];clear hx ap ac;generalize (XU f4).map yA=xs at *;have ar:=zA iA v.co;have au:=zA iA v.cn;have C:=λk hk=>OL hv.c k hk (zB9 hk hv.n)
  have ag:=hv.n;have ax:=hv.m;obtain⟨fl,ov,A,Y⟩:=v;dsimp only at *;rw[show vO ⟨fl,ov,A,Y⟩= .agg [bA fl,bA ov,zE iA A,zE iA Y]from Z]at hy;have E:=C (ln A) (zBa _);have L:=fX (ln A) ag;have M:=f5 (n:=vK A (ln A)) E.1 zB
  cases fl<;>cases ov
  ·(refine WW ?_)
   refine zQ (A) [5,1001] [5,1001] [3,5,6,13,14,15,28,29] [7,8,30,3,5,6,13,14,15,28,29] Z (λi f4 T U=>⟨(7,iA (vK A i))::(8,iA (p2 (2*(i:Int))))::(30,iA i)::T,U⟩) (Lq ?_ ?_)
   .intro k z c B u hk;have I:=zZ iA u hk;have G:=zV u hk;have R:=hv.c c (yU u);have S:A.getD k 0=c:=by rw[u,<-hk];simp[p5]
    have O:=C k zB;have V:=fX k zB;have e1:vK A (k+1)=vK A k+c*p2 (2*(k:Int)):=by rw[vK,S]
    rw[e1,Ep];clear u C E L M e1 hv;generalize vK A k=s,p2 (2*(k:Int))=w at *;have:c=0\/c=1\/c=2:=by omega
    rcases this with rfl|rfl|rfl
    all_goals
     refine WW ?_;rfl
   .clear C hv;generalize vK A (ln A)=s at *;refine WW ?_;refine zQ (Y) [1001] [] [13,14,15,53,54] [3,55,13,14,15,53,54] Z (λi f4 T U=>⟨(3,.ref 1001 0 (xs++[yA (EG false false),yA (vV s 8),yA (fW s)]++f4.map (λn=>yA (fW n))).length)::(55,iA i)::T,(1001,.arr 1 (xs++[yA (EG false false),yA (vV s 8),yA (fW s)]++f4.map (λn=>yA (fW n))) true)::U⟩) ?_;(conv=>whnf);refine⟨by(simp only[zCx,zB1];rfl),?_,?_⟩
    .intro k z c B u hk;have I:=zZ iA u hk;have G:=zV u hk;have W:(z.map (λn=>yA (fW n))).length=k:=by rw[zA5];exact hk
     rw[zBc,zCn,zCx,<-zBx];clear u;generalize z.map (λn=>yA (fW n))=zs2 at *;refine WW ?_;rfl
    ·(refine WW ?_)
     rfl
  ·(refine WW ?_)
   refine zQ (A) [5,1001] [5,1001] [3,5,6,13,14,15,28,29] [7,8,30,3,5,6,13,14,15,28,29] Z (λi f4 T U=>⟨(7,iA (vK A i))::(8,iA (p2 (2*(i:Int))))::(30,iA i)::T,U⟩) (Lq ?_ ?_)
   .intro k z c B u hk;have I:=zZ iA u hk;have G:=zV u hk;have R:=hv.c c (yU u);have S:A.getD k 0=c:=by rw[u,<-hk];simp[p5]
    have O:=C k zB;have V:=fX k zB;have e1:vK A (k+1)=vK A k+c*p2 (2*(k:Int)):=by rw[vK,S]
    rw[e1,Ep];clear u C E L M e1 hv;generalize vK A k=s,p2 (2*(k:Int))=w at *;have:c=0\/c=1\/c=2:=by omega
    rcases this with rfl|rfl|rfl
    all_goals
     refine WW ?_;rfl
   .clear C hv;generalize vK A (ln A)=s at *;refine WW ?_;refine zQ (Y) [1001] [] [13,14,15,53,54] [3,55,13,14,15,53,54] Z (λi f4 T U=>⟨(3,.ref 1001 0 (xs++[yA (EG false true),yA (vV s 8),yA (fW s)]++f4.map (λn=>yA (fW n))).length)::(55,iA i)::T,(1001,.arr 1 (xs++[yA (EG false true),yA (vV s 8),yA (fW s)]++f4.map (λn=>yA (fW n))) true)::U⟩) ?_;(conv=>whnf);refine⟨by(simp only[zCx,zB1];rfl),?_,?_⟩
    .intro k z c B u hk;have I:=zZ iA u hk;have G:=zV u hk;have W:(z.map (λn=>yA (fW n))).length=k:=by rw[zA5];exact hk
     rw[zBc,zCn,zCx,<-zBx];clear u;generalize z.map (λn=>yA (fW n))=zs2 at *;refine WW ?_;rfl
    ·(refine WW ?_)
     rfl
  ·(refine WW ?_)
   refine zQ (A) [5,1001] [5,1001] [3,5,6,13,14,15,28,29] [7,8,30,3,5,6,13,14,15,28,29] Z (λi f4 T U=>⟨(7,iA (vK A i))::(8,iA (p2 (2*(i:Int))))::(30,iA i)::T,U⟩) (Lq ?_ ?_)
   .intro k z c B u hk;have I:=zZ iA u hk;have G:=zV u hk;have R:=hv.c c (yU u);have S:A.getD k 0=c:=by rw[u,<-hk];simp[p5]
    have O:=C k zB;have V:=fX k zB;have e1:vK A (k+1)=vK A k+c*p2 (2*(k:Int)):=by rw[vK,S]
    rw[e1,Ep];clear u C E L M e1 hv;generalize vK A k=s,p2 (2*(k:Int))=w at *;have:c=0\/c=1\/c=2:=by omega
    rcases this with rfl|rfl|rfl
    all_goals
     refine WW ?_;rfl
   .clear C hv;generalize vK A (ln A)=s at *;refine WW ?_;refine zQ (Y) [1001] [] [13,14,15,53,54] [3,55,13,14,15,53,54] Z (λi f4 T U=>⟨(3,.ref 1001 0 (xs++[yA (EG true false),yA (vV s 8),yA (fW s)]++f4.map (λn=>yA (fW n))).length)::(55,iA i)::T,(1001,.arr 1 (xs++[yA (EG true false),yA (vV s 8),yA (fW s)]++f4.map (λn=>yA (fW n))) true)::U⟩) ?_;(conv=>whnf);refine⟨by(simp only[zCx,zB1];rfl),?_,?_⟩
    .intro k z c B u hk;have I:=zZ iA u hk;have G:=zV u hk;have W:(z.map (λn=>yA (fW n))).length=k:=by rw[zA5];exact hk
     rw[zBc,zCn,zCx,<-zBx];clear u;generalize z.map (λn=>yA (fW n))=zs2 at *;refine WW ?_;rfl
    ·(refine WW ?_)
     rfl
  ·(refine WW ?_)
   refine zQ (A) [5,1001] [5,1001] [3,5,6,13,14,15,28,29] [7,8,30,3,5,6,13,14,15,28,29] Z (λi f4 T U=>⟨(7,iA (vK A i))::(8,iA (p2 (2*(i:Int))))::(30,iA i)::T,U⟩) (Lq ?_ ?_)
   .intro k z c B u hk;have I:=zZ iA u hk;have G:=zV u hk;have R:=hv.c c (yU u);have S:A.getD k 0=c:=by rw[u,<-hk];simp[p5]
    have O:=C k zB;have V:=fX k zB;have e1:vK A (k+1)=vK A k+c*p2 (2*(k:Int)):=by rw[vK,S]
    rw[e1,Ep];clear u C E L M e1 hv;generalize vK A k=s,p2 (2*(k:Int))=w at *;have:c=0\/c=1\/c=2:=by omega
    rcases this with rfl|rfl|rfl
    all_goals
     refine WW ?_;rfl
   .clear C hv;generalize vK A (ln A)=s at *;refine WW ?_;refine zQ (Y) [1001] [] [13,14,15,53,54] [3,55,13,14,15,53,54] Z (λi f4 T U=>⟨(3,.ref 1001 0 (xs++[yA (EG true true),yA (vV s 8),yA (fW s)]++f4.map (λn=>yA (fW n))).length)::(55,iA i)::T,(1001,.arr 1 (xs++[yA (EG true true),yA (vV s 8),yA (fW s)]++f4.map (λn=>yA (fW n))) true)::U⟩) ?_;(conv=>whnf);refine⟨by(simp only[zCx,zB1];rfl),?_,?_⟩
    .intro k z c B u hk;have I:=zZ iA u hk;have G:=zV u hk;have W:(z.map (λn=>yA (fW n))).length=k:=by rw[zA5];exact hk
     rw[zBc,zCn,zCx,<-zBx];clear u;generalize z.map (λn=>yA (fW n))=zs2 at *;refine WW ?_;rfl
    ·(refine WW ?_)
     rfl
 ·(refine WW ?_)
  exact zP [1001] Z Z Z Z
def QJ {c:Int} {k:Nat} (hk:k<8) (hc:0<=c/\c<=2):IntKind.i64.wrap (c*2 ^ (min (2*(k:Int)).toNat IntKind.i64.bits))=c*p2 (2*(k:Int)):=by
 have hb:IntKind.i64.bits=64:=rfl;have h1:=fX k zB;rw[hb,show min (2*(k:Int)).toNat 64=(2*(k:Int)).toNat by omega];have h2:c=0\/c=1\/c=2:=by omega
 unfold p2 at h1;refine kI (k:= .i64) ⟨?_,?_⟩
 .show -9223372036854775808<=_
  rcases h2 with rfl|rfl|rfl<;>omega
 .show _<=9223372036854775807
  rcases h2 with rfl|rfl|rfl<;>omega
theorem ig (l:List Vw) (hn:ln l<=1000) (hb:∀v∈l,Ua v):zM 137 [zE vO l] [] (.ref 1001 0 ((XU l).map yA).length) [(1001,.arr 1 ((XU l).map yA) true)]:=by
 have hl:=zA vO l;have ag:=cZ hb;refine eM call137 λF hF=>?_
 refine WW ?_;refine zS 3 1001 1 Z Z Z ?_;refine zQ (l) [1001] [] [12,13] [3,14,12,13] Z (λi f4 T U=>⟨(3,.ref 1001 0 ((XU f4).map yA).length)::(14,iA i)::T,(1001,.arr 1 ((XU f4).map yA) true)::U⟩) (Lq ?_ ?_)
 .intro i f4 v post hx hi;have hy:=zZ vO hx hi;have ax:=zV hx hi;have hv:=hb v (yU hx);have ar:=cZ (l:=f4) (λw hw=>hb w (by rw[hx];simp[hw]));have a1:((XU f4).map yA).length<=11000:=by rw[zA5];omega
  rw[Ta];clear hx ar ag;generalize (XU f4).map yA=xs at *;have au:=zA iA v.co;have av:=zA iA v.cn;have C:=λk hk=>OL hv.c k hk (zB9 hk hv.n)
  have ap:=hv.n;have az:=hv.m;obtain⟨fl,ov,A,cn⟩:=v;dsimp only at *;rw[show vO ⟨fl,ov,A,cn⟩= .agg [bA fl,bA ov,zE iA A,zE iA cn]from Z]at hy;have E:=C (ln A) (zBa _);have O:=fX (ln A) ap;have R:=f5 (n:=vK A (ln A)) E.1 zB
  cases fl<;>cases ov
  ·(refine WW ?_)
   refine zQ (A) [5,1001] [5,1001] [3,5,6,12,13,14,27,28] [7,29,3,5,6,12,13,14,27,28] Z (λi f4 T U=>⟨(7,iA (vK A i))::(29,iA i)::T,U⟩) (Lq ?_ ?_)
   .intro k z c B u hk;have M:=zZ iA u hk;have G:=zV u hk;have V:=hv.c c (yU u);have W:A.getD k 0=c:=by rw[u,<-hk];simp[p5]
    have S:=C k zB;have Y:=fX k zB;have e1:vK A (k+1)=vK A k+c*p2 (2*(k:Int)):=by rw[vK,W]
    rw[e1];have I:=QJ (c:=0) (k:=k) zB zB;have L:=QJ (c:=2) (k:=k) zB zB;clear u C E O R e1 hv;generalize vK A k=s at *;have:c=0\/c=1\/c=2:=by omega
    rcases this with rfl|rfl|rfl
    ·(refine WW ?_)
     rw[I];rfl
    ·(refine WW ?_)
     rw[zF2];rfl
    ·(refine WW ?_)
     rw[L];rfl
   .clear C hv;generalize vK A (ln A)=s at *;refine WW ?_;refine zQ (cn) [1001] [] [12,13,14,52,53] [3,54,12,13,14,52,53] Z (λi f4 T U=>⟨(3,.ref 1001 0 (xs++[yA (EG false false),yA (vV s 8),yA (fW s)]++f4.map (λn=>yA (fW n))).length)::(54,iA i)::T,(1001,.arr 1 (xs++[yA (EG false false),yA (vV s 8),yA (fW s)]++f4.map (λn=>yA (fW n))) true)::U⟩) ?_;(conv=>whnf);refine⟨by(simp only[zCx,zB1];rfl),?_,?_⟩
    .intro k z c B u hk;have M:=zZ iA u hk;have G:=zV u hk;have ac:(z.map (λn=>yA (fW n))).length=k:=by rw[zA5];exact hk
     rw[zBc,zCn,zCx,<-zBx];clear u;generalize z.map (λn=>yA (fW n))=zs2 at *;refine WW ?_;rfl
    ·(refine WW ?_)
     rfl
  ·(refine WW ?_)
   refine zQ (A) [5,1001] [5,1001] [3,5,6,12,13,14,27,28] [7,29,3,5,6,12,13,14,27,28] Z (λi f4 T U=>⟨(7,iA (vK A i))::(29,iA i)::T,U⟩) (Lq ?_ ?_)
   .intro k z c B u hk;have M:=zZ iA u hk;have G:=zV u hk;have V:=hv.c c (yU u);have W:A.getD k 0=c:=by rw[u,<-hk];simp[p5]
    have S:=C k zB;have Y:=fX k zB;have e1:vK A (k+1)=vK A k+c*p2 (2*(k:Int)):=by rw[vK,W]
    rw[e1];have I:=QJ (c:=0) (k:=k) zB zB;have L:=QJ (c:=2) (k:=k) zB zB;clear u C E O R e1 hv;generalize vK A k=s at *;have:c=0\/c=1\/c=2:=by omega
    rcases this with rfl|rfl|rfl
    ·(refine WW ?_)
     rw[I];rfl
    ·(refine WW ?_)
     rw[zF2];rfl
    ·(refine WW ?_)
     rw[L];rfl
   .clear C hv;generalize vK A (ln A)=s at *;refine WW ?_;refine zQ (cn) [1001] [] [12,13,14,52,53] [3,54,12,13,14,52,53] Z (λi f4 T U=>⟨(3,.ref 1001 0 (xs++[yA (EG false true),yA (vV s 8),yA (fW s)]++f4.map (λn=>yA (fW n))).length)::(54,iA i)::T,(1001,.arr 1 (xs++[yA (EG false true),yA (vV s 8),yA (fW s)]++f4.map (λn=>yA (fW n))) true)::U⟩) ?_;(conv=>whnf);refine⟨by(simp only[zCx,zB1];rfl),?_,?_⟩
    .intro k z c B u hk;have M:=zZ iA u hk;have G:=zV u hk;have ac:(z.map (λn=>yA (fW n))).length=k:=by rw[zA5];exact hk
     rw[zBc,zCn,zCx,<-zBx];clear u;generalize z.map (λn=>yA (fW n))=zs2 at *;refine WW ?_;rfl
    ·(refine WW ?_)
     rfl
  ·(refine WW ?_)
   refine zQ (A) [5,1001] [5,1001] [3,5,6,12,13,14,27,28] [7,29,3,5,6,12,13,14,27,28] Z (λi f4 T U=>⟨(7,iA (vK A i))::(29,iA i)::T,U⟩) (Lq ?_ ?_)
   .intro k z c B u hk;have M:=zZ iA u hk;have G:=zV u hk;have V:=hv.c c (yU u);have W:A.getD k 0=c:=by rw[u,<-hk];simp[p5]
    have S:=C k zB;have Y:=fX k zB;have e1:vK A (k+1)=vK A k+c*p2 (2*(k:Int)):=by rw[vK,W]
    rw[e1];have I:=QJ (c:=0) (k:=k) zB zB;have L:=QJ (c:=2) (k:=k) zB zB;clear u C E O R e1 hv;generalize vK A k=s at *;have:c=0\/c=1\/c=2:=by omega
    rcases this with rfl|rfl|rfl
    ·(refine WW ?_)
     rw[I];rfl
    ·(refine WW ?_)
     rw[zF2];rfl
    ·(refine WW ?_)
     rw[L];rfl
   .clear C hv;generalize vK A (ln A)=s at *;refine WW ?_;refine zQ (cn) [1001] [] [12,13,14,52,53] [3,54,12,13,14,52,53] Z (λi f4 T U=>⟨(3,.ref 1001 0 (xs++[yA (EG true false),yA (vV s 8),yA (fW s)]++f4.map (λn=>yA (fW n))).length)::(54,iA i)::T,(1001,.arr 1 (xs++[yA (EG true false),yA (vV s 8),yA (fW s)]++f4.map (λn=>yA (fW n))) true)::U⟩) ?_;(conv=>whnf);refine⟨by(simp only[zCx,zB1];rfl),?_,?_⟩
    .intro k z c B u hk;have M:=zZ iA u hk;have G:=zV u hk;have ac:(z.map (λn=>yA (fW n))).length=k:=by rw[zA5];exact hk
     rw[zBc,zCn,zCx,<-zBx];clear u;generalize z.map (λn=>yA (fW n))=zs2 at *;refine WW ?_;rfl
    ·(refine WW ?_)
     rfl
  ·(refine WW ?_)
   refine zQ (A) [5,1001] [5,1001] [3,5,6,12,13,14,27,28] [7,29,3,5,6,12,13,14,27,28] Z (λi f4 T U=>⟨(7,iA (vK A i))::(29,iA i)::T,U⟩) (Lq ?_ ?_)
   .intro k z c B u hk;have M:=zZ iA u hk;have G:=zV u hk;have V:=hv.c c (yU u);have W:A.getD k 0=c:=by rw[u,<-hk];simp[p5]
    have S:=C k zB;have Y:=fX k zB;have e1:vK A (k+1)=vK A k+c*p2 (2*(k:Int)):=by rw[vK,W]
    rw[e1];have I:=QJ (c:=0) (k:=k) zB zB;have L:=QJ (c:=2) (k:=k) zB zB;clear u C E O R e1 hv;generalize vK A k=s at *;have:c=0\/c=1\/c=2:=by omega
    rcases this with rfl|rfl|rfl
    ·(refine WW ?_)
     rw[I];rfl
    ·(refine WW ?_)
     rw[zF2];rfl
    ·(refine WW ?_)
     rw[L];rfl
   .clear C hv;generalize vK A (ln A)=s at *;refine WW ?_;refine zQ (cn) [1001] [] [12,13,14,52,53] [3,54,12,13,14,52,53] Z (λi f4 T U=>⟨(3,.ref 1001 0 (xs++[yA (EG true true),yA (vV s 8),yA (fW s)]++f4.map (λn=>yA (fW n))).length)::(54,iA i)::T,(1001,.arr 1 (xs++[yA (EG true true),yA (vV s 8),yA (fW s)]++f4.map (λn=>yA (fW n))) true)::U⟩) ?_;(conv=>whnf);refine⟨by(simp only[zCx,zB1];rfl),?_,?_⟩
    .intro k z c B u hk;have M:=zZ iA u hk;have G:=zV u hk;have ac:(z.map (λn=>yA (fW n))).length=k:=by rw[zA5];exact hk
     rw[zBc,zCn,zCx,<-zBx];clear u;generalize z.map (λn=>yA (fW n))=zs2 at *;refine WW ?_;rfl
    ·(refine WW ?_)
     rfl
 ·(refine WW ?_)
  exact zP [1001] Z Z Z Z
def cdW (g:Lg) (w:Vw):Int:=if 0<=g.ph/\g.ph<(ln w.co:Int)then(if w.ov=true/\w.fl=false/\w.co.getD g.ph.toNat dd=1 then 3 else 2)else 1
def Ji (g:Lg) (v:List Vw) (f3:Int):Int:=if EV g f3=true/\0<=g.jn/\g.jn<(ln v:Int)then cdW g (v.getD g.jn.toNat dd)else 1
def ye (g:Lg) (v:List Vw) (f3:Int):1<=Ji g v f3/\Ji g v f3<=3:=by grind [Ji,cdW]
def Sa (g:Lg) (v:List Vw) (f3:Int) {Q:Int->Prop} (q1:EV g f3=false->Q 1) (B:EV g f3=true->g.jn<0->Q 1) (C:EV g f3=true->0<=g.jn->(ln v:Int)<=g.jn->Q 1)
  (q4:∀w,EV g f3=true->0<=g.jn->g.jn<(ln v:Int)->(v.map vO)[g.jn.toNat]? =some (vO w)->g.ph<0->Q 1)
  (E:∀w,EV g f3=true->0<=g.jn->g.jn<(ln v:Int)->(v.map vO)[g.jn.toNat]? =some (vO w)->0<=g.ph->(ln w.co:Int)<=g.ph->Q 1)
  (G:∀w c,EV g f3=true->0<=g.jn->g.jn<(ln v:Int)->(v.map vO)[g.jn.toNat]? =some (vO w)->0<=g.ph->g.ph<(ln w.co:Int)->(w.co.map iA)[g.ph.toNat]? =some (iA c)->Q (if w.ov=true/\w.fl=false/\c=1 then 3 else 2)):Q (Ji g v f3):=by
 unfold Ji
 cases hl:EV g f3 with
 |false=>rw[Os (λh=>by cases h.1)];exact q1 hl
 |true=>
  by_cases j0:g.jn<0
  .grind
  by_cases j1:(ln v:Int)<=g.jn
  .grind
  have u:=yF vO v g.jn zB zB;rw[zA4 ⟨rfl,zB,zB⟩];generalize v.getD g.jn.toNat dd=w at *;unfold cdW;by_cases z:g.ph<0
  .grind
  by_cases A:(ln w.co:Int)<=g.ph
  .grind
  simp_all [EV,q4,vO,iA,Ji]
def o5 (g:Lg) (v:List Vw) (f3:Int) (U:ln v<=1000) (hb:∀w∈v,ln w.co<=1000):zM 232 [yO g,zE vO v,iA f3] [] (iA (Ji g v f3)) []:=by
 have u:=Em g f3;have R:=zA vO v;have hb:∀w,(v.map vO)[g.jn.toNat]? =some (vO w)->(w.co.map iA).length=ln w.co:=λw _=>zA iA w.co
 unfold yO at *;refine Sa (Q:=λr=>zM 232 [.agg [iA g.jn,iA g.ph,iA g.fr,iA g.to,iA g.sc],zE vO v,iA f3] [] (iA r) []) g v f3 (λh1=>?_) (λh1 h2=>?_) (λh1 h2 C=>?_) (λw h1 h2 C z M=>?_) (λw h1 h2 C z M O=>?_) (λw c h1 h2 C z M O S=>?_)
 .rw[h1]at u;refine eM call232 λF hF=>?_
  exact mx u
 .rw[h1]at u;refine eM call232 λF hF=>?_
  exact mx u
 .rw[h1]at u;refine eM call232 λF hF=>?_
  exact mx u
 .rw[h1]at u;unfold vO at z;refine eM call232 λF hF=>?_
  exact mx u
 .rw[h1]at u;have E:=hb w z;unfold vO zE at z;refine eM call232 λF hF=>?_
  exact mx u
 .rw[h1]at u;have E:=hb w z;clear hb;obtain⟨B,G,L,I⟩:=w;rw[show vO ⟨B,G,L,I⟩= .agg [bA B,bA G,zE iA L,zE iA I]from Z]at z;dsimp only at *;cases G
  ·(refine eM call232 λF hF=>?_)
   exact mx u
  cases B
  case true=>
   refine eM call232 λF hF=>?_
   exact mx u
  by_cases A:c=1
  .rw[zA4 ⟨rfl,rfl,A⟩];refine eM call232 λF hF=>?_
   exact mx u
  .rw[Os (λh=>A h.2.2)];refine eM call232 λF hF=>?_
   exact mx u
def ww (g:Lg) (v:List Vw) (f3:Int) (U:ln v<=1000) (hb:∀w∈v,ln w.co<=1000):zM 200 [yO g,zE vO v,iA f3] [] (iA (Ji g v f3)) []:=by
 have u:=Vf g f3;have R:=zA vO v;have hb:∀w,(v.map vO)[g.jn.toNat]? =some (vO w)->(w.co.map iA).length=ln w.co:=λw _=>zA iA w.co
 unfold yO at *;refine Sa (Q:=λr=>zM 200 [.agg [iA g.jn,iA g.ph,iA g.fr,iA g.to,iA g.sc],zE vO v,iA f3] [] (iA r) []) g v f3 (λh1=>?_) (λh1 h2=>?_) (λh1 h2 C=>?_) (λw h1 h2 C z M=>?_) (λw h1 h2 C z M O=>?_) (λw c h1 h2 C z M O S=>?_)
 .rw[h1]at u;refine eM call200 λF hF=>?_
  exact mx u
 .rw[h1]at u;refine eM call200 λF hF=>?_
  exact mx u
 .rw[h1]at u;refine eM call200 λF hF=>?_
  exact mx u
 .rw[h1]at u;unfold vO at z;refine eM call200 λF hF=>?_
  exact mx u
 .rw[h1]at u;have E:=hb w z;unfold vO zE at z;refine eM call200 λF hF=>?_
  exact mx u
 .rw[h1]at u;have E:=hb w z;clear hb;obtain⟨B,G,L,I⟩:=w;rw[show vO ⟨B,G,L,I⟩= .agg [bA B,bA G,zE iA L,zE iA I]from Z]at z;dsimp only at *;cases G
  ·(refine eM call200 λF hF=>?_)
   exact mx u
  cases B
  case true=>
   refine eM call200 λF hF=>?_
   exact mx u
  by_cases A:c=1
  .rw[zA4 ⟨rfl,rfl,A⟩];refine eM call200 λF hF=>?_
   exact mx u
  .rw[Os (λh=>A h.2.2)];refine eM call200 λF hF=>?_
   exact mx u
def xe (l:List Rq) (v:List Vw) (f3:Int) (i:Nat):Int:=if i/3<ln l/\i % 3<(l.getD (i/3) dd).legs.length then Ji ((l.getD (i/3) dd).legs.getD (i % 3) dd) v f3 else 0
def TZ (l:List Rq) (v:List Vw) (f3:Int) (n:Nat):List Int:=(pb n).map (xe l v f3)
def Qa (l:List Rq) (v:List Vw) (f3:Int) (N i:Nat):List Int:=(pb N).map λj=>if j<i then xe l v f3 j else 0
def Zg (l:List Rq) (v:List Vw) (f3:Int) (N i:Nat):(Qa l v f3 N i).length=N:=by simp[Qa]
def Cp (l:List Rq) (v:List Vw) (f3:Int) (N:Nat):(Qa l v f3 N 0).map yA=oj N (yA 0):=by
 apply zCe;intro j;unfold Qa;rw[zBd,zBd,zDo];by_cases hj:j<N
 .rw[zC3 hj,zA4 hj];simp
 .rw[zCi qB,Os hj];rfl
def we (l:List Rq) (v:List Vw) (f3:Int) (N k j:Nat):((Qa l v f3 N k).map yA)[j]? =if j<N then some (yA (if j<k then xe l v f3 j else 0))else none:=by
 unfold Qa;rw[zBd,zBd];by_cases hj:j<N
 .rw[zC3 hj,zA4 hj];rfl
 .rw[zCi qB,Os hj];rfl
def Bp (l:List Rq) (v:List Vw) (f3:Int) (N i:Nat) (hi:i<N):(Qa l v f3 N (i+1)).map yA=((Qa l v f3 N i).map yA).set i (yA (xe l v f3 i)):=by
 apply zCe;intro j;rw[zEe,we,we,zA5,Zg];by_cases u:i=j
 .subst u;rw[zA4 hi,zA4 Z,zA4 hi,zA4 (Nat.lt_succ_self i)]
 .rw[Os u];by_cases hj:j<N
  .rw[zA4 hj,zA4 hj];by_cases h2:j<i
   .rw[zA4 zB,zA4 h2]
   .rw[Os zB,Os h2]
  .rw[Os hj,Os hj]
def uw (l:List Rq) (v:List Vw) (f3:Int) (N:Nat):Qa l v f3 N N=TZ l v f3 N:=by
 unfold Qa TZ;apply List.map_congr_left;intro j hj;rw[zA4 (zBv.1 hj)]
def Ap (l:List Rq) (v:List Vw) (f3:Int) (n:Nat):(TZ l v f3 (n+1)).map yA=(TZ l v f3 n).map yA++[yA (xe l v f3 n)]:=by
 unfold TZ;rw[zC6];simp
theorem qw (l:List Rq) (q:Nat) (v:List Vw) (f3:Int) (hq:q<=1000) (hl:ln l<=1000) (C:∀r∈l,ln r.legs<=1000) (S:ln v<=1000) (hb:∀w∈v,ln w.co<=1000):
  zM 182 [zE zY l,iA q,zE vO v,iA f3] [] (zE yA (TZ l v f3 (q*3))) []:=by
 have R:=zA zY l;by_cases G:q=0
 .subst G;refine eM call182 λF hF=>?_
  exact ly
 have B:=Cp l v f3 (q*3);have Y:=zA vO v;refine eM call182 λF hF=>?_
 refine WW ?_;have L:q*3<=3000:=by omega
 generalize q*3=N at *;refine zO (N) [21] [] [0,2,3,9,23] [24,0,2,3,9,23] Z (λi T U=>⟨(24,iA i)::T,(21,.arr 1 ((Qa l v f3 N i).map yA) false)::U⟩) ?_;(conv=>whnf);refine⟨by(rw[B];rfl),?_,?_⟩
 .intro i hi;have W:(i:Int).tdiv 3=((i/3:Nat):Int):=by rw[zC2 zB];omega
  have hk:(i:Int).tmod 3=((i % 3:Nat):Int):=by rw[zCf zB];omega
  have O:bI .i64 ((i:Int).tdiv 3):=⟨by show -9223372036854775808<=_;omega,by show _<=9223372036854775807;omega⟩;have V:((Qa l v f3 N i).map yA).length=N:=by rw[zA5,Zg]
  have e:=Bp l v f3 N i hi;rw[e];have ar:((Qa l v f3 N i).map yA)[i]? =some (yA (if i<i then xe l v f3 i else 0)):=by rw[we,zA4 hi]
  have A:∀y:AV,(((Qa l v f3 N i).map yA).set i y)[i]? =some y:=λy=>zB6 zB
  by_cases hr1:i/3<ln l
  .have hy:(l.map zY)[((i:Int).tdiv 3).toNat]? =some (zY (l.getD (i/3) dd)):=by rw[W];exact zJ zY l _ hr1
   have ac:(l.getD (i/3) dd).legs.length<=1000:=C _ Cx;have ag:=zA yO (l.getD (i/3) dd).legs
   have z:xe l v f3 i=if i % 3<(l.getD (i/3) dd).legs.length then Ji ((l.getD (i/3) dd).legs.getD (i % 3) dd) v f3 else 0:=by
    unfold xe;by_cases h:i % 3<(l.getD (i/3) dd).legs.length
    .rw[zA4 ⟨hr1,h⟩,zA4 h]
    .rw[Os (λI=>h I.2),Os h]
   rw[z];clear e z B;generalize l.getD (i/3) dd=x at *;unfold zY zE at hy;by_cases u:i % 3<ln x.legs
   .have ap:(x.legs.map yO)[((i:Int).tmod 3).toNat]? =some (yO (x.legs.getD (i % 3) dd)):=by rw[hk];exact zJ yO x.legs _ u
    have E:=o5 (x.legs.getD (i % 3) dd) v f3 S hb;have M:=ye (x.legs.getD (i % 3) dd) v f3;rw[zA4 u];generalize Ji (x.legs.getD (i % 3) dd) v f3=c at *;generalize x.legs.getD (i % 3) dd=g at *;generalize (Qa l v f3 N i).map yA=xs at*
    (have ga:=E;(repeat' (first|refine WTR ?_|apply yW|apply xG|intro hc|(apply zG;first|(apply cA;refine Dc tok Z Z Z (A _) Z Z Z Z Z Z Z Z ?_)|refine SM ?_)|refine SB ?_|fail))<;>clear ga)
    refine zBp (St.mk _) ?_
    show [(21,xW.arr 1 ((xs.set i _).set i _) _)]=_
    rw[zFh];rfl
   .rw[Os u];generalize (Qa l v f3 N i).map yA=xs at *;refine WW ?_;rfl
  .have z:xe l v f3 i=0:=by unfold xe;rw[Os (λh=>hr1 h.1)]
   rw[z];clear e z B;generalize (Qa l v f3 N i).map yA=xs at *;refine WW ?_;rfl
 .rw[uw];refine WW ?_;refine zI [] Z Z ?_ Z;exact zBp (AV.sl false) (zBf (by simp[TZ]))
def xq (l:List Rq) (q:Nat) (v:List Vw) (f3:Int) (W:q<=1000) (hl:ln l<=1000) (A:∀r∈l,ln r.legs<=1000) (M:ln v<=1000) (hb:∀w∈v,ln w.co<=1000):
  zM 139 [zE zY l,iA q,zE vO v,iA f3] [] (zE yA (TZ l v f3 (q*3))) []:=by
 have I:=zA zY l;refine eM call139 λF hF=>?_
 refine WW ?_;refine zS 9 1001 1 Z Z Z ?_;refine zO (q) [1001] [] [0,2,3,13] [9,14,0,2,3,13] Z (λi T U=>⟨(9,.ref 1001 0 ((TZ l v f3 (i*3)).map yA).length)::(14,iA i)::T,(1001,.arr 1 ((TZ l v f3 (i*3)).map yA) true)::U⟩) (Lq ?_ ?_)
 .intro r Y;refine WW ?_;refine zO (3) [1001] [] [0,2,3,10,13,14] [9,17,0,2,3,10,13,14] Z (λi T U=>⟨(9,.ref 1001 0 ((TZ l v f3 (r*3+i)).map yA).length)::(17,iA i)::T,(1001,.arr 1 ((TZ l v f3 (r*3+i)).map yA) true)::U⟩) (Lq ?_ ?_)
  .intro k hk;have e:=Ap l v f3 (r*3+k);have O:((TZ l v f3 (r*3+k)).map yA).length<=4000:=by simp[TZ];omega
   rw[show r*3+(k+1)=r*3+k+1 from Z,e];have e3:(r*3+k)/3=r:=by omega
   have C:(r*3+k) % 3=k:=by omega
   by_cases hr1:r<ln l
   .have S:=zJ zY l r hr1;have L:(l.getD r dd).legs.length<=1000:=A _ Cx
    have z:xe l v f3 (r*3+k)=if k<(l.getD r dd).legs.length then Ji ((l.getD r dd).legs.getD k dd) v f3 else 0:=by
     unfold xe;rw[e3,C];by_cases h:k<(l.getD r dd).legs.length
     .rw[zA4 ⟨hr1,h⟩,zA4 h]
     .rw[Os (λE=>h E.2),Os h]
    rw[z];clear e z;generalize l.getD r dd=x at *;have R:=zA yO x.legs;unfold zY zE at S;by_cases u:k<ln x.legs
    .have V:=zJ yO x.legs k u;have B:=ww (x.legs.getD k dd) v f3 M hb;have G:=ye (x.legs.getD k dd) v f3;rw[zA4 u];generalize Ji (x.legs.getD k dd) v f3=c at *;generalize x.legs.getD k dd=g at *;generalize (TZ l v f3 (r*3+k)).map yA=xs at *;refine zU B ?_;rfl
    .rw[Os u];generalize (TZ l v f3 (r*3+k)).map yA=xs at *;refine WW ?_;rfl
   .have z:xe l v f3 (r*3+k)=0:=by unfold xe;rw[Os (λh=>hr1 zB)]
    rw[z];clear e z;generalize (TZ l v f3 (r*3+k)).map yA=xs at *;refine WW ?_;rfl
  .rw[show r*3+3=(r+1)*3 by omega];refine WW ?_;rfl
 ·(refine WW ?_)
  refine zI [] Z Z ?_ Z;exact zBp (AV.sl false) zA8
def kw (f3:Int) (v:List Vw) (b:List Int):Ms:=⟨17,[],[f3],XU v++b⟩
def Z5 (f3:Int) (v:List Vw) (b:List Int) (A:ln v<=1000) (hb:∀w∈v,Ua w) (hl:ln b<=10000):zM 183 [iA f3,zE vO v,zE yA b] [] (zX (kw f3 v b)) []:=by
 have C:=Dp v A hb;have h1:=cZ hb;have B:=zA yA (XU v);have u:=zA yA b;rw[show zX (kw f3 v b)= .agg [iA 17,.sl false [],.sl false [iA f3],.sl false ((XU v).map yA++b.map yA)] by unfold kw zX zE;rw[zBc];rfl];generalize (XU v).map yA=xs at *;refine eM call183 λF hF=>?_
 refine UA C ?_;refine zI [] Z Z ?_ Z;exact zBp (λz=>AV.agg [iA 17,AV.sl false [],AV.sl false [iA f3],AV.sl false z]) zA8
def jw (f3:Int) (v:List Vw) (b:List Int) (A:ln v<=1000) (hb:∀w∈v,Ua w) (hl:ln b<=10000):zM 138 [iA f3,zE vO v,zE yA b] [] (zX (kw f3 v b)) []:=by
 have C:=ig v A hb;have h1:=cZ hb;have B:=zA yA (XU v);have u:=zA yA b;rw[show zX (kw f3 v b)= .agg [iA 17,.sl false [],.sl false [iA f3],.sl false ((XU v).map yA++b.map yA)] by unfold kw zX zE;rw[zBc];rfl];generalize (XU v).map yA=xs at *;refine eM call138 λF hF=>?_
 refine UA C ?_;refine zI [] Z Z ?_ Z;exact zBp (λz=>AV.agg [iA 17,AV.sl false [],AV.sl false [iA f3],AV.sl false z]) zA8
def KQ (d:wD) (v:List Vw) (f3:Int):Ms:=kw f3 v (TZ d.rq v f3 (d.rg.ag.req.toNat*3))
def wq (d:wD) (hd:dH d) (C:0<=d.rg.ag.req/\d.rg.ag.req<=4) (v:List Vw) (f3:Int) (z:ln v<=1000) (hb:∀w∈v,Ua w):zM 120 [zN d,zE vO v,iA f3] [] (zX (KQ d v f3)) []:=by
 have u:=qw d.rq d.rg.ag.req.toNat v f3 zB hd.q hd.g z (λw B=>zB9 (hb w B).n xA);rw[show((d.rg.ag.req.toNat:Nat):Int)=d.rg.ag.req by omega]at u;have A:=Z5 f3 v (TZ d.rq v f3 (d.rg.ag.req.toNat*3)) z hb (by simp[TZ];omega);unfold KQ;generalize TZ d.rq v f3 (d.rg.ag.req.toNat*3)=cs at *;unfold zX at *;unfold zN xD;generalize XU v=E at *;refine eM call120 λF hF=>?_
 exact mt (xU u A)
def Ii (d:wD) (hd:dH d) (C:0<=d.rg.ag.req/\d.rg.ag.req<=4) (v:List Vw) (f3:Int) (z:ln v<=1000) (hb:∀w∈v,Ua w):zM 61 [zN d,zE vO v,iA f3] [] (zX (KQ d v f3)) []:=by
 have u:=xq d.rq d.rg.ag.req.toNat v f3 zB hd.q hd.g z (λw B=>zB9 (hb w B).n xA);rw[show((d.rg.ag.req.toNat:Nat):Int)=d.rg.ag.req by omega]at u;have A:=jw f3 v (TZ d.rq v f3 (d.rg.ag.req.toNat*3)) z hb (by simp[TZ];omega);unfold KQ;generalize TZ d.rq v f3 (d.rg.ag.req.toNat*3)=cs at *;unfold zX at *;unfold zN xD;generalize XU v=E at *;refine eM call61 λF hF=>?_
 exact mt (xU u A)
def IU (l:List Ms) (C:ln l<=1000000) (hb:∀m∈l,Gr m):zM 65 [zE zX l,zE zX l] [] (bA true) []:=by
 have hl:=zA zX l;refine eM call65 λF hF=>?_
 refine WW ?_;refine zQ (l) [] [] [1,12,13] [14,1,12,13] Z (λi f4 T U=>⟨(14,iA i)::T,U⟩) (Lq ?_ ?_)
 .intro i f4 x post u hi;have B:=zZ zX u hi;have A:=zV u hi;have z:=wx x (hb x (yU u));clear u;unfold zX at B z;refine zU z ?_;rfl
 .exact ly
def Y5 (n:Nat):Vw:=⟨true,false,oj n 0,oj n 0⟩
def o8 {n:Nat} (h:n<=8):Ua (Y5 n):=⟨by simp[Y5];exact h,by simp[Y5];exact h,λc hc=>by
 have:=(zE1.1 hc).2
 omega⟩
def fw (j:Jn) (h:ln j.ph<=8):zM 76 [wK j] [] (vO (Y5 (ln j.ph))) []:=by
 have hl:=zA xN j.ph;have u:∀n,(oj n (0:Int)).map iA=oj n (iA 0):=λn=>by simp
 rw[show vO (Y5 (ln j.ph))= .agg [bA true,bA false,.sl false (oj (ln j.ph) (iA 0)),.sl false (oj (ln j.ph) (iA 0))] by unfold Y5 vO zE;rw[u]];rw[<-hl];unfold wK zE;generalize j.ph.map xN=P at *;refine eM call76 λF hF=>?_
 refine WW ?_;refine zI [] Z Z ?_ Z
 show AV.agg [bA true,bA false,.sl false (pi (ln P) (py 0 (oj (ln P) (iA 0)))),.sl false (pi (ln P) (py 0 (oj (ln P) (iA 0))))]=_
 rw[zBr,zBf zW]
