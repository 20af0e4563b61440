/- Part 17. -/
import Derived.Test.YtdjfiebpnmieoaaGreatC16
namespace Go.Proofs.YtdjfiebpnmieoaaGreat.Av
open Tryz
set_option linter.all false
set_option maxRecDepth 4000
set_option maxHeartbeats 8000000
open List renaming length->ln,replicate->nm,range->ny,take->oj,drop->pi,getD->py
open Inhabited renaming default->dd
def oq:List AV:=[iA 0,.s (.slice none 0 0),iA 0,iA 0,.s (.slice none 0 0),iA 0,iA 0,iA 0,iA 0,.s (.slice none 0 0),.s (.slice none 0 0),iA 0,iA 0,iA 0,.s (.slice none 0 0),.s (.slice none 0 0),.s (.slice none 0 0)]
theorem bj {c:Cf} {d:xP} (hI:qR c d) (u:List In) (b1:ln u<=1000) (az:∀i∈u,Xy i) (f4:Int) (n0:0<=f4) (n1:f4<=1073741824) (z:Nat->SS) (ap:z 0=⟨Wy d u,[],[],[]⟩) (hn:ln d.au=1) (hm:1<=ln u)
  (hz:∀s,CT c (Wy d u) (z s).d/\((z s).R.length=s/\(z s).en.length<=1000*s/\(z s).ks.length<=1000*s/\∀x∈(z s).ks,0<=x/\x<(ln c.js:Int))/\V5 c f4 u s (z s) (z (s+1))):
  zO 119 [wO c,zK d,zD qL u,iA f4] [] (ww (xw (z 1).d f4) (z 1).R (z 1).en (z 1).ks) []:=by
 have kc:=IG d hI.bd zB;have av:(d.au.map bA).length=1:=by rw[zAa,hn]
 have bf:=zA qL u;have km:=vp (z 1).d.rq f4 (hz 1).1.i.v;have O:wO c= .agg [.sl false (c.js.map wD),.sl false (c.ags.map vX),iA c.per,iA c.cap,iA c.hold,iA c.lock]:=rfl;rw[O];unfold UO zK xC at kc;have e0:=qP (NV u) d.au;have a1:(min ((u.map qL).length:Int) ((d.au.map bA).length:Int)).toNat=1:=by omega
 have a5:((u.take 1).map qL).length=1:=by rw[zAa,zAw];omega
 have I:∀s,s<1->((u.take 1).map qL)[s]? =some (qL (u.getD s dd)):=λs hs=>by
  rw[zAi,zB3,Os hs,zAl,zA4 zB];rfl
 obtain⟨br,⟨bs,bu,bx,_⟩,io,S,ac,a2,ag⟩:=hz 0;have L:=I 0 zB;refine eM call119 λF hF=>?_
 refine zQ kc ?_;rw[a1,av];refine zN (1) [1004,4,5,8,28] [4,5,8,28] [2,3,4,5,8,12,13,14,39] [40,9,10,2,3,4,5,8,12,13,14,39] Z (λi T U=>⟨(40,iA i)::(9,.s (.slice none 0 0))::(10,.s (.slice none 0 0))::T,(1004,.arr 1 ((XA (NV u) d.au i).map bA) false)::U⟩) ?_;(conv=>whnf);refine⟨by(rw[e0];rfl),?_,?_⟩
 .intro i hi;have a7:((XA (NV u) d.au i).map bA)[i]? =some (bA (d.au.getD i dd)):=by rw[zAi,vZ,Os zB,Of (zC5 i)];rfl
  have cc:((XA (NV u) d.au i).map bA).length=1:=by rw[zAa,wR,hn]
  rw[vI bA (NV u) d.au i zB];have G:=eO a7;clear kc km;generalize (XA (NV u) d.au i).map bA=xs,d.au.getD i dd=b9 at *;unfold NV;by_cases h1:i<1
  .have hy:=I i h1;have a3:i<ln u:=by omega
   generalize u.getD i dd=x at *;obtain⟨op,A⟩:=x;rw[show qL ⟨op,A⟩= .agg [bA op,zD wK A]from Z]at hy;cases op
   .rw[Of (λh=>by cases h.2)];refine WW ?_;rfl
   .rw[Os ⟨a3,rfl⟩,G];refine WW ?_;rfl
  .rw[Of (λh=>by omega)];refine WW ?_;rfl
 ·(refine WW ?_)
  refine wJ [4,5,8,28] [2,3,4,5,8,9,10,12,13,14,61,62] Z ?_
  (conv=>whnf)
  rw[Pq (by omega:ln d.au=1),show XA (NV u) d.au 1=Br u d.au by unfold Br;rw[hn],a5];refine zS 13 1002 3 Z Z Z ?_;refine zS 14 1003 1 Z Z Z ?_;refine zS 9 1006 4 Z Z Z ?_;refine KU 28 Z ?_;refine SP 28 0 1006 Z Z Z Z Z ?_;refine wH 2 [5,28,1002,1003,1006,4,8] [13,14,62,2,3,4,5,8,12,61] Z ?_;refine yD (st0:=⟨[(13,.ref 1002 0 ((z 0).en.map kW).length),(14,.ref 1003 0 ((z 0).ks.map iA).length),(62,iA 0),(2,.sl false ((u.take 1).map qL)),(3,iA f4),(4,.ptr 4 0 0),(5,.ptr 5 0 0),(8,.ptr 8 0 0),(12,.ref 28 0 1),(61,iA 1)],[(5,.box (VB (z 0).d)),(28,.arr 1 [.ref 1006 0 ([]:List AV).length] ⟨false,true⟩),(1002,.arr 3 ((z 0).en.map kW) true),(1003,.arr 1 ((z 0).ks.map iA) true),(1006,.arr 4 ([]:List AV) true),(4,.box [.sl false (c.js.map wD),.sl false (c.ags.map vX),iA c.per,iA c.cap,iA c.hold,iA c.lock]),(8,.box oq)]⟩) (by rw[ap];rfl) ?_;obtain⟨r0,C⟩:∃r,r=(io (cQ u 0).length).rs:=⟨_,rfl⟩;have ar:(z 1).R=(z 0).R++[r0]:=by rw[C,ag]
  have q0:(z 1).d=(io (cQ u 0).length).d/\(z 1).en=(io (cQ u 0).length).en/\(z 1).ks=(io (cQ u 0).length).ks:=by rw[ag];exact⟨rfl,rfl,rfl⟩
  have a9:=zA kW (z 0).en;have ba:=zA iA (z 0).ks;by_cases Y:(u.getD 0 dd).opn=true
  case' pos=>
   have B:cQ u 0=(u.getD 0 dd).its:=by unfold cQ;rw[Os ⟨zB,Y⟩]
   have ax:=(FB az 0).1;rw[B]at ax q0 ac C;clear B;generalize u.getD 0 dd=x at *;obtain⟨op,A⟩:=x;dsimp only at *;subst Y;rw[show qL ⟨true,A⟩= .agg [bA true,zD wK A]from Z]at L;have bb:=zA wK A;refine WW ?_;refine zU (A) [5,1002,1003,28,1006,4,8] [4,8] [2,3,4,5,8,12,16,61,62,75,76] [13,14,77,2,3,4,5,8,12,16,61,62,75,76] Z (λi ga T U=>⟨(13,.ref 1002 0 ((io i).en.map kW).length)::(14,.ref 1003 0 ((io i).ks.map iA).length)::(77,iA i)::T,(5,.box (VB (io i).d))::(1002,.arr 3 ((io i).en.map kW) true)::(1003,.arr 1 ((io i).ks.map iA) true)::(28,.arr 1 [.ref 1006 0 ((io i).rs.map yC).length] ⟨false,true⟩)::(1006,.arr 4 ((io i).rs.map yC) true)::U⟩) ?_;(conv=>whnf);refine⟨by(rw[S];rfl),?_,?_⟩
   .intro k ga it post hx hk;have a6:=yI wK hx hk;have V:=zV hx hk;have E:A.getD k dd=it:=by rw[hx,<-hk];simp[py]
    obtain⟨h,hB,hP,W⟩:=ac k V;rw[E]at hB;obtain⟨b2,b3,b4,b5⟩:=a2 k;have b7:=zA kW (io k).en;have ca:=zA iA (io k).ks;have cb:=zA yC (io k).rs;have M:=hB.1;rw[W];dsimp only;rw[show((io k).rs++[h.p]).map yC=(io k).rs.map yC++[yC h.p] by simp,show∀e:En,((io k).en++[e]).map kW=(io k).en.map kW++[kW e]from λe=>by simp,E];rw[O]at M;unfold CW zK xC wK at M;unfold wK at a6;have b0:(z 0).en.length<=2000/\(z 0).ks.length<=2000:=by omega
    clear hx E W hB hP I kc km;generalize (io k).rs.map yC=cd,(io k).en.map kW=bl,h.p=p9,h.e=e9,h.d=d9 at *;generalize b6:h.k=k9 at *;generalize (io k).d=bk at *;obtain⟨pk,pt,pa,pd⟩:=p9;unfold yC MZ at M;dsimp only at M;unfold VB kW MZ yC;by_cases h0:0<=k9
    .rw[Os h0,show((io k).ks++[k9]).map iA=(io k).ks.map iA++[iA k9] by simp];generalize (io k).ks.map iA=a8 at *;refine zQ M ?_;rfl
    .rw[Of h0];generalize (io k).ks.map iA=a8 at *;refine zQ M ?_;rfl
   obtain⟨w1,w2,w3⟩:=q0;refine WW ?_
  case' neg=>
   have B:cQ u 0=[]:=by unfold cQ;rw[Of (λh=>Y h.2)]
   rw[B,zBh,S]at q0 C;obtain⟨w1,w2,w3⟩:=q0;have a4:(u.getD 0 dd).opn=false:=by simpa using Y
   clear B Y;generalize u.getD 0 dd=x at *;obtain⟨op,A⟩:=x;dsimp only at *;subst a4;rw[show qL ⟨false,A⟩= .agg [bA false,zD wK A]from Z]at L;refine WW ?_
  all_goals clear L a9 ba
  all_goals
   refine yD (st0:=⟨[(13,.ref 1002 0 ((z 1).en.map kW).length),(14,.ref 1003 0 ((z 1).ks.map iA).length),(62,iA 1),(2,.sl false ((u.take 1).map qL)),(3,iA f4),(4,.ptr 4 0 0),(5,.ptr 5 0 0),(8,.ptr 8 0 0),(12,.ref 28 0 1),(61,iA 1)],[(5,.box (VB (z 1).d)),(28,.arr 1 [.ref 1006 0 (r0.map yC).length] ⟨false,true⟩),(1002,.arr 3 ((z 1).en.map kW) true),(1003,.arr 1 ((z 1).ks.map iA) true),(1006,.arr 4 (r0.map yC) true),(4,.box [.sl false (c.js.map wD),.sl false (c.ags.map vX),iA c.per,iA c.cap,iA c.hold,iA c.lock]),(8,.box oq)]⟩) (by rw[w1,w2,w3,C];rfl) ?_;refine zQ km ?_;refine zH [] Z Z ?_ Z
   show AV.tup [zK (xw (z 1).d f4),.sl false [.sl false (oj _ (pi 0 (r0.map yC)))],.sl false (oj _ (pi 0 ((z 1).en.map kW))),.sl false (oj _ (pi 0 ((z 1).ks.map iA)))]=_
   simp only[zAu,zAb];unfold ww;rw[ar,ap];rfl
theorem aj {c:Cf} {d:xP} (hI:qR c d) (u:List In) (cn:ln u<=1000) (a4:∀i∈u,Xy i) (f4:Int) (n0:0<=f4) (n1:f4<=1073741824) (z:Nat->SS) (a9:z 0=⟨Wy d u,[],[],[]⟩) (hn:ln d.au=2) (hm:2<=ln u)
  (hz:∀s,CT c (Wy d u) (z s).d/\((z s).R.length=s/\(z s).en.length<=1000*s/\(z s).ks.length<=1000*s/\∀x∈(z s).ks,0<=x/\x<(ln c.js:Int))/\V5 c f4 u s (z s) (z (s+1))):
  zO 119 [wO c,zK d,zD qL u,iA f4] [] (ww (xw (z 2).d f4) (z 2).R (z 2).en (z 2).ks) []:=by
 have kc:=IG d hI.bd zB;have bl:(d.au.map bA).length=2:=by rw[zAa,hn]
 have ce:=zA qL u;have km:=vp (z 2).d.rq f4 (hz 2).1.i.v;have S:wO c= .agg [.sl false (c.js.map wD),.sl false (c.ags.map vX),iA c.per,iA c.cap,iA c.hold,iA c.lock]:=rfl;rw[S];unfold UO zK xC at kc;have e0:=qP (NV u) d.au;have b1:(min ((u.map qL).length:Int) ((d.au.map bA).length:Int)).toNat=2:=by omega
 have cb:((u.take 2).map qL).length=2:=by rw[zAa,zAw];omega
 have M:∀s,s<2->((u.take 2).map qL)[s]? =some (qL (u.getD s dd)):=λs hs=>by
  rw[zAi,zB3,Os hs,zAl,zA4 zB];rfl
 obtain⟨cf,⟨ch,cj,cl,_⟩,io,a1,a5,b3,a7⟩:=hz 0;have ag:=M 0 zB;obtain⟨cg,⟨ci,ck,cm,_⟩,kh,a2,a6,b4,a8⟩:=hz 1;have ap:=M 1 zB;refine eM call119 λF hF=>?_
 refine zQ kc ?_;rw[b1,bl];refine zN (2) [1004,4,5,8,28] [4,5,8,28] [2,3,4,5,8,12,13,14,39] [40,9,10,2,3,4,5,8,12,13,14,39] Z (λi T U=>⟨(40,iA i)::(9,.s (.slice none 0 0))::(10,.s (.slice none 0 0))::T,(1004,.arr 1 ((XA (NV u) d.au i).map bA) false)::U⟩) ?_;(conv=>whnf);refine⟨by(rw[e0];rfl),?_,?_⟩
 .intro i hi;have cc:((XA (NV u) d.au i).map bA)[i]? =some (bA (d.au.getD i dd)):=by rw[zAi,vZ,Os zB,Of (zC5 i)];rfl
  have co:((XA (NV u) d.au i).map bA).length=2:=by rw[zAa,wR,hn]
  rw[vI bA (NV u) d.au i zB];have ac:=eO cc;clear kc km;generalize (XA (NV u) d.au i).map bA=xs,d.au.getD i dd=b9 at *;unfold NV;by_cases h1:i<2
  .have hy:=M i h1;have b5:i<ln u:=by omega
   generalize u.getD i dd=x at *;obtain⟨op,A⟩:=x;rw[show qL ⟨op,A⟩= .agg [bA op,zD wK A]from Z]at hy;cases op
   .rw[Of (λh=>by cases h.2)];refine WW ?_;rfl
   .rw[Os ⟨b5,rfl⟩,ac];refine WW ?_;rfl
  .rw[Of (λh=>by omega)];refine WW ?_;rfl
 ·(refine WW ?_)
  refine wJ [4,5,8,28] [2,3,4,5,8,9,10,12,13,14,61,62] Z ?_
  (conv=>whnf)
  rw[Pq (by omega:ln d.au=2),show XA (NV u) d.au 2=Br u d.au by unfold Br;rw[hn],cb];refine zS 13 1002 3 Z Z Z ?_;refine zS 14 1003 1 Z Z Z ?_;refine zS 9 1006 4 Z Z Z ?_;refine zS 10 1007 4 Z Z Z ?_;refine KU 28 Z ?_;refine SP 28 0 1006 Z Z Z Z Z ?_;refine SP 28 1 1007 Z Z Z Z Z ?_;refine wH 3 [5,28,1002,1003,1006,1007,4,8] [13,14,62,2,3,4,5,8,12,61] Z ?_;refine yD (st0:=⟨[(13,.ref 1002 0 ((z 0).en.map kW).length),(14,.ref 1003 0 ((z 0).ks.map iA).length),(62,iA 0),(2,.sl false ((u.take 2).map qL)),(3,iA f4),(4,.ptr 4 0 0),(5,.ptr 5 0 0),(8,.ptr 8 0 0),(12,.ref 28 0 2),(61,iA 2)],[(5,.box (VB (z 0).d)),(28,.arr 1 [.ref 1006 0 ([]:List AV).length,.ref 1007 0 ([]:List AV).length] ⟨false,true⟩),(1002,.arr 3 ((z 0).en.map kW) true),(1003,.arr 1 ((z 0).ks.map iA) true),(1006,.arr 4 ([]:List AV) true),(1007,.arr 4 ([]:List AV) true),(4,.box [.sl false (c.js.map wD),.sl false (c.ags.map vX),iA c.per,iA c.cap,iA c.hold,iA c.lock]),(8,.box oq)]⟩) (by rw[a9];rfl) ?_;obtain⟨r0,O⟩:∃r,r=(io (cQ u 0).length).rs:=⟨_,rfl⟩;have bf:(z 1).R=(z 0).R++[r0]:=by rw[O,a7]
  have q0:(z 1).d=(io (cQ u 0).length).d/\(z 1).en=(io (cQ u 0).length).en/\(z 1).ks=(io (cQ u 0).length).ks:=by rw[a7];exact⟨rfl,rfl,rfl⟩
  have ax:=zA kW (z 0).en;have az:=zA iA (z 0).ks;by_cases L:(u.getD 0 dd).opn=true
  case' pos=>
   have B:cQ u 0=(u.getD 0 dd).its:=by unfold cQ;rw[Os ⟨zB,L⟩]
   have W:=(FB a4 0).1;rw[B]at W q0 a5 O;clear B;generalize u.getD 0 dd=x at *;obtain⟨op,A⟩:=x;dsimp only at *;subst L;rw[show qL ⟨true,A⟩= .agg [bA true,zD wK A]from Z]at ag;have a3:=zA wK A;refine WW ?_;refine zU (A) [5,1002,1003,28,1006,4,8,1007] [4,8,1007] [2,3,4,5,8,12,16,61,62,75,76] [13,14,77,2,3,4,5,8,12,16,61,62,75,76] Z (λi ga T U=>⟨(13,.ref 1002 0 ((io i).en.map kW).length)::(14,.ref 1003 0 ((io i).ks.map iA).length)::(77,iA i)::T,(5,.box (VB (io i).d))::(1002,.arr 3 ((io i).en.map kW) true)::(1003,.arr 1 ((io i).ks.map iA) true)::(28,.arr 1 [.ref 1006 0 ((io i).rs.map yC).length,.ref 1007 0 ([]:List AV).length] ⟨false,true⟩)::(1006,.arr 4 ((io i).rs.map yC) true)::U⟩) ?_;(conv=>whnf);refine⟨by(rw[a1];rfl),?_,?_⟩
   .intro k ga it post hx hk;have ar:=yI wK hx hk;have G:=zV hx hk;have C:A.getD k dd=it:=by rw[hx,<-hk];simp[py]
    obtain⟨h,V,hP,I⟩:=a5 k G;rw[C]at V;obtain⟨bs,bu,bx,b0⟩:=b3 k;have b6:=zA kW (io k).en;have b7:=zA iA (io k).ks;have ca:=zA yC (io k).rs;have E:=V.1;rw[I];dsimp only;rw[show((io k).rs++[h.p]).map yC=(io k).rs.map yC++[yC h.p] by simp,show∀e:En,((io k).en++[e]).map kW=(io k).en.map kW++[kW e]from λe=>by simp,C];rw[S]at E;unfold CW zK xC wK at E;unfold wK at ar;have br:(z 0).en.length<=2000/\(z 0).ks.length<=2000:=by omega
    clear hx C I V hP M kc km;generalize (io k).rs.map yC=cd,(io k).en.map kW=bb,h.p=p9,h.e=e9,h.d=d9 at *;generalize b2:h.k=k9 at *;generalize (io k).d=ba at *;obtain⟨pk,pt,pa,pd⟩:=p9;unfold yC MZ at E;dsimp only at E;unfold VB kW MZ yC;by_cases h0:0<=k9
    .rw[Os h0,show((io k).ks++[k9]).map iA=(io k).ks.map iA++[iA k9] by simp];generalize (io k).ks.map iA=av at *;refine zQ E ?_;rfl
    .rw[Of h0];generalize (io k).ks.map iA=av at *;refine zQ E ?_;rfl
   obtain⟨w1,w2,w3⟩:=q0;refine WW ?_
  case' neg=>
   have B:cQ u 0=[]:=by unfold cQ;rw[Of (λh=>L h.2)]
   rw[B,zBh,a1]at q0 O;obtain⟨w1,w2,w3⟩:=q0;have Y:(u.getD 0 dd).opn=false:=by simpa using L
   clear B L;generalize u.getD 0 dd=x at *;obtain⟨op,A⟩:=x;dsimp only at *;subst Y;rw[show qL ⟨false,A⟩= .agg [bA false,zD wK A]from Z]at ag;refine WW ?_
  all_goals clear ag ax az
  all_goals
   refine yD (st0:=⟨[(13,.ref 1002 0 ((z 1).en.map kW).length),(14,.ref 1003 0 ((z 1).ks.map iA).length),(62,iA 1),(2,.sl false ((u.take 2).map qL)),(3,iA f4),(4,.ptr 4 0 0),(5,.ptr 5 0 0),(8,.ptr 8 0 0),(12,.ref 28 0 2),(61,iA 2)],[(5,.box (VB (z 1).d)),(28,.arr 1 [.ref 1006 0 (r0.map yC).length,.ref 1007 0 ([]:List AV).length] ⟨false,true⟩),(1002,.arr 3 ((z 1).en.map kW) true),(1003,.arr 1 ((z 1).ks.map iA) true),(1006,.arr 4 (r0.map yC) true),(1007,.arr 4 ([]:List AV) true),(4,.box [.sl false (c.js.map wD),.sl false (c.ags.map vX),iA c.per,iA c.cap,iA c.hold,iA c.lock]),(8,.box oq)]⟩) (by rw[w1,w2,w3,O];rfl) ?_;obtain⟨r1,hr1⟩:∃r,r=(kh (cQ u 1).length).rs:=⟨_,rfl⟩;have bk:(z 2).R=(z 1).R++[r1]:=by rw[hr1,a8]
   have q1:(z 2).d=(kh (cQ u 1).length).d/\(z 2).en=(kh (cQ u 1).length).en/\(z 2).ks=(kh (cQ u 1).length).ks:=by rw[a8];exact⟨rfl,rfl,rfl⟩
   have ax:=zA kW (z 1).en;have az:=zA iA (z 1).ks;by_cases L:(u.getD 1 dd).opn=true
   case' pos=>
    have B:cQ u 1=(u.getD 1 dd).its:=by unfold cQ;rw[Os ⟨zB,L⟩]
    have W:=(FB a4 1).1;rw[B]at W q1 a6 hr1;clear B;generalize u.getD 1 dd=x at *;obtain⟨op,A⟩:=x;dsimp only at *;subst L;rw[show qL ⟨true,A⟩= .agg [bA true,zD wK A]from Z]at ap;have a3:=zA wK A;refine WW ?_;refine zU (A) [5,1002,1003,28,1007,4,8,1006] [4,8,1006] [2,3,4,5,8,12,16,61,62,75,76] [13,14,77,2,3,4,5,8,12,16,61,62,75,76] Z (λi ga T U=>⟨(13,.ref 1002 0 ((kh i).en.map kW).length)::(14,.ref 1003 0 ((kh i).ks.map iA).length)::(77,iA i)::T,(5,.box (VB (kh i).d))::(1002,.arr 3 ((kh i).en.map kW) true)::(1003,.arr 1 ((kh i).ks.map iA) true)::(28,.arr 1 [.ref 1006 0 (r0.map yC).length,.ref 1007 0 ((kh i).rs.map yC).length] ⟨false,true⟩)::(1007,.arr 4 ((kh i).rs.map yC) true)::U⟩) ?_;(conv=>whnf);refine⟨by(rw[a2];rfl),?_,?_⟩
    .intro k ga it post hx hk;have ar:=yI wK hx hk;have G:=zV hx hk;have C:A.getD k dd=it:=by rw[hx,<-hk];simp[py]
     obtain⟨h,V,hP,I⟩:=a6 k G;rw[C]at V;obtain⟨bs,bu,bx,b0⟩:=b4 k;have b6:=zA kW (kh k).en;have b7:=zA iA (kh k).ks;have ca:=zA yC (kh k).rs;have E:=V.1;rw[I];dsimp only;rw[show((kh k).rs++[h.p]).map yC=(kh k).rs.map yC++[yC h.p] by simp,show∀e:En,((kh k).en++[e]).map kW=(kh k).en.map kW++[kW e]from λe=>by simp,C];rw[S]at E;unfold CW zK xC wK at E;unfold wK at ar;have br:(z 1).en.length<=2000/\(z 1).ks.length<=2000:=by omega
     clear hx C I V hP M kc km;generalize (kh k).rs.map yC=cd,(kh k).en.map kW=bb,h.p=p9,h.e=e9,h.d=d9 at *;generalize b2:h.k=k9 at *;generalize (kh k).d=ba at *;obtain⟨pk,pt,pa,pd⟩:=p9;unfold yC MZ at E;dsimp only at E;unfold VB kW MZ yC;by_cases h0:0<=k9
     .rw[Os h0,show((kh k).ks++[k9]).map iA=(kh k).ks.map iA++[iA k9] by simp];generalize (kh k).ks.map iA=av at *;refine zQ E ?_;rfl
     .rw[Of h0];generalize (kh k).ks.map iA=av at *;refine zQ E ?_;rfl
    obtain⟨w1,w2,w3⟩:=q1;refine WW ?_
   case' neg=>
    have B:cQ u 1=[]:=by unfold cQ;rw[Of (λh=>L h.2)]
    rw[B,zBh,a2]at q1 hr1;obtain⟨w1,w2,w3⟩:=q1;have Y:(u.getD 1 dd).opn=false:=by simpa using L
    clear B L;generalize u.getD 1 dd=x at *;obtain⟨op,A⟩:=x;dsimp only at *;subst Y;rw[show qL ⟨false,A⟩= .agg [bA false,zD wK A]from Z]at ap;refine WW ?_
   all_goals clear ap ax az
   all_goals
    refine yD (st0:=⟨[(13,.ref 1002 0 ((z 2).en.map kW).length),(14,.ref 1003 0 ((z 2).ks.map iA).length),(62,iA 2),(2,.sl false ((u.take 2).map qL)),(3,iA f4),(4,.ptr 4 0 0),(5,.ptr 5 0 0),(8,.ptr 8 0 0),(12,.ref 28 0 2),(61,iA 2)],[(5,.box (VB (z 2).d)),(28,.arr 1 [.ref 1006 0 (r0.map yC).length,.ref 1007 0 (r1.map yC).length] ⟨false,true⟩),(1002,.arr 3 ((z 2).en.map kW) true),(1003,.arr 1 ((z 2).ks.map iA) true),(1006,.arr 4 (r0.map yC) true),(1007,.arr 4 (r1.map yC) true),(4,.box [.sl false (c.js.map wD),.sl false (c.ags.map vX),iA c.per,iA c.cap,iA c.hold,iA c.lock]),(8,.box oq)]⟩) (by rw[w1,w2,w3,hr1];rfl) ?_;refine zQ km ?_;refine zH [] Z Z ?_ Z
    show AV.tup [zK (xw (z 2).d f4),.sl false [.sl false (oj _ (pi 0 (r0.map yC))),.sl false (oj _ (pi 0 (r1.map yC)))],.sl false (oj _ (pi 0 ((z 2).en.map kW))),.sl false (oj _ (pi 0 ((z 2).ks.map iA)))]=_
    simp only[zAu,zAb];unfold ww;rw[bk,bf,a9];rfl
structure Vw where
 fl:Bool
 ov:Bool
 co:List Int
 cn:List Int
instance:Inhabited Vw:=⟨⟨false,false,[],[]⟩⟩
def wZ (v:Vw):AV:= .agg [bA v.fl,bA v.ov,zD iA v.co,zD iA v.cn]
structure Qb (v:Vw):Prop where
 n:v.co.length<=8
 m:v.cn.length<=8
 c:∀c∈v.co,0<=c/\c<=2
def dM (n:Int):Int:=IntKind.u8.wrap n
def DZ (a b:Bool):Int:=(if a=true then 1 else 0)+(if b=true then 2 else 0)
def vL (l:List Int):Nat->Int
 |0=>0
 |i+1=>vL l i+l.getD i 0*p2 (2*(i:Int))
def A7 (v:Vw):List Int:=[DZ v.fl v.ov,vO (vL v.co (ln v.co)) 8,dM (vL v.co (ln v.co))]++v.cn.map dM
def UN (l:List Vw):List Int:=(l.map A7).flatten
def nq (i:Nat):p2 (2*((i+1:Nat):Int))=p2 (2*(i:Int))*4:=by
 unfold p2;rw[show(2*((i+1:Nat):Int)).toNat=(2*(i:Int)).toNat+2 by omega,Int.pow_add];rfl
def dN (i:Nat) (h:i<=8):1<=p2 (2*(i:Int))/\p2 (2*(i:Int))<=65536:=by
 have:i=0\/i=1\/i=2\/i=3\/i=4\/i=5\/i=6\/i=7\/i=8:=by omega
 rcases this with rfl|rfl|rfl|rfl|rfl|rfl|rfl|rfl|rfl<;>decide
theorem MY {l:List Int} (h:∀c∈l,0<=c/\c<=2):∀i,i<=ln l->i<=8->0<=vL l i/\vL l i<p2 (2*(i:Int))
 |0,_,_=>by simp[vL,p2]
 | i+1,h1,h2=>by
  have A:=MY h i zB zB
  have u:l.getD i 0∈l:=by
   rw[zAl,zA4 zB];exact zD9 _
  have hc:=h _ u;have z:=dN i zB;rw[nq,vL];generalize l.getD i 0=c,p2 (2*(i:Int))=w at *;have:c=0\/c=1\/c=2:=by omega
  rcases this with rfl|rfl|rfl<;>omega
def M3 {n:Int} (u:0<=n) (h1:n<65536):0<=vO n 8/\vO n 8<=255:=by grind [vO]
def Pb (ga:List Vw) (v:Vw):(UN (ga++[v])).map yA=(UN ga).map yA++[yA (DZ v.fl v.ov),yA (vO (vL v.co (ln v.co)) 8),yA (dM (vL v.co (ln v.co)))]++v.cn.map (λn=>yA (dM n)):=by
 unfold UN A7;simp
def aI {l:List Vw} (h:∀v∈l,Qb v):(UN l).length<=11*ln l:=by
 unfold UN
 induction l with
 |nil=>simp
 |cons v l u=>
  have h1:=u λx hx=>h x OT
  have h2:=(h v zW).m
  grind [UN,List.flatten_cons,List.length_append,List.length_cons,A7,List.length_map,List.length_nil]
theorem mq (l:List Vw) (hn:ln l<=1000) (hb:∀v∈l,Qb v):zO 128 [zD wZ l] [] (.ref 1001 0 ((UN l).map yA).length) [(1001,.arr 1 ((UN l).map yA) true)]:=by
 have hl:=zA wZ l;have ac:=aI hb;refine eM call128 λF hF=>?_
 refine WW ?_;refine zS 3 1001 1 Z Z Z ?_;refine zU (l) [1001] [] [13,14] [3,15,13,14] Z (λi ga T U=>⟨(3,.ref 1001 0 ((UN ga).map yA).length)::(15,iA i)::T,(1001,.arr 1 ((UN ga).map yA) true)::U⟩) (Lq ?_ ?_)
 .intro i ga v post hx hi;have hy:=yI wZ hx hi;have av:=zV hx hi;have hv:=hb v (yV hx);have ap:=aI (l:=ga) (λw hw=>hb w (by rw[hx];simp[hw]));have az:((UN ga).map yA).length<=11000:=by rw[zAa];omega
  rw[Pb];clear hx ap ac;generalize (UN ga).map yA=xs at *;have ar:=zA iA v.co;have au:=zA iA v.cn;have C:=λk hk=>MY hv.c k hk (zBi hk hv.n)
  have ag:=hv.n;have ax:=hv.m;obtain⟨fl,ov,A,Y⟩:=v;dsimp only at *;rw[show wZ ⟨fl,ov,A,Y⟩= .agg [bA fl,bA ov,zD iA A,zD iA Y]from Z]at hy;have E:=C (ln A) (zAg _);have L:=dN (ln A) ag;have M:=M3 (n:=vL A (ln A)) E.1 zB
  cases fl<;>cases ov
  ·(refine WW ?_)
   refine zU (A) [5,1001] [5,1001] [3,5,6,13,14,15,28,29] [7,8,30,3,5,6,13,14,15,28,29] Z (λi ga T U=>⟨(7,iA (vL A i))::(8,iA (p2 (2*(i:Int))))::(30,iA i)::T,U⟩) (Lq ?_ ?_)
   .intro k z c B u hk;have I:=yI iA u hk;have G:=zV u hk;have R:=hv.c c (yV u);have S:A.getD k 0=c:=by rw[u,<-hk];simp[py]
    have O:=C k zB;have V:=dN k zB;have e1:vL A (k+1)=vL A k+c*p2 (2*(k:Int)):=by rw[vL,S]
    rw[e1,nq];clear u C E L M e1 hv;generalize vL A k=s,p2 (2*(k:Int))=w at *;have:c=0\/c=1\/c=2:=by omega
    rcases this with rfl|rfl|rfl
    all_goals
     refine WW ?_;rfl
   .clear C hv;generalize vL A (ln A)=s at *;refine WW ?_;refine zU (Y) [1001] [] [13,14,15,53,54] [3,55,13,14,15,53,54] Z (λi ga T U=>⟨(3,.ref 1001 0 (xs++[yA (DZ false false),yA (vO s 8),yA (dM s)]++ga.map (λn=>yA (dM n))).length)::(55,iA i)::T,(1001,.arr 1 (xs++[yA (DZ false false),yA (vO s 8),yA (dM s)]++ga.map (λn=>yA (dM n))) true)::U⟩) ?_;(conv=>whnf);refine⟨by(simp only[zBt,zA2];rfl),?_,?_⟩
    .intro k z c B u hk;have I:=yI iA u hk;have G:=zV u hk;have W:(z.map (λn=>yA (dM n))).length=k:=by rw[zAa];exact hk
     rw[zAf,zBk,zBt,<-zA0];clear u;generalize z.map (λn=>yA (dM n))=zs2 at *;refine WW ?_;rfl
    ·(refine WW ?_)
     rfl
  ·(refine WW ?_)
   refine zU (A) [5,1001] [5,1001] [3,5,6,13,14,15,28,29] [7,8,30,3,5,6,13,14,15,28,29] Z (λi ga T U=>⟨(7,iA (vL A i))::(8,iA (p2 (2*(i:Int))))::(30,iA i)::T,U⟩) (Lq ?_ ?_)
   .intro k z c B u hk;have I:=yI iA u hk;have G:=zV u hk;have R:=hv.c c (yV u);have S:A.getD k 0=c:=by rw[u,<-hk];simp[py]
    have O:=C k zB;have V:=dN k zB;have e1:vL A (k+1)=vL A k+c*p2 (2*(k:Int)):=by rw[vL,S]
    rw[e1,nq];clear u C E L M e1 hv;generalize vL A k=s,p2 (2*(k:Int))=w at *;have:c=0\/c=1\/c=2:=by omega
    rcases this with rfl|rfl|rfl
    all_goals
     refine WW ?_;rfl
   .clear C hv;generalize vL A (ln A)=s at *;refine WW ?_;refine zU (Y) [1001] [] [13,14,15,53,54] [3,55,13,14,15,53,54] Z (λi ga T U=>⟨(3,.ref 1001 0 (xs++[yA (DZ false true),yA (vO s 8),yA (dM s)]++ga.map (λn=>yA (dM n))).length)::(55,iA i)::T,(1001,.arr 1 (xs++[yA (DZ false true),yA (vO s 8),yA (dM s)]++ga.map (λn=>yA (dM n))) true)::U⟩) ?_;(conv=>whnf);refine⟨by(simp only[zBt,zA2];rfl),?_,?_⟩
    .intro k z c B u hk;have I:=yI iA u hk;have G:=zV u hk;have W:(z.map (λn=>yA (dM n))).length=k:=by rw[zAa];exact hk
     rw[zAf,zBk,zBt,<-zA0];clear u;generalize z.map (λn=>yA (dM n))=zs2 at *;refine WW ?_;rfl
    ·(refine WW ?_)
     rfl
  ·(refine WW ?_)
   refine zU (A) [5,1001] [5,1001] [3,5,6,13,14,15,28,29] [7,8,30,3,5,6,13,14,15,28,29] Z (λi ga T U=>⟨(7,iA (vL A i))::(8,iA (p2 (2*(i:Int))))::(30,iA i)::T,U⟩) (Lq ?_ ?_)
   .intro k z c B u hk;have I:=yI iA u hk;have G:=zV u hk;have R:=hv.c c (yV u);have S:A.getD k 0=c:=by rw[u,<-hk];simp[py]
    have O:=C k zB;have V:=dN k zB;have e1:vL A (k+1)=vL A k+c*p2 (2*(k:Int)):=by rw[vL,S]
    rw[e1,nq];clear u C E L M e1 hv;generalize vL A k=s,p2 (2*(k:Int))=w at *;have:c=0\/c=1\/c=2:=by omega
    rcases this with rfl|rfl|rfl
    all_goals
     refine WW ?_;rfl
   .clear C hv;generalize vL A (ln A)=s at *;refine WW ?_;refine zU (Y) [1001] [] [13,14,15,53,54] [3,55,13,14,15,53,54] Z (λi ga T U=>⟨(3,.ref 1001 0 (xs++[yA (DZ true false),yA (vO s 8),yA (dM s)]++ga.map (λn=>yA (dM n))).length)::(55,iA i)::T,(1001,.arr 1 (xs++[yA (DZ true false),yA (vO s 8),yA (dM s)]++ga.map (λn=>yA (dM n))) true)::U⟩) ?_;(conv=>whnf);refine⟨by(simp only[zBt,zA2];rfl),?_,?_⟩
    .intro k z c B u hk;have I:=yI iA u hk;have G:=zV u hk;have W:(z.map (λn=>yA (dM n))).length=k:=by rw[zAa];exact hk
     rw[zAf,zBk,zBt,<-zA0];clear u;generalize z.map (λn=>yA (dM n))=zs2 at *;refine WW ?_;rfl
    ·(refine WW ?_)
     rfl
  ·(refine WW ?_)
   refine zU (A) [5,1001] [5,1001] [3,5,6,13,14,15,28,29] [7,8,30,3,5,6,13,14,15,28,29] Z (λi ga T U=>⟨(7,iA (vL A i))::(8,iA (p2 (2*(i:Int))))::(30,iA i)::T,U⟩) (Lq ?_ ?_)
   .intro k z c B u hk;have I:=yI iA u hk;have G:=zV u hk;have R:=hv.c c (yV u);have S:A.getD k 0=c:=by rw[u,<-hk];simp[py]
    have O:=C k zB;have V:=dN k zB;have e1:vL A (k+1)=vL A k+c*p2 (2*(k:Int)):=by rw[vL,S]
    rw[e1,nq];clear u C E L M e1 hv;generalize vL A k=s,p2 (2*(k:Int))=w at *;have:c=0\/c=1\/c=2:=by omega
    rcases this with rfl|rfl|rfl
    all_goals
     refine WW ?_;rfl
   .clear C hv;generalize vL A (ln A)=s at *;refine WW ?_;refine zU (Y) [1001] [] [13,14,15,53,54] [3,55,13,14,15,53,54] Z (λi ga T U=>⟨(3,.ref 1001 0 (xs++[yA (DZ true true),yA (vO s 8),yA (dM s)]++ga.map (λn=>yA (dM n))).length)::(55,iA i)::T,(1001,.arr 1 (xs++[yA (DZ true true),yA (vO s 8),yA (dM s)]++ga.map (λn=>yA (dM n))) true)::U⟩) ?_;(conv=>whnf);refine⟨by(simp only[zBt,zA2];rfl),?_,?_⟩
    .intro k z c B u hk;have I:=yI iA u hk;have G:=zV u hk;have W:(z.map (λn=>yA (dM n))).length=k:=by rw[zAa];exact hk
     rw[zAf,zBk,zBt,<-zA0];clear u;generalize z.map (λn=>yA (dM n))=zs2 at *;refine WW ?_;rfl
    ·(refine WW ?_)
     rfl
 ·(refine WW ?_)
  exact zP [1001] Z Z Z Z
def NA {c:Int} {k:Nat} (hk:k<8) (hc:0<=c/\c<=2):IntKind.i64.wrap (c*2 ^ (min (2*(k:Int)).toNat IntKind.i64.bits))=c*p2 (2*(k:Int)):=by
 have hb:IntKind.i64.bits=64:=rfl;have h1:=dN k zB;rw[hb,show min (2*(k:Int)).toNat 64=(2*(k:Int)).toNat by omega];have h2:c=0\/c=1\/c=2:=by omega
 unfold p2 at h1;refine jD (k:= .i64) ⟨?_,?_⟩
 .show -9223372036854775808<=_
  rcases h2 with rfl|rfl|rfl<;>omega
 .show _<=9223372036854775807
  rcases h2 with rfl|rfl|rfl<;>omega
theorem qh (l:List Vw) (hn:ln l<=1000) (hb:∀v∈l,Qb v):zO 206 [zD wZ l] [] (.ref 1001 0 ((UN l).map yA).length) [(1001,.arr 1 ((UN l).map yA) true)]:=by
 have hl:=zA wZ l;have ag:=aI hb;refine eM call206 λF hF=>?_
 refine WW ?_;refine zS 3 1001 1 Z Z Z ?_;refine zU (l) [1001] [] [12,13] [3,14,12,13] Z (λi ga T U=>⟨(3,.ref 1001 0 ((UN ga).map yA).length)::(14,iA i)::T,(1001,.arr 1 ((UN ga).map yA) true)::U⟩) (Lq ?_ ?_)
 .intro i ga v post hx hi;have hy:=yI wZ hx hi;have ax:=zV hx hi;have hv:=hb v (yV hx);have ar:=aI (l:=ga) (λw hw=>hb w (by rw[hx];simp[hw]));have a1:((UN ga).map yA).length<=11000:=by rw[zAa];omega
  rw[Pb];clear hx ar ag;generalize (UN ga).map yA=xs at *;have au:=zA iA v.co;have av:=zA iA v.cn;have C:=λk hk=>MY hv.c k hk (zBi hk hv.n)
  have ap:=hv.n;have az:=hv.m;obtain⟨fl,ov,A,cn⟩:=v;dsimp only at *;rw[show wZ ⟨fl,ov,A,cn⟩= .agg [bA fl,bA ov,zD iA A,zD iA cn]from Z]at hy;have E:=C (ln A) (zAg _);have O:=dN (ln A) ap;have R:=M3 (n:=vL A (ln A)) E.1 zB
  cases fl<;>cases ov
  ·(refine WW ?_)
   refine zU (A) [5,1001] [5,1001] [3,5,6,12,13,14,27,28] [7,29,3,5,6,12,13,14,27,28] Z (λi ga T U=>⟨(7,iA (vL A i))::(29,iA i)::T,U⟩) (Lq ?_ ?_)
   .intro k z c B u hk;have M:=yI iA u hk;have G:=zV u hk;have V:=hv.c c (yV u);have W:A.getD k 0=c:=by rw[u,<-hk];simp[py]
    have S:=C k zB;have Y:=dN k zB;have e1:vL A (k+1)=vL A k+c*p2 (2*(k:Int)):=by rw[vL,W]
    rw[e1];have I:=NA (c:=0) (k:=k) zB zB;have L:=NA (c:=2) (k:=k) zB zB;clear u C E O R e1 hv;generalize vL A k=s at *;have:c=0\/c=1\/c=2:=by omega
    rcases this with rfl|rfl|rfl
    ·(refine WW ?_)
     rw[I];rfl
    ·(refine WW ?_)
     rw[zFa];rfl
    ·(refine WW ?_)
     rw[L];rfl
   .clear C hv;generalize vL A (ln A)=s at *;refine WW ?_;refine zU (cn) [1001] [] [12,13,14,52,53] [3,54,12,13,14,52,53] Z (λi ga T U=>⟨(3,.ref 1001 0 (xs++[yA (DZ false false),yA (vO s 8),yA (dM s)]++ga.map (λn=>yA (dM n))).length)::(54,iA i)::T,(1001,.arr 1 (xs++[yA (DZ false false),yA (vO s 8),yA (dM s)]++ga.map (λn=>yA (dM n))) true)::U⟩) ?_;(conv=>whnf);refine⟨by(simp only[zBt,zA2];rfl),?_,?_⟩
    .intro k z c B u hk;have M:=yI iA u hk;have G:=zV u hk;have ac:(z.map (λn=>yA (dM n))).length=k:=by rw[zAa];exact hk
     rw[zAf,zBk,zBt,<-zA0];clear u;generalize z.map (λn=>yA (dM n))=zs2 at *;refine WW ?_;rfl
    ·(refine WW ?_)
     rfl
  ·(refine WW ?_)
   refine zU (A) [5,1001] [5,1001] [3,5,6,12,13,14,27,28] [7,29,3,5,6,12,13,14,27,28] Z (λi ga T U=>⟨(7,iA (vL A i))::(29,iA i)::T,U⟩) (Lq ?_ ?_)
   .intro k z c B u hk;have M:=yI iA u hk;have G:=zV u hk;have V:=hv.c c (yV u);have W:A.getD k 0=c:=by rw[u,<-hk];simp[py]
    have S:=C k zB;have Y:=dN k zB;have e1:vL A (k+1)=vL A k+c*p2 (2*(k:Int)):=by rw[vL,W]
    rw[e1];have I:=NA (c:=0) (k:=k) zB zB;have L:=NA (c:=2) (k:=k) zB zB;clear u C E O R e1 hv;generalize vL A k=s at *;have:c=0\/c=1\/c=2:=by omega
    rcases this with rfl|rfl|rfl
    ·(refine WW ?_)
     rw[I];rfl
    ·(refine WW ?_)
     rw[zFa];rfl
    ·(refine WW ?_)
     rw[L];rfl
   .clear C hv;generalize vL A (ln A)=s at *;refine WW ?_;refine zU (cn) [1001] [] [12,13,14,52,53] [3,54,12,13,14,52,53] Z (λi ga T U=>⟨(3,.ref 1001 0 (xs++[yA (DZ false true),yA (vO s 8),yA (dM s)]++ga.map (λn=>yA (dM n))).length)::(54,iA i)::T,(1001,.arr 1 (xs++[yA (DZ false true),yA (vO s 8),yA (dM s)]++ga.map (λn=>yA (dM n))) true)::U⟩) ?_;(conv=>whnf);refine⟨by(simp only[zBt,zA2];rfl),?_,?_⟩
    .intro k z c B u hk;have M:=yI iA u hk;have G:=zV u hk;have ac:(z.map (λn=>yA (dM n))).length=k:=by rw[zAa];exact hk
     rw[zAf,zBk,zBt,<-zA0];clear u;generalize z.map (λn=>yA (dM n))=zs2 at *;refine WW ?_;rfl
    ·(refine WW ?_)
     rfl
  ·(refine WW ?_)
   refine zU (A) [5,1001] [5,1001] [3,5,6,12,13,14,27,28] [7,29,3,5,6,12,13,14,27,28] Z (λi ga T U=>⟨(7,iA (vL A i))::(29,iA i)::T,U⟩) (Lq ?_ ?_)
   .intro k z c B u hk;have M:=yI iA u hk;have G:=zV u hk;have V:=hv.c c (yV u);have W:A.getD k 0=c:=by rw[u,<-hk];simp[py]
    have S:=C k zB;have Y:=dN k zB;have e1:vL A (k+1)=vL A k+c*p2 (2*(k:Int)):=by rw[vL,W]
    rw[e1];have I:=NA (c:=0) (k:=k) zB zB;have L:=NA (c:=2) (k:=k) zB zB;clear u C E O R e1 hv;generalize vL A k=s at *;have:c=0\/c=1\/c=2:=by omega
    rcases this with rfl|rfl|rfl
    ·(refine WW ?_)
     rw[I];rfl
    ·(refine WW ?_)
     rw[zFa];rfl
    ·(refine WW ?_)
     rw[L];rfl
   .clear C hv;generalize vL A (ln A)=s at *;refine WW ?_;refine zU (cn) [1001] [] [12,13,14,52,53] [3,54,12,13,14,52,53] Z (λi ga T U=>⟨(3,.ref 1001 0 (xs++[yA (DZ true false),yA (vO s 8),yA (dM s)]++ga.map (λn=>yA (dM n))).length)::(54,iA i)::T,(1001,.arr 1 (xs++[yA (DZ true false),yA (vO s 8),yA (dM s)]++ga.map (λn=>yA (dM n))) true)::U⟩) ?_;(conv=>whnf);refine⟨by(simp only[zBt,zA2];rfl),?_,?_⟩
    .intro k z c B u hk;have M:=yI iA u hk;have G:=zV u hk;have ac:(z.map (λn=>yA (dM n))).length=k:=by rw[zAa];exact hk
     rw[zAf,zBk,zBt,<-zA0];clear u;generalize z.map (λn=>yA (dM n))=zs2 at *;refine WW ?_;rfl
    ·(refine WW ?_)
     rfl
  ·(refine WW ?_)
   refine zU (A) [5,1001] [5,1001] [3,5,6,12,13,14,27,28] [7,29,3,5,6,12,13,14,27,28] Z (λi ga T U=>⟨(7,iA (vL A i))::(29,iA i)::T,U⟩) (Lq ?_ ?_)
   .intro k z c B u hk;have M:=yI iA u hk;have G:=zV u hk;have V:=hv.c c (yV u);have W:A.getD k 0=c:=by rw[u,<-hk];simp[py]
    have S:=C k zB;have Y:=dN k zB;have e1:vL A (k+1)=vL A k+c*p2 (2*(k:Int)):=by rw[vL,W]
    rw[e1];have I:=NA (c:=0) (k:=k) zB zB;have L:=NA (c:=2) (k:=k) zB zB;clear u C E O R e1 hv;generalize vL A k=s at *;have:c=0\/c=1\/c=2:=by omega
    rcases this with rfl|rfl|rfl
    ·(refine WW ?_)
     rw[I];rfl
    ·(refine WW ?_)
     rw[zFa];rfl
    ·(refine WW ?_)
     rw[L];rfl
   .clear C hv;generalize vL A (ln A)=s at *;refine WW ?_;refine zU (cn) [1001] [] [12,13,14,52,53] [3,54,12,13,14,52,53] Z (λi ga T U=>⟨(3,.ref 1001 0 (xs++[yA (DZ true true),yA (vO s 8),yA (dM s)]++ga.map (λn=>yA (dM n))).length)::(54,iA i)::T,(1001,.arr 1 (xs++[yA (DZ true true),yA (vO s 8),yA (dM s)]++ga.map (λn=>yA (dM n))) true)::U⟩) ?_;(conv=>whnf);refine⟨by(simp only[zBt,zA2];rfl),?_,?_⟩
    .intro k z c B u hk;have M:=yI iA u hk;have G:=zV u hk;have ac:(z.map (λn=>yA (dM n))).length=k:=by rw[zAa];exact hk
     rw[zAf,zBk,zBt,<-zA0];clear u;generalize z.map (λn=>yA (dM n))=zs2 at *;refine WW ?_;rfl
    ·(refine WW ?_)
     rfl
 ·(refine WW ?_)
  exact zP [1001] Z Z Z Z
def g9 (g:Lg) (w:Vw):Int:=if 0<=g.ph/\g.ph<(ln w.co:Int)then(if w.ov=true/\w.fl=false/\w.co.getD g.ph.toNat dd=1 then 3 else 2)else 1
def pj (g:Lg) (v:List Vw) (f4:Int):Int:=if CQ g f4=true/\0<=g.jn/\g.jn<(ln v:Int)then g9 g (v.getD g.jn.toNat dd)else 1
def Se (g:Lg) (v:List Vw) (f4:Int):1<=pj g v f4/\pj g v f4<=3:=by grind [pj,g9]
def Ob (g:Lg) (v:List Vw) (f4:Int) {Q:Int->Prop} (q1:CQ g f4=false->Q 1) (B:CQ g f4=true->g.jn<0->Q 1) (C:CQ g f4=true->0<=g.jn->(ln v:Int)<=g.jn->Q 1)
  (q4:∀w,CQ g f4=true->0<=g.jn->g.jn<(ln v:Int)->(v.map wZ)[g.jn.toNat]? =some (wZ w)->g.ph<0->Q 1)
  (E:∀w,CQ g f4=true->0<=g.jn->g.jn<(ln v:Int)->(v.map wZ)[g.jn.toNat]? =some (wZ w)->0<=g.ph->(ln w.co:Int)<=g.ph->Q 1)
  (G:∀w c,CQ g f4=true->0<=g.jn->g.jn<(ln v:Int)->(v.map wZ)[g.jn.toNat]? =some (wZ w)->0<=g.ph->g.ph<(ln w.co:Int)->(w.co.map iA)[g.ph.toNat]? =some (iA c)->Q (if w.ov=true/\w.fl=false/\c=1 then 3 else 2)):Q (pj g v f4):=by
 unfold pj
 cases hl:CQ g f4 with
 |false=>rw[Of (λh=>by cases h.1)];exact q1 hl
 |true=>
  by_cases j0:g.jn<0
  .grind
  by_cases j1:(ln v:Int)<=g.jn
  .grind
  have u:=yF wZ v g.jn zB zB;rw[Os ⟨rfl,zB,zB⟩];generalize v.getD g.jn.toNat dd=w at *;unfold g9;by_cases z:g.ph<0
  .grind
  by_cases A:(ln w.co:Int)<=g.ph
  .grind
  simp_all [CQ,q4,wZ,iA,pj]
def L3 (g:Lg) (v:List Vw) (f4:Int) (S:ln v<=1000) (hb:∀w∈v,ln w.co<=1000):zO 226 [yN g,zD wZ v,iA f4] [] (iA (pj g v f4)) []:=by
 have u:=Un g f4;have O:=zA wZ v;have hb:∀w,(v.map wZ)[g.jn.toNat]? =some (wZ w)->(w.co.map iA).length=ln w.co:=λw _=>zA iA w.co
 unfold yN at *;refine Ob (Q:=λr=>zO 226 [.agg [iA g.jn,iA g.ph,iA g.fr,iA g.to,iA g.sc],zD wZ v,iA f4] [] (iA r) []) g v f4 (λh1=>?_) (λh1 h2=>?_) (λh1 h2 B=>?_) (λw h1 h2 B z L=>?_) (λw h1 h2 B z L M=>?_) (λw c h1 h2 B z L M R=>?_)
 .rw[h1]at u;refine eM call226 λF hF=>?_
  exact lk u
 .rw[h1]at u;refine eM call226 λF hF=>?_
  exact lk u
 .rw[h1]at u;refine eM call226 λF hF=>?_
  exact lk u
 .rw[h1]at u;unfold wZ at z;refine eM call226 λF hF=>?_
  exact lk u
 .rw[h1]at u;have C:=hb w z;unfold wZ zD at z;refine eM call226 λF hF=>?_
  exact lk u
 .rw[h1]at u;have C:=hb w z;clear hb;obtain⟨fl,E,I,G⟩:=w;rw[show wZ ⟨fl,E,I,G⟩= .agg [bA fl,bA E,zD iA I,zD iA G]from Z]at z;dsimp only at *;cases E
  ·(refine eM call226 λF hF=>?_)
   exact lk u
  cases fl
  case true=>
   refine eM call226 λF hF=>?_
   exact lk u
  by_cases A:c=1
  .rw[Os ⟨rfl,rfl,A⟩];refine eM call226 λF hF=>?_
   exact lk u
  .rw[Of (λh=>A h.2.2)];refine eM call226 λF hF=>?_
   exact lk u
def Gv (g:Lg) (v:List Vw) (f4:Int) (S:ln v<=1000) (hb:∀w∈v,ln w.co<=1000):zO 247 [yN g,zD wZ v,iA f4] [] (iA (pj g v f4)) []:=by
 have u:=ug g f4;have O:=zA wZ v;have hb:∀w,(v.map wZ)[g.jn.toNat]? =some (wZ w)->(w.co.map iA).length=ln w.co:=λw _=>zA iA w.co
 unfold yN at *;refine Ob (Q:=λr=>zO 247 [.agg [iA g.jn,iA g.ph,iA g.fr,iA g.to,iA g.sc],zD wZ v,iA f4] [] (iA r) []) g v f4 (λh1=>?_) (λh1 h2=>?_) (λh1 h2 B=>?_) (λw h1 h2 B z L=>?_) (λw h1 h2 B z L M=>?_) (λw c h1 h2 B z L M R=>?_)
 .rw[h1]at u;refine eM call247 λF hF=>?_
  exact lk u
 .rw[h1]at u;refine eM call247 λF hF=>?_
  exact lk u
 .rw[h1]at u;refine eM call247 λF hF=>?_
  exact lk u
 .rw[h1]at u;unfold wZ at z;refine eM call247 λF hF=>?_
  exact lk u
 .rw[h1]at u;have C:=hb w z;unfold wZ zD at z;refine eM call247 λF hF=>?_
  exact lk u
 .rw[h1]at u;have C:=hb w z;clear hb;obtain⟨fl,E,I,G⟩:=w;rw[show wZ ⟨fl,E,I,G⟩= .agg [bA fl,bA E,zD iA I,zD iA G]from Z]at z;dsimp only at *;cases E
  ·(refine eM call247 λF hF=>?_)
   exact lk u
  cases fl
  case true=>
   refine eM call247 λF hF=>?_
   exact lk u
  by_cases A:c=1
  .rw[Os ⟨rfl,rfl,A⟩];refine eM call247 λF hF=>?_
   exact lk u
  .rw[Of (λh=>A h.2.2)];refine eM call247 λF hF=>?_
   exact lk u
def Re (l:List Rq) (v:List Vw) (f4:Int) (i:Nat):Int:=if i/3<ln l/\i % 3<(l.getD (i/3) dd).legs.length then pj ((l.getD (i/3) dd).legs.getD (i % 3) dd) v f4 else 0
def PB (l:List Rq) (v:List Vw) (f4:Int) (n:Nat):List Int:=(ny n).map (Re l v f4)
def Nb (l:List Rq) (v:List Vw) (f4:Int) (N i:Nat):List Int:=(ny N).map λj=>if j<i then Re l v f4 j else 0
def jh (l:List Rq) (v:List Vw) (f4:Int) (N i:Nat):(Nb l v f4 N i).length=N:=by simp[Nb]
def lq (l:List Rq) (v:List Vw) (f4:Int) (N:Nat):(Nb l v f4 N 0).map yA=nm N (yA 0):=by
 apply zBb;intro j;unfold Nb;rw[zAi,zAi,zCj];by_cases hj:j<N
 .rw[zBu hj,Os hj];simp
 .rw[zB2 uH,Of hj];rfl
def Qe (l:List Rq) (v:List Vw) (f4:Int) (N k j:Nat):((Nb l v f4 N k).map yA)[j]? =if j<N then some (yA (if j<k then Re l v f4 j else 0))else none:=by
 unfold Nb;rw[zAi,zAi];by_cases hj:j<N
 .rw[zBu hj,Os hj];rfl
 .rw[zB2 uH,Of hj];rfl
def tq (l:List Rq) (v:List Vw) (f4:Int) (N i:Nat) (hi:i<N):(Nb l v f4 N (i+1)).map yA=((Nb l v f4 N i).map yA).set i (yA (Re l v f4 i)):=by
 apply zBb;intro j;rw[zDk,Qe,Qe,zAa,jh];by_cases u:i=j
 .subst u;rw[Os hi,Os Z,Os hi,Os (Nat.lt_succ_self i)]
 .rw[Of u];by_cases hj:j<N
  .rw[Os hj,Os hj];by_cases h2:j<i
   .rw[Os zB,Os h2]
   .rw[Of zB,Of h2]
  .rw[Of hj,Of hj]
def Fv (l:List Rq) (v:List Vw) (f4:Int) (N:Nat):Nb l v f4 N N=PB l v f4 N:=by
 unfold Nb PB;apply List.map_congr_left;intro j hj;rw[Os (zA3.1 hj)]
def iq (l:List Rq) (v:List Vw) (f4:Int) (n:Nat):(PB l v f4 (n+1)).map yA=(PB l v f4 n).map yA++[yA (Re l v f4 n)]:=by
 unfold PB;rw[zCf];simp
theorem Dv (l:List Rq) (q:Nat) (v:List Vw) (f4:Int) (hq:q<=1000) (hl:ln l<=1000) (C:∀r∈l,ln r.legs<=1000) (S:ln v<=1000) (hb:∀w∈v,ln w.co<=1000):
  zO 184 [zD zX l,iA q,zD wZ v,iA f4] [] (zD yA (PB l v f4 (q*3))) []:=by
 have R:=zA zX l;by_cases G:q=0
 .subst G;refine eM call184 λF hF=>?_
  exact lc
 have B:=lq l v f4 (q*3);have Y:=zA wZ v;refine eM call184 λF hF=>?_
 refine WW ?_;have L:q*3<=3000:=by omega
 generalize q*3=N at *;refine zN (N) [21] [] [0,2,3,9,23] [24,0,2,3,9,23] Z (λi T U=>⟨(24,iA i)::T,(21,.arr 1 ((Nb l v f4 N i).map yA) false)::U⟩) ?_;(conv=>whnf);refine⟨by(rw[B];rfl),?_,?_⟩
 .intro i hi;have W:(i:Int).tdiv 3=((i/3:Nat):Int):=by rw[zCe zB];omega
  have hk:(i:Int).tmod 3=((i % 3:Nat):Int):=by rw[zBm zB];omega
  have O:UJ .i64 ((i:Int).tdiv 3):=⟨by show -9223372036854775808<=_;omega,by show _<=9223372036854775807;omega⟩;have V:((Nb l v f4 N i).map yA).length=N:=by rw[zAa,jh]
  have e:=tq l v f4 N i hi;rw[e];have ar:((Nb l v f4 N i).map yA)[i]? =some (yA (if i<i then Re l v f4 i else 0)):=by rw[Qe,Os hi]
  have A:∀y:AV,(((Nb l v f4 N i).map yA).set i y)[i]? =some y:=λy=>zA6 zB
  by_cases hr1:i/3<ln l
  .have hy:(l.map zX)[((i:Int).tdiv 3).toNat]? =some (zX (l.getD (i/3) dd)):=by rw[W];exact zJ zX l _ hr1
   have ac:(l.getD (i/3) dd).legs.length<=1000:=C _ Dx;have ag:=zA yN (l.getD (i/3) dd).legs
   have z:Re l v f4 i=if i % 3<(l.getD (i/3) dd).legs.length then pj ((l.getD (i/3) dd).legs.getD (i % 3) dd) v f4 else 0:=by
    unfold Re;by_cases h:i % 3<(l.getD (i/3) dd).legs.length
    .rw[Os ⟨hr1,h⟩,Os h]
    .rw[Of (λI=>h I.2),Of h]
   rw[z];clear e z B;generalize l.getD (i/3) dd=x at *;unfold zX zD at hy;by_cases u:i % 3<ln x.legs
   .have ap:(x.legs.map yN)[((i:Int).tmod 3).toNat]? =some (yN (x.legs.getD (i % 3) dd)):=by rw[hk];exact zJ yN x.legs _ u
    have E:=L3 (x.legs.getD (i % 3) dd) v f4 S hb;have M:=Se (x.legs.getD (i % 3) dd) v f4;rw[Os u];generalize pj (x.legs.getD (i % 3) dd) v f4=c at *;generalize x.legs.getD (i % 3) dd=g at *;generalize (Nb l v f4 N i).map yA=xs at*
    (have gd:=E;(repeat' (first|refine O8 ?_|apply yZ|apply xM|intro hc|(apply zG;first|(apply gA;refine YB tok Z Z Z (A _) Z Z Z Z Z Z Z Z ?_)|refine SM ?_)|refine SB ?_|fail))<;>clear gd)
    refine zAv (St.mk _) ?_
    show [(21,wB.arr 1 ((xs.set i _).set i _) _)]=_
    rw[zEr];rfl
   .rw[Of u];generalize (Nb l v f4 N i).map yA=xs at *;refine WW ?_;rfl
  .have z:Re l v f4 i=0:=by unfold Re;rw[Of (λh=>hr1 h.1)]
   rw[z];clear e z B;generalize (Nb l v f4 N i).map yA=xs at *;refine WW ?_;rfl
 .rw[Fv];refine WW ?_;refine zH [] Z Z ?_ Z;exact zAv (AV.sl false) (zAj (by simp[PB]))
def Zq (l:List Rq) (q:Nat) (v:List Vw) (f4:Int) (W:q<=1000) (hl:ln l<=1000) (A:∀r∈l,ln r.legs<=1000) (M:ln v<=1000) (hb:∀w∈v,ln w.co<=1000):
  zO 208 [zD zX l,iA q,zD wZ v,iA f4] [] (zD yA (PB l v f4 (q*3))) []:=by
 have I:=zA zX l;refine eM call208 λF hF=>?_
 refine WW ?_;refine zS 9 1001 1 Z Z Z ?_;refine zN (q) [1001] [] [0,2,3,13] [9,14,0,2,3,13] Z (λi T U=>⟨(9,.ref 1001 0 ((PB l v f4 (i*3)).map yA).length)::(14,iA i)::T,(1001,.arr 1 ((PB l v f4 (i*3)).map yA) true)::U⟩) (Lq ?_ ?_)
 .intro r Y;refine WW ?_;refine zN (3) [1001] [] [0,2,3,10,13,14] [9,17,0,2,3,10,13,14] Z (λi T U=>⟨(9,.ref 1001 0 ((PB l v f4 (r*3+i)).map yA).length)::(17,iA i)::T,(1001,.arr 1 ((PB l v f4 (r*3+i)).map yA) true)::U⟩) (Lq ?_ ?_)
  .intro k hk;have e:=iq l v f4 (r*3+k);have O:((PB l v f4 (r*3+k)).map yA).length<=4000:=by simp[PB];omega
   rw[show r*3+(k+1)=r*3+k+1 from Z,e];have e3:(r*3+k)/3=r:=by omega
   have C:(r*3+k) % 3=k:=by omega
   by_cases hr1:r<ln l
   .have S:=zJ zX l r hr1;have L:(l.getD r dd).legs.length<=1000:=A _ Dx
    have z:Re l v f4 (r*3+k)=if k<(l.getD r dd).legs.length then pj ((l.getD r dd).legs.getD k dd) v f4 else 0:=by
     unfold Re;rw[e3,C];by_cases h:k<(l.getD r dd).legs.length
     .rw[Os ⟨hr1,h⟩,Os h]
     .rw[Of (λE=>h E.2),Of h]
    rw[z];clear e z;generalize l.getD r dd=x at *;have R:=zA yN x.legs;unfold zX zD at S;by_cases u:k<ln x.legs
    .have V:=zJ yN x.legs k u;have B:=Gv (x.legs.getD k dd) v f4 M hb;have G:=Se (x.legs.getD k dd) v f4;rw[Os u];generalize pj (x.legs.getD k dd) v f4=c at *;generalize x.legs.getD k dd=g at *;generalize (PB l v f4 (r*3+k)).map yA=xs at *;refine zQ B ?_;rfl
    .rw[Of u];generalize (PB l v f4 (r*3+k)).map yA=xs at *;refine WW ?_;rfl
   .have z:Re l v f4 (r*3+k)=0:=by unfold Re;rw[Of (λh=>hr1 zB)]
    rw[z];clear e z;generalize (PB l v f4 (r*3+k)).map yA=xs at *;refine WW ?_;rfl
  .rw[show r*3+3=(r+1)*3 by omega];refine WW ?_;rfl
 ·(refine WW ?_)
  refine zH [] Z Z ?_ Z;exact zAv (AV.sl false) zAb
def Cr (f4:Int) (v:List Vw) (b:List Int):Ms:=⟨17,[],[f4],UN v++b⟩
def J3 (f4:Int) (v:List Vw) (b:List Int) (A:ln v<=1000) (hb:∀w∈v,Qb w) (hl:ln b<=10000):zO 185 [iA f4,zD wZ v,zD yA b] [] (yC (Cr f4 v b)) []:=by
 have C:=mq v A hb;have h1:=aI hb;have B:=zA yA (UN v);have u:=zA yA b;rw[show yC (Cr f4 v b)= .agg [iA 17,.sl false [],.sl false [iA f4],.sl false ((UN v).map yA++b.map yA)] by unfold Cr yC zD;rw[zAf];rfl];generalize (UN v).map yA=xs at *;refine eM call185 λF hF=>?_
 refine TQ C ?_;refine zH [] Z Z ?_ Z;exact zAv (λz=>AV.agg [iA 17,AV.sl false [],AV.sl false [iA f4],AV.sl false z]) zAb
def Cv (f4:Int) (v:List Vw) (b:List Int) (A:ln v<=1000) (hb:∀w∈v,Qb w) (hl:ln b<=10000):zO 207 [iA f4,zD wZ v,zD yA b] [] (yC (Cr f4 v b)) []:=by
 have C:=qh v A hb;have h1:=aI hb;have B:=zA yA (UN v);have u:=zA yA b;rw[show yC (Cr f4 v b)= .agg [iA 17,.sl false [],.sl false [iA f4],.sl false ((UN v).map yA++b.map yA)] by unfold Cr yC zD;rw[zAf];rfl];generalize (UN v).map yA=xs at *;refine eM call207 λF hF=>?_
 refine TQ C ?_;refine zH [] Z Z ?_ Z;exact zAv (λz=>AV.agg [iA 17,AV.sl false [],AV.sl false [iA f4],AV.sl false z]) zAb
def OK (d:xP) (v:List Vw) (f4:Int):Ms:=Cr f4 v (PB d.rq v f4 (d.rg.ag.req.toNat*3))
def Yq (d:xP) (hd:cN d) (C:0<=d.rg.ag.req/\d.rg.ag.req<=4) (v:List Vw) (f4:Int) (z:ln v<=1000) (hb:∀w∈v,Qb w):zO 124 [zK d,zD wZ v,iA f4] [] (yC (OK d v f4)) []:=by
 have u:=Dv d.rq d.rg.ag.req.toNat v f4 zB hd.q hd.g z (λw B=>zBi (hb w B).n yX);rw[show((d.rg.ag.req.toNat:Nat):Int)=d.rg.ag.req by omega]at u;have A:=J3 f4 v (PB d.rq v f4 (d.rg.ag.req.toNat*3)) z hb (by simp[PB];omega);unfold OK;generalize PB d.rq v f4 (d.rg.ag.req.toNat*3)=cs at *;unfold yC at *;unfold zK xC;generalize UN v=E at *;refine eM call124 λF hF=>?_
 exact ld (xV u A)
def nj (d:xP) (hd:cN d) (C:0<=d.rg.ag.req/\d.rg.ag.req<=4) (v:List Vw) (f4:Int) (z:ln v<=1000) (hb:∀w∈v,Qb w):zO 161 [zK d,zD wZ v,iA f4] [] (yC (OK d v f4)) []:=by
 have u:=Zq d.rq d.rg.ag.req.toNat v f4 zB hd.q hd.g z (λw B=>zBi (hb w B).n yX);rw[show((d.rg.ag.req.toNat:Nat):Int)=d.rg.ag.req by omega]at u;have A:=Cv f4 v (PB d.rq v f4 (d.rg.ag.req.toNat*3)) z hb (by simp[PB];omega);unfold OK;generalize PB d.rq v f4 (d.rg.ag.req.toNat*3)=cs at *;unfold yC at *;unfold zK xC;generalize UN v=E at *;refine eM call161 λF hF=>?_
 exact ld (xV u A)
def I3 (n:Nat):Vw:=⟨true,false,nm n 0,nm n 0⟩
def A6 {n:Nat} (h:n<=8):Qb (I3 n):=⟨by simp[I3];exact h,by simp[I3];exact h,λc hc=>by
 have:=(zEq.1 hc).2
 omega⟩
def Bv (j:Jn) (h:ln j.ph<=8):zO 38 [wD j] [] (wZ (I3 (ln j.ph))) []:=by
 have hl:=zA xQ j.ph;have u:∀n,(nm n (0:Int)).map iA=nm n (iA 0):=λn=>by simp
 rw[show wZ (I3 (ln j.ph))= .agg [bA true,bA false,.sl false (nm (ln j.ph) (iA 0)),.sl false (nm (ln j.ph) (iA 0))] by unfold I3 wZ zD;rw[u]];rw[<-hl];unfold wD zD;generalize j.ph.map xQ=P at *;refine eM call38 λF hF=>?_
 refine WW ?_;refine zH [] Z Z ?_ Z
 show AV.agg [bA true,bA false,.sl false (oj (ln P) (pi 0 (nm (ln P) (iA 0)))),.sl false (oj (ln P) (pi 0 (nm (ln P) (iA 0))))]=_
 rw[zAu,zAj zW]
