/- Part 20. -/
import Derived.Test.YtaglbcjljlkjcaaGreatX19
namespace Go.Proofs.YtaglbcjljlkjcaaGreat.Av
open Tryz
set_option linter.all false
set_option maxRecDepth 4000
set_option maxHeartbeats 8000000
open List renaming length->ln,replicate->pb,range->pi,take->py,drop->p5,getD->qd
open Inhabited renaming default->dd
def Cp:List AV:=[iA 0,.s (.slice none 0 0),iA 0,iA 0,.s (.slice none 0 0),iA 0,iA 0,iA 0,iA 0,.s (.slice none 0 0),.s (.slice none 0 0),iA 0,iA 0,iA 0,.s (.slice none 0 0),.s (.slice none 0 0),.s (.slice none 0 0)]
theorem Ji {c:Cf} {d:wE} (hI:qE c d) (ins:List In) (bz:ln ins<=1000) (ax:∀i∈ins,zz i) (f3:Int) (n0:0<=f3) (n1:f3<=1073741824) (u:Nat->SS) (ag:u 0=⟨Zq d ins,[],[],[]⟩) (hn:ln d.au=1) (hm:1<=ln ins)
  (hz:∀s,DD c (Zq d ins) (u s).d/\((u s).R.length=s/\(u s).en.length<=1000*s/\(u s).ks.length<=1000*s/\∀x∈(u s).ks,0<=x/\x<(ln c.js:Int))/\sw c f3 ins s (u s) (u (s+1))):
  zO 115 [wD c,zM d,zE uI ins,iA f3] [] (Yw (Zw (u 1).d f3) (u 1).R (u 1).en (u 1).ks) []:=by
 have kc:=LP d hI.bd zB;have ar:(d.au.map bA).length=1:=by rw[zA6,hn]
 have bb:=zA uI ins;have km:=Io (u 1).d.rq f3 (hz 1).1.i.v;have M:wD c= .agg [.sl false (c.js.map wK),.sl false (c.ags.map vP),iA c.per,iA c.cap,iA c.hold,iA c.lock]:=rfl;rw[M];unfold XS zM xD at kc;have e0:=qQ (QN ins) d.au;have az:(min ((ins.map uI).length:Int) ((d.au.map bA).length:Int)).toNat=1:=by omega
 have a4:((ins.take 1).map uI).length=1:=by rw[zA6,zBv];omega
 have G:∀s,s<1->((ins.take 1).map uI)[s]? =some (uI (ins.getD s dd)):=λs hs=>by
  rw[zBe,zCv,zA5 hs,zBj,zB2 zB];rfl
 obtain⟨bl,⟨br,bs,bu,_⟩,io,O,Y,a1,ac⟩:=hz 0;have I:=G 0 zB;refine eM call115 λF hF=>?_
 refine zS kc ?_;rw[az,ar];refine zN (1) [1004,4,5,8,28] [4,5,8,28] [2,3,4,5,8,12,13,14,39] [40,9,10,2,3,4,5,8,12,13,14,39] Z (λi T U=>⟨(40,iA i)::(9,.s (.slice none 0 0))::(10,.s (.slice none 0 0))::T,(1004,.arr 1 ((ZA (QN ins) d.au i).map bA) false)::U⟩) ?_;(conv=>whnf);refine⟨by(rw[e0];rfl),?_,?_⟩
 .intro i hi;have a6:((ZA (QN ins) d.au i).map bA)[i]? =some (bA (d.au.getD i dd)):=by rw[zBe,vY,zA5 zB,Os (zD3 i)];rfl
  have ca:((ZA (QN ins) d.au i).map bA).length=1:=by rw[zA6,wP,hn]
  rw[vO bA (QN ins) d.au i zB];have E:=YL a6;clear kc km;generalize (ZA (QN ins) d.au i).map bA=xs,d.au.getD i dd=b9 at *;unfold QN;by_cases h1:i<1
  .have hy:=G i h1;have a2:i<ln ins:=by omega
   generalize ins.getD i dd=x at *;obtain⟨op,z⟩:=x;rw[show uI ⟨op,z⟩= .agg [bA op,zE vE z]from Z]at hy;cases op
   .rw[Os (λh=>by cases h.2)];refine WW ?_;rfl
   .rw[zA5 ⟨a2,rfl⟩,E];refine WW ?_;rfl
  .rw[Os (λh=>by omega)];refine WW ?_;rfl
 ·(refine WW ?_)
  refine wB [4,5,8,28] [2,3,4,5,8,9,10,12,13,14,61,62] Z ?_
  (conv=>whnf)
  rw[Yq (by omega:ln d.au=1),show ZA (QN ins) d.au 1=Vg ins d.au by unfold Vg;rw[hn],a4];refine zQ 13 1002 3 Z Z Z ?_;refine zQ 14 1003 1 Z Z Z ?_;refine zQ 9 1006 4 Z Z Z ?_;refine BJ 28 Z ?_;refine VT 28 0 1006 Z Z Z Z Z ?_;refine wC 2 [5,28,1002,1003,1006,4,8] [13,14,62,2,3,4,5,8,12,61] Z ?_;refine yD (st0:=⟨[(13,.ref 1002 0 ((u 0).en.map kG).length),(14,.ref 1003 0 ((u 0).ks.map iA).length),(62,iA 0),(2,.sl false ((ins.take 1).map uI)),(3,iA f3),(4,.ptr 4 0 0),(5,.ptr 5 0 0),(8,.ptr 8 0 0),(12,.ref 28 0 1),(61,iA 1)],[(5,.box (YJ (u 0).d)),(28,.arr 1 [.ref 1006 0 ([]:List AV).length] ⟨false,true⟩),(1002,.arr 3 ((u 0).en.map kG) true),(1003,.arr 1 ((u 0).ks.map iA) true),(1006,.arr 4 ([]:List AV) true),(4,.box [.sl false (c.js.map wK),.sl false (c.ags.map vP),iA c.per,iA c.cap,iA c.hold,iA c.lock]),(8,.box Cp)]⟩) (by rw[ag];rfl) ?_;obtain⟨r0,B⟩:∃r,r=(io (cO ins 0).length).rs:=⟨_,rfl⟩;have ap:(u 1).R=(u 0).R++[r0]:=by rw[B,ac]
  have q0:(u 1).d=(io (cO ins 0).length).d/\(u 1).en=(io (cO ins 0).length).en/\(u 1).ks=(io (cO ins 0).length).ks:=by rw[ac];exact⟨rfl,rfl,rfl⟩
  have a8:=zA kG (u 0).en;have a9:=zA iA (u 0).ks;by_cases W:(ins.getD 0 dd).opn=true
  case' pos=>
   have A:cO ins 0=(ins.getD 0 dd).its:=by unfold cO;rw[zA5 ⟨zB,W⟩]
   have av:=(HA ax 0).1;rw[A]at av q0 Y B;clear A;generalize ins.getD 0 dd=x at *;obtain⟨op,z⟩:=x;dsimp only at *;subst W;rw[show uI ⟨true,z⟩= .agg [bA true,zE vE z]from Z]at I;have ba:=zA vE z;refine WW ?_;refine zU (z) [5,1002,1003,28,1006,4,8] [4,8] [2,3,4,5,8,12,16,61,62,75,76] [13,14,77,2,3,4,5,8,12,16,61,62,75,76] Z (λi f4 T U=>⟨(13,.ref 1002 0 ((io i).en.map kG).length)::(14,.ref 1003 0 ((io i).ks.map iA).length)::(77,iA i)::T,(5,.box (YJ (io i).d))::(1002,.arr 3 ((io i).en.map kG) true)::(1003,.arr 1 ((io i).ks.map iA) true)::(28,.arr 1 [.ref 1006 0 ((io i).rs.map zX).length] ⟨false,true⟩)::(1006,.arr 4 ((io i).rs.map zX) true)::U⟩) ?_;(conv=>whnf);refine⟨by(rw[O];rfl),?_,?_⟩
   .intro k f4 it post hx hk;have a5:=yG vE hx hk;have S:=zW hx hk;have C:z.getD k dd=it:=by rw[hx,<-hk];simp[qd]
    obtain⟨h,hB,hP,V⟩:=Y k S;rw[C]at hB;obtain⟨b0,b1,b2,b3⟩:=a1 k;have b5:=zA kG (io k).en;have b6:=zA iA (io k).ks;have b7:=zA zX (io k).rs;have L:=hB.1;rw[V];dsimp only;rw[show((io k).rs++[h.p]).map zX=(io k).rs.map zX++[zX h.p] by simp,show∀e:En,((io k).en++[e]).map kG=(io k).en.map kG++[kG e]from λe=>by simp,C];rw[M]at L;unfold DE zM xD vE at L;unfold vE at a5;have bx:(u 0).en.length<=2000/\(u 0).ks.length<=2000:=by omega
    clear hx C V hB hP G kc km;generalize (io k).rs.map zX=cb,(io k).en.map kG=bk,h.p=p9,h.e=e9,h.d=d9 at *;generalize b4:h.k=k9 at *;generalize (io k).d=bf at *;obtain⟨pk,pt,pa,pd⟩:=p9;unfold zX OQ at L;dsimp only at L;unfold YJ kG OQ zX;by_cases h0:0<=k9
    .rw[zA5 h0,show((io k).ks++[k9]).map iA=(io k).ks.map iA++[iA k9] by simp];generalize (io k).ks.map iA=a7 at *;refine zS L ?_;rfl
    .rw[Os h0];generalize (io k).ks.map iA=a7 at *;refine zS L ?_;rfl
   obtain⟨w1,w2,w3⟩:=q0;refine WW ?_
  case' neg=>
   have A:cO ins 0=[]:=by unfold cO;rw[Os (λh=>W h.2)]
   rw[A,zCd,O]at q0 B;obtain⟨w1,w2,w3⟩:=q0;have a3:(ins.getD 0 dd).opn=false:=by simpa using W
   clear A W;generalize ins.getD 0 dd=x at *;obtain⟨op,z⟩:=x;dsimp only at *;subst a3;rw[show uI ⟨false,z⟩= .agg [bA false,zE vE z]from Z]at I;refine WW ?_
  all_goals clear I a8 a9
  all_goals
   refine yD (st0:=⟨[(13,.ref 1002 0 ((u 1).en.map kG).length),(14,.ref 1003 0 ((u 1).ks.map iA).length),(62,iA 1),(2,.sl false ((ins.take 1).map uI)),(3,iA f3),(4,.ptr 4 0 0),(5,.ptr 5 0 0),(8,.ptr 8 0 0),(12,.ref 28 0 1),(61,iA 1)],[(5,.box (YJ (u 1).d)),(28,.arr 1 [.ref 1006 0 (r0.map zX).length] ⟨false,true⟩),(1002,.arr 3 ((u 1).en.map kG) true),(1003,.arr 1 ((u 1).ks.map iA) true),(1006,.arr 4 (r0.map zX) true),(4,.box [.sl false (c.js.map wK),.sl false (c.ags.map vP),iA c.per,iA c.cap,iA c.hold,iA c.lock]),(8,.box Cp)]⟩) (by rw[w1,w2,w3,B];rfl) ?_;refine zS km ?_;refine zI [] Z Z ?_ Z
   show AV.tup [zM (Zw (u 1).d f3),.sl false [.sl false (py _ (p5 0 (r0.map zX)))],.sl false (py _ (p5 0 ((u 1).en.map kG))),.sl false (py _ (p5 0 ((u 1).ks.map iA)))]=_
   simp only[zBr,zA8];unfold Yw;rw[ap,ag];rfl
theorem Ii {c:Cf} {d:wE} (hI:qE c d) (ins:List In) (cm:ln ins<=1000) (a4:∀i∈ins,zz i) (f3:Int) (n0:0<=f3) (n1:f3<=1073741824) (u:Nat->SS) (a9:u 0=⟨Zq d ins,[],[],[]⟩) (hn:ln d.au=2) (hm:2<=ln ins)
  (hz:∀s,DD c (Zq d ins) (u s).d/\((u s).R.length=s/\(u s).en.length<=1000*s/\(u s).ks.length<=1000*s/\∀x∈(u s).ks,0<=x/\x<(ln c.js:Int))/\sw c f3 ins s (u s) (u (s+1))):
  zO 115 [wD c,zM d,zE uI ins,iA f3] [] (Yw (Zw (u 2).d f3) (u 2).R (u 2).en (u 2).ks) []:=by
 have kc:=LP d hI.bd zB;have bl:(d.au.map bA).length=2:=by rw[zA6,hn]
 have cd:=zA uI ins;have km:=Io (u 2).d.rq f3 (hz 2).1.i.v;have S:wD c= .agg [.sl false (c.js.map wK),.sl false (c.ags.map vP),iA c.per,iA c.cap,iA c.hold,iA c.lock]:=rfl;rw[S];unfold XS zM xD at kc;have e0:=qQ (QN ins) d.au;have b0:(min ((ins.map uI).length:Int) ((d.au.map bA).length:Int)).toNat=2:=by omega
 have ca:((ins.take 2).map uI).length=2:=by rw[zA6,zBv];omega
 have L:∀s,s<2->((ins.take 2).map uI)[s]? =some (uI (ins.getD s dd)):=λs hs=>by
  rw[zBe,zCv,zA5 hs,zBj,zB2 zB];rfl
 obtain⟨ce,⟨cg,ci,ck,_⟩,io,a1,a5,b2,a7⟩:=hz 0;have ag:=L 0 zB;obtain⟨cf,⟨ch,cj,cl,_⟩,kh,a2,a6,b3,a8⟩:=hz 1;have ap:=L 1 zB;refine eM call115 λF hF=>?_
 refine zS kc ?_;rw[b0,bl];refine zN (2) [1004,4,5,8,28] [4,5,8,28] [2,3,4,5,8,12,13,14,39] [40,9,10,2,3,4,5,8,12,13,14,39] Z (λi T U=>⟨(40,iA i)::(9,.s (.slice none 0 0))::(10,.s (.slice none 0 0))::T,(1004,.arr 1 ((ZA (QN ins) d.au i).map bA) false)::U⟩) ?_;(conv=>whnf);refine⟨by(rw[e0];rfl),?_,?_⟩
 .intro i hi;have cb:((ZA (QN ins) d.au i).map bA)[i]? =some (bA (d.au.getD i dd)):=by rw[zBe,vY,zA5 zB,Os (zD3 i)];rfl
  have cn:((ZA (QN ins) d.au i).map bA).length=2:=by rw[zA6,wP,hn]
  rw[vO bA (QN ins) d.au i zB];have ac:=YL cb;clear kc km;generalize (ZA (QN ins) d.au i).map bA=xs,d.au.getD i dd=b9 at *;unfold QN;by_cases h1:i<2
  .have hy:=L i h1;have b4:i<ln ins:=by omega
   generalize ins.getD i dd=x at *;obtain⟨op,z⟩:=x;rw[show uI ⟨op,z⟩= .agg [bA op,zE vE z]from Z]at hy;cases op
   .rw[Os (λh=>by cases h.2)];refine WW ?_;rfl
   .rw[zA5 ⟨b4,rfl⟩,ac];refine WW ?_;rfl
  .rw[Os (λh=>by omega)];refine WW ?_;rfl
 ·(refine WW ?_)
  refine wB [4,5,8,28] [2,3,4,5,8,9,10,12,13,14,61,62] Z ?_
  (conv=>whnf)
  rw[Yq (by omega:ln d.au=2),show ZA (QN ins) d.au 2=Vg ins d.au by unfold Vg;rw[hn],ca];refine zQ 13 1002 3 Z Z Z ?_;refine zQ 14 1003 1 Z Z Z ?_;refine zQ 9 1006 4 Z Z Z ?_;refine zQ 10 1007 4 Z Z Z ?_;refine BJ 28 Z ?_;refine VT 28 0 1006 Z Z Z Z Z ?_;refine VT 28 1 1007 Z Z Z Z Z ?_;refine wC 3 [5,28,1002,1003,1006,1007,4,8] [13,14,62,2,3,4,5,8,12,61] Z ?_;refine yD (st0:=⟨[(13,.ref 1002 0 ((u 0).en.map kG).length),(14,.ref 1003 0 ((u 0).ks.map iA).length),(62,iA 0),(2,.sl false ((ins.take 2).map uI)),(3,iA f3),(4,.ptr 4 0 0),(5,.ptr 5 0 0),(8,.ptr 8 0 0),(12,.ref 28 0 2),(61,iA 2)],[(5,.box (YJ (u 0).d)),(28,.arr 1 [.ref 1006 0 ([]:List AV).length,.ref 1007 0 ([]:List AV).length] ⟨false,true⟩),(1002,.arr 3 ((u 0).en.map kG) true),(1003,.arr 1 ((u 0).ks.map iA) true),(1006,.arr 4 ([]:List AV) true),(1007,.arr 4 ([]:List AV) true),(4,.box [.sl false (c.js.map wK),.sl false (c.ags.map vP),iA c.per,iA c.cap,iA c.hold,iA c.lock]),(8,.box Cp)]⟩) (by rw[a9];rfl) ?_;obtain⟨r0,M⟩:∃r,r=(io (cO ins 0).length).rs:=⟨_,rfl⟩;have bf:(u 1).R=(u 0).R++[r0]:=by rw[M,a7]
  have q0:(u 1).d=(io (cO ins 0).length).d/\(u 1).en=(io (cO ins 0).length).en/\(u 1).ks=(io (cO ins 0).length).ks:=by rw[a7];exact⟨rfl,rfl,rfl⟩
  have ax:=zA kG (u 0).en;have az:=zA iA (u 0).ks;by_cases I:(ins.getD 0 dd).opn=true
  case' pos=>
   have A:cO ins 0=(ins.getD 0 dd).its:=by unfold cO;rw[zA5 ⟨zB,I⟩]
   have W:=(HA a4 0).1;rw[A]at W q0 a5 M;clear A;generalize ins.getD 0 dd=x at *;obtain⟨op,z⟩:=x;dsimp only at *;subst I;rw[show uI ⟨true,z⟩= .agg [bA true,zE vE z]from Z]at ag;have a3:=zA vE z;refine WW ?_;refine zU (z) [5,1002,1003,28,1006,4,8,1007] [4,8,1007] [2,3,4,5,8,12,16,61,62,75,76] [13,14,77,2,3,4,5,8,12,16,61,62,75,76] Z (λi f4 T U=>⟨(13,.ref 1002 0 ((io i).en.map kG).length)::(14,.ref 1003 0 ((io i).ks.map iA).length)::(77,iA i)::T,(5,.box (YJ (io i).d))::(1002,.arr 3 ((io i).en.map kG) true)::(1003,.arr 1 ((io i).ks.map iA) true)::(28,.arr 1 [.ref 1006 0 ((io i).rs.map zX).length,.ref 1007 0 ([]:List AV).length] ⟨false,true⟩)::(1006,.arr 4 ((io i).rs.map zX) true)::U⟩) ?_;(conv=>whnf);refine⟨by(rw[a1];rfl),?_,?_⟩
   .intro k f4 it post O hk;have ar:=yG vE O hk;have E:=zW O hk;have B:z.getD k dd=it:=by rw[O,<-hk];simp[qd]
    obtain⟨h,V,hP,G⟩:=a5 k E;rw[B]at V;obtain⟨bs,bu,bx,bz⟩:=b2 k;have b5:=zA kG (io k).en;have b6:=zA iA (io k).ks;have b7:=zA zX (io k).rs;have C:=V.1;rw[G];dsimp only;rw[show((io k).rs++[h.p]).map zX=(io k).rs.map zX++[zX h.p] by simp,show∀e:En,((io k).en++[e]).map kG=(io k).en.map kG++[kG e]from λe=>by simp,B];rw[S]at C;unfold DE zM xD vE at C;unfold vE at ar;have br:(u 0).en.length<=2000/\(u 0).ks.length<=2000:=by omega
    clear O B G V hP L kc km;generalize (io k).rs.map zX=cc,(io k).en.map kG=bb,h.p=p9,h.e=e9,h.d=d9 at *;generalize b1:h.k=k9 at *;generalize (io k).d=ba at *;obtain⟨pk,pt,pa,pd⟩:=p9;unfold zX OQ at C;dsimp only at C;unfold YJ kG OQ zX;by_cases h0:0<=k9
    .rw[zA5 h0,show((io k).ks++[k9]).map iA=(io k).ks.map iA++[iA k9] by simp];generalize (io k).ks.map iA=av at *;refine zS C ?_;rfl
    .rw[Os h0];generalize (io k).ks.map iA=av at *;refine zS C ?_;rfl
   obtain⟨w1,w2,w3⟩:=q0;refine WW ?_
  case' neg=>
   have A:cO ins 0=[]:=by unfold cO;rw[Os (λh=>I h.2)]
   rw[A,zCd,a1]at q0 M;obtain⟨w1,w2,w3⟩:=q0;have Y:(ins.getD 0 dd).opn=false:=by simpa using I
   clear A I;generalize ins.getD 0 dd=x at *;obtain⟨op,z⟩:=x;dsimp only at *;subst Y;rw[show uI ⟨false,z⟩= .agg [bA false,zE vE z]from Z]at ag;refine WW ?_
  all_goals clear ag ax az
  all_goals
   refine yD (st0:=⟨[(13,.ref 1002 0 ((u 1).en.map kG).length),(14,.ref 1003 0 ((u 1).ks.map iA).length),(62,iA 1),(2,.sl false ((ins.take 2).map uI)),(3,iA f3),(4,.ptr 4 0 0),(5,.ptr 5 0 0),(8,.ptr 8 0 0),(12,.ref 28 0 2),(61,iA 2)],[(5,.box (YJ (u 1).d)),(28,.arr 1 [.ref 1006 0 (r0.map zX).length,.ref 1007 0 ([]:List AV).length] ⟨false,true⟩),(1002,.arr 3 ((u 1).en.map kG) true),(1003,.arr 1 ((u 1).ks.map iA) true),(1006,.arr 4 (r0.map zX) true),(1007,.arr 4 ([]:List AV) true),(4,.box [.sl false (c.js.map wK),.sl false (c.ags.map vP),iA c.per,iA c.cap,iA c.hold,iA c.lock]),(8,.box Cp)]⟩) (by rw[w1,w2,w3,M];rfl) ?_;obtain⟨r1,hr1⟩:∃r,r=(kh (cO ins 1).length).rs:=⟨_,rfl⟩;have bk:(u 2).R=(u 1).R++[r1]:=by rw[hr1,a8]
   have q1:(u 2).d=(kh (cO ins 1).length).d/\(u 2).en=(kh (cO ins 1).length).en/\(u 2).ks=(kh (cO ins 1).length).ks:=by rw[a8];exact⟨rfl,rfl,rfl⟩
   have ax:=zA kG (u 1).en;have az:=zA iA (u 1).ks;by_cases I:(ins.getD 1 dd).opn=true
   case' pos=>
    have A:cO ins 1=(ins.getD 1 dd).its:=by unfold cO;rw[zA5 ⟨zB,I⟩]
    have W:=(HA a4 1).1;rw[A]at W q1 a6 hr1;clear A;generalize ins.getD 1 dd=x at *;obtain⟨op,z⟩:=x;dsimp only at *;subst I;rw[show uI ⟨true,z⟩= .agg [bA true,zE vE z]from Z]at ap;have a3:=zA vE z;refine WW ?_;refine zU (z) [5,1002,1003,28,1007,4,8,1006] [4,8,1006] [2,3,4,5,8,12,16,61,62,75,76] [13,14,77,2,3,4,5,8,12,16,61,62,75,76] Z (λi f4 T U=>⟨(13,.ref 1002 0 ((kh i).en.map kG).length)::(14,.ref 1003 0 ((kh i).ks.map iA).length)::(77,iA i)::T,(5,.box (YJ (kh i).d))::(1002,.arr 3 ((kh i).en.map kG) true)::(1003,.arr 1 ((kh i).ks.map iA) true)::(28,.arr 1 [.ref 1006 0 (r0.map zX).length,.ref 1007 0 ((kh i).rs.map zX).length] ⟨false,true⟩)::(1007,.arr 4 ((kh i).rs.map zX) true)::U⟩) ?_;(conv=>whnf);refine⟨by(rw[a2];rfl),?_,?_⟩
    .intro k f4 it post O hk;have ar:=yG vE O hk;have E:=zW O hk;have B:z.getD k dd=it:=by rw[O,<-hk];simp[qd]
     obtain⟨h,V,hP,G⟩:=a6 k E;rw[B]at V;obtain⟨bs,bu,bx,bz⟩:=b3 k;have b5:=zA kG (kh k).en;have b6:=zA iA (kh k).ks;have b7:=zA zX (kh k).rs;have C:=V.1;rw[G];dsimp only;rw[show((kh k).rs++[h.p]).map zX=(kh k).rs.map zX++[zX h.p] by simp,show∀e:En,((kh k).en++[e]).map kG=(kh k).en.map kG++[kG e]from λe=>by simp,B];rw[S]at C;unfold DE zM xD vE at C;unfold vE at ar;have br:(u 1).en.length<=2000/\(u 1).ks.length<=2000:=by omega
     clear O B G V hP L kc km;generalize (kh k).rs.map zX=cc,(kh k).en.map kG=bb,h.p=p9,h.e=e9,h.d=d9 at *;generalize b1:h.k=k9 at *;generalize (kh k).d=ba at *;obtain⟨pk,pt,pa,pd⟩:=p9;unfold zX OQ at C;dsimp only at C;unfold YJ kG OQ zX;by_cases h0:0<=k9
     .rw[zA5 h0,show((kh k).ks++[k9]).map iA=(kh k).ks.map iA++[iA k9] by simp];generalize (kh k).ks.map iA=av at *;refine zS C ?_;rfl
     .rw[Os h0];generalize (kh k).ks.map iA=av at *;refine zS C ?_;rfl
    obtain⟨w1,w2,w3⟩:=q1;refine WW ?_
   case' neg=>
    have A:cO ins 1=[]:=by unfold cO;rw[Os (λh=>I h.2)]
    rw[A,zCd,a2]at q1 hr1;obtain⟨w1,w2,w3⟩:=q1;have Y:(ins.getD 1 dd).opn=false:=by simpa using I
    clear A I;generalize ins.getD 1 dd=x at *;obtain⟨op,z⟩:=x;dsimp only at *;subst Y;rw[show uI ⟨false,z⟩= .agg [bA false,zE vE z]from Z]at ap;refine WW ?_
   all_goals clear ap ax az
   all_goals
    refine yD (st0:=⟨[(13,.ref 1002 0 ((u 2).en.map kG).length),(14,.ref 1003 0 ((u 2).ks.map iA).length),(62,iA 2),(2,.sl false ((ins.take 2).map uI)),(3,iA f3),(4,.ptr 4 0 0),(5,.ptr 5 0 0),(8,.ptr 8 0 0),(12,.ref 28 0 2),(61,iA 2)],[(5,.box (YJ (u 2).d)),(28,.arr 1 [.ref 1006 0 (r0.map zX).length,.ref 1007 0 (r1.map zX).length] ⟨false,true⟩),(1002,.arr 3 ((u 2).en.map kG) true),(1003,.arr 1 ((u 2).ks.map iA) true),(1006,.arr 4 (r0.map zX) true),(1007,.arr 4 (r1.map zX) true),(4,.box [.sl false (c.js.map wK),.sl false (c.ags.map vP),iA c.per,iA c.cap,iA c.hold,iA c.lock]),(8,.box Cp)]⟩) (by rw[w1,w2,w3,hr1];rfl) ?_;refine zS km ?_;refine zI [] Z Z ?_ Z
    show AV.tup [zM (Zw (u 2).d f3),.sl false [.sl false (py _ (p5 0 (r0.map zX))),.sl false (py _ (p5 0 (r1.map zX)))],.sl false (py _ (p5 0 ((u 2).en.map kG))),.sl false (py _ (p5 0 ((u 2).ks.map iA)))]=_
    simp only[zBr,zA8];unfold Yw;rw[bk,bf,a9];rfl
structure Vw where
 fl:Bool
 ov:Bool
 co:List Int
 cn:List Int
instance:Inhabited Vw:=⟨⟨false,false,[],[]⟩⟩
def vV (v:Vw):AV:= .agg [bA v.fl,bA v.ov,zE iA v.co,zE iA v.cn]
structure Ua (v:Vw):Prop where
 n:v.co.length<=8
 m:v.cn.length<=8
 c:∀c∈v.co,0<=c/\c<=2
def fW (n:Int):Int:=IntKind.u8.wrap n
def EP (a b:Bool):Int:=(if a=true then 1 else 0)+(if b=true then 2 else 0)
def vL (l:List Int):Nat->Int
 |0=>0
 |i+1=>vL l i+l.getD i 0*p2 (2*(i:Int))
def j5 (v:Vw):List Int:=[EP v.fl v.ov,vX (vL v.co (ln v.co)) 8,fW (vL v.co (ln v.co))]++v.cn.map fW
def aH (l:List Vw):List Int:=(l.map j5).flatten
def Bp (i:Nat):p2 (2*((i+1:Nat):Int))=p2 (2*(i:Int))*4:=by
 unfold p2;rw[show(2*((i+1:Nat):Int)).toNat=(2*(i:Int)).toNat+2 by omega,Int.pow_add];rfl
def fX (i:Nat) (h:i<=8):1<=p2 (2*(i:Int))/\p2 (2*(i:Int))<=65536:=by
 have:i=0\/i=1\/i=2\/i=3\/i=4\/i=5\/i=6\/i=7\/i=8:=by omega
 rcases this with rfl|rfl|rfl|rfl|rfl|rfl|rfl|rfl|rfl<;>decide
theorem OP {l:List Int} (h:∀c∈l,0<=c/\c<=2):∀i,i<=ln l->i<=8->0<=vL l i/\vL l i<p2 (2*(i:Int))
 |0,_,_=>by simp[vL,p2]
 | i+1,h1,h2=>by
  have A:=OP h i zB zB
  have u:l.getD i 0∈l:=by
   rw[zBj,zB2 zB];exact zE0 _
  have hc:=h _ u;have z:=fX i zB;rw[Bp,vL];generalize l.getD i 0=c,p2 (2*(i:Int))=w at *;have:c=0\/c=1\/c=2:=by omega
  rcases this with rfl|rfl|rfl<;>omega
def f5 {n:Int} (u:0<=n) (h1:n<65536):0<=vX n 8/\vX n 8<=255:=by grind [vX]
def Ta (f4:List Vw) (v:Vw):(aH (f4++[v])).map yA=(aH f4).map yA++[yA (EP v.fl v.ov),yA (vX (vL v.co (ln v.co)) 8),yA (fW (vL v.co (ln v.co)))]++v.cn.map (λn=>yA (fW n)):=by
 unfold aH j5;simp
def bD {l:List Vw} (h:∀v∈l,Ua v):(aH l).length<=11*ln l:=by
 unfold aH
 induction l with
 |nil=>simp
 |cons v l z=>
  have h1:=z λx u=>h x (by simp[u])
  have h2:=(h v zV).m
  grind [aH,List.flatten_cons,List.length_append,List.length_cons,j5,List.length_map,List.length_nil]
theorem Ap (l:List Vw) (hn:ln l<=1000) (hb:∀v∈l,Ua v):zO 124 [zE vV l] [] (.ref 1001 0 ((aH l).map yA).length) [(1001,.arr 1 ((aH l).map yA) true)]:=by
 have hl:=zA vV l;have ac:=bD hb;refine eM call124 λF hF=>?_
 refine WW ?_;refine zQ 3 1001 1 Z Z Z ?_;refine zU (l) [1001] [] [13,14] [3,15,13,14] Z (λi f4 T U=>⟨(3,.ref 1001 0 ((aH f4).map yA).length)::(15,iA i)::T,(1001,.arr 1 ((aH f4).map yA) true)::U⟩) (Lq ?_ ?_)
 .intro i f4 v post hx hi;have hy:=yG vV hx hi;have av:=zW hx hi;have hv:=hb v (yY hx);have ap:=bD (l:=f4) (λw hw=>hb w (by rw[hx];simp[hw]));have az:((aH f4).map yA).length<=11000:=by rw[zA6];omega
  rw[Ta];clear hx ap ac;generalize (aH f4).map yA=xs at *;have ar:=zA iA v.co;have au:=zA iA v.cn;have C:=λk hk=>OP hv.c k hk (zCa hk hv.n)
  have ag:=hv.n;have ax:=hv.m;obtain⟨fl,ov,A,Y⟩:=v;dsimp only at *;rw[show vV ⟨fl,ov,A,Y⟩= .agg [bA fl,bA ov,zE iA A,zE iA Y]from Z]at hy;have E:=C (ln A) (zBb _);have L:=fX (ln A) ag;have M:=f5 (n:=vL A (ln A)) E.1 zB
  cases fl<;>cases ov
  ·(refine WW ?_)
   refine zU (A) [5,1001] [5,1001] [3,5,6,13,14,15,28,29] [7,8,30,3,5,6,13,14,15,28,29] Z (λi f4 T U=>⟨(7,iA (vL A i))::(8,iA (p2 (2*(i:Int))))::(30,iA i)::T,U⟩) (Lq ?_ ?_)
   .intro k z c B u hk;have I:=yG iA u hk;have G:=zW u hk;have R:=hv.c c (yY u);have S:A.getD k 0=c:=by rw[u,<-hk];simp[qd]
    have O:=C k zB;have V:=fX k zB;have e1:vL A (k+1)=vL A k+c*p2 (2*(k:Int)):=by rw[vL,S]
    rw[e1,Bp];clear u C E L M e1 hv;generalize vL A k=s,p2 (2*(k:Int))=w at *;have:c=0\/c=1\/c=2:=by omega
    rcases this with rfl|rfl|rfl
    all_goals
     refine WW ?_;rfl
   .clear C hv;generalize vL A (ln A)=s at *;refine WW ?_;refine zU (Y) [1001] [] [13,14,15,53,54] [3,55,13,14,15,53,54] Z (λi f4 T U=>⟨(3,.ref 1001 0 (xs++[yA (EP false false),yA (vX s 8),yA (fW s)]++f4.map (λn=>yA (fW n))).length)::(55,iA i)::T,(1001,.arr 1 (xs++[yA (EP false false),yA (vX s 8),yA (fW s)]++f4.map (λn=>yA (fW n))) true)::U⟩) ?_;(conv=>whnf);refine⟨by(simp only[zCy,zB0];rfl),?_,?_⟩
    .intro k z c B u hk;have I:=yG iA u hk;have G:=zW u hk;have W:(z.map (λn=>yA (fW n))).length=k:=by rw[zA6];exact hk
     rw[zBd,zCo,zCy,<-zBy];clear u;generalize z.map (λn=>yA (fW n))=zs2 at *;refine WW ?_;rfl
    ·(refine WW ?_)
     rfl
  ·(refine WW ?_)
   refine zU (A) [5,1001] [5,1001] [3,5,6,13,14,15,28,29] [7,8,30,3,5,6,13,14,15,28,29] Z (λi f4 T U=>⟨(7,iA (vL A i))::(8,iA (p2 (2*(i:Int))))::(30,iA i)::T,U⟩) (Lq ?_ ?_)
   .intro k z c B u hk;have I:=yG iA u hk;have G:=zW u hk;have R:=hv.c c (yY u);have S:A.getD k 0=c:=by rw[u,<-hk];simp[qd]
    have O:=C k zB;have V:=fX k zB;have e1:vL A (k+1)=vL A k+c*p2 (2*(k:Int)):=by rw[vL,S]
    rw[e1,Bp];clear u C E L M e1 hv;generalize vL A k=s,p2 (2*(k:Int))=w at *;have:c=0\/c=1\/c=2:=by omega
    rcases this with rfl|rfl|rfl
    all_goals
     refine WW ?_;rfl
   .clear C hv;generalize vL A (ln A)=s at *;refine WW ?_;refine zU (Y) [1001] [] [13,14,15,53,54] [3,55,13,14,15,53,54] Z (λi f4 T U=>⟨(3,.ref 1001 0 (xs++[yA (EP false true),yA (vX s 8),yA (fW s)]++f4.map (λn=>yA (fW n))).length)::(55,iA i)::T,(1001,.arr 1 (xs++[yA (EP false true),yA (vX s 8),yA (fW s)]++f4.map (λn=>yA (fW n))) true)::U⟩) ?_;(conv=>whnf);refine⟨by(simp only[zCy,zB0];rfl),?_,?_⟩
    .intro k z c B u hk;have I:=yG iA u hk;have G:=zW u hk;have W:(z.map (λn=>yA (fW n))).length=k:=by rw[zA6];exact hk
     rw[zBd,zCo,zCy,<-zBy];clear u;generalize z.map (λn=>yA (fW n))=zs2 at *;refine WW ?_;rfl
    ·(refine WW ?_)
     rfl
  ·(refine WW ?_)
   refine zU (A) [5,1001] [5,1001] [3,5,6,13,14,15,28,29] [7,8,30,3,5,6,13,14,15,28,29] Z (λi f4 T U=>⟨(7,iA (vL A i))::(8,iA (p2 (2*(i:Int))))::(30,iA i)::T,U⟩) (Lq ?_ ?_)
   .intro k z c B u hk;have I:=yG iA u hk;have G:=zW u hk;have R:=hv.c c (yY u);have S:A.getD k 0=c:=by rw[u,<-hk];simp[qd]
    have O:=C k zB;have V:=fX k zB;have e1:vL A (k+1)=vL A k+c*p2 (2*(k:Int)):=by rw[vL,S]
    rw[e1,Bp];clear u C E L M e1 hv;generalize vL A k=s,p2 (2*(k:Int))=w at *;have:c=0\/c=1\/c=2:=by omega
    rcases this with rfl|rfl|rfl
    all_goals
     refine WW ?_;rfl
   .clear C hv;generalize vL A (ln A)=s at *;refine WW ?_;refine zU (Y) [1001] [] [13,14,15,53,54] [3,55,13,14,15,53,54] Z (λi f4 T U=>⟨(3,.ref 1001 0 (xs++[yA (EP true false),yA (vX s 8),yA (fW s)]++f4.map (λn=>yA (fW n))).length)::(55,iA i)::T,(1001,.arr 1 (xs++[yA (EP true false),yA (vX s 8),yA (fW s)]++f4.map (λn=>yA (fW n))) true)::U⟩) ?_;(conv=>whnf);refine⟨by(simp only[zCy,zB0];rfl),?_,?_⟩
    .intro k z c B u hk;have I:=yG iA u hk;have G:=zW u hk;have W:(z.map (λn=>yA (fW n))).length=k:=by rw[zA6];exact hk
     rw[zBd,zCo,zCy,<-zBy];clear u;generalize z.map (λn=>yA (fW n))=zs2 at *;refine WW ?_;rfl
    ·(refine WW ?_)
     rfl
  ·(refine WW ?_)
   refine zU (A) [5,1001] [5,1001] [3,5,6,13,14,15,28,29] [7,8,30,3,5,6,13,14,15,28,29] Z (λi f4 T U=>⟨(7,iA (vL A i))::(8,iA (p2 (2*(i:Int))))::(30,iA i)::T,U⟩) (Lq ?_ ?_)
   .intro k z c B u hk;have I:=yG iA u hk;have G:=zW u hk;have R:=hv.c c (yY u);have S:A.getD k 0=c:=by rw[u,<-hk];simp[qd]
    have O:=C k zB;have V:=fX k zB;have e1:vL A (k+1)=vL A k+c*p2 (2*(k:Int)):=by rw[vL,S]
    rw[e1,Bp];clear u C E L M e1 hv;generalize vL A k=s,p2 (2*(k:Int))=w at *;have:c=0\/c=1\/c=2:=by omega
    rcases this with rfl|rfl|rfl
    all_goals
     refine WW ?_;rfl
   .clear C hv;generalize vL A (ln A)=s at *;refine WW ?_;refine zU (Y) [1001] [] [13,14,15,53,54] [3,55,13,14,15,53,54] Z (λi f4 T U=>⟨(3,.ref 1001 0 (xs++[yA (EP true true),yA (vX s 8),yA (fW s)]++f4.map (λn=>yA (fW n))).length)::(55,iA i)::T,(1001,.arr 1 (xs++[yA (EP true true),yA (vX s 8),yA (fW s)]++f4.map (λn=>yA (fW n))) true)::U⟩) ?_;(conv=>whnf);refine⟨by(simp only[zCy,zB0];rfl),?_,?_⟩
    .intro k z c B u hk;have I:=yG iA u hk;have G:=zW u hk;have W:(z.map (λn=>yA (fW n))).length=k:=by rw[zA6];exact hk
     rw[zBd,zCo,zCy,<-zBy];clear u;generalize z.map (λn=>yA (fW n))=zs2 at *;refine WW ?_;rfl
    ·(refine WW ?_)
     rfl
 ·(refine WW ?_)
  exact zP [1001] Z Z Z Z
def QM {c:Int} {k:Nat} (hk:k<8) (hc:0<=c/\c<=2):IntKind.i64.wrap (c*2 ^ (min (2*(k:Int)).toNat IntKind.i64.bits))=c*p2 (2*(k:Int)):=by
 have hb:IntKind.i64.bits=64:=rfl;have h1:=fX k zB;rw[hb,show min (2*(k:Int)).toNat 64=(2*(k:Int)).toNat by omega];have h2:c=0\/c=1\/c=2:=by omega
 unfold p2 at h1;refine kL (k:= .i64) ⟨?_,?_⟩
 .show -9223372036854775808<=_
  rcases h2 with rfl|rfl|rfl<;>omega
 .show _<=9223372036854775807
  rcases h2 with rfl|rfl|rfl<;>omega
theorem ig (l:List Vw) (hn:ln l<=1000) (hb:∀v∈l,Ua v):zO 137 [zE vV l] [] (.ref 1001 0 ((aH l).map yA).length) [(1001,.arr 1 ((aH l).map yA) true)]:=by
 have hl:=zA vV l;have ag:=bD hb;refine eM call137 λF hF=>?_
 refine WW ?_;refine zQ 3 1001 1 Z Z Z ?_;refine zU (l) [1001] [] [12,13] [3,14,12,13] Z (λi f4 T U=>⟨(3,.ref 1001 0 ((aH f4).map yA).length)::(14,iA i)::T,(1001,.arr 1 ((aH f4).map yA) true)::U⟩) (Lq ?_ ?_)
 .intro i f4 v post hx hi;have hy:=yG vV hx hi;have ax:=zW hx hi;have hv:=hb v (yY hx);have ar:=bD (l:=f4) (λw hw=>hb w (by rw[hx];simp[hw]));have a1:((aH f4).map yA).length<=11000:=by rw[zA6];omega
  rw[Ta];clear hx ar ag;generalize (aH f4).map yA=xs at *;have au:=zA iA v.co;have av:=zA iA v.cn;have C:=λk hk=>OP hv.c k hk (zCa hk hv.n)
  have ap:=hv.n;have az:=hv.m;obtain⟨fl,ov,A,cn⟩:=v;dsimp only at *;rw[show vV ⟨fl,ov,A,cn⟩= .agg [bA fl,bA ov,zE iA A,zE iA cn]from Z]at hy;have E:=C (ln A) (zBb _);have O:=fX (ln A) ap;have R:=f5 (n:=vL A (ln A)) E.1 zB
  cases fl<;>cases ov
  ·(refine WW ?_)
   refine zU (A) [5,1001] [5,1001] [3,5,6,12,13,14,27,28] [7,29,3,5,6,12,13,14,27,28] Z (λi f4 T U=>⟨(7,iA (vL A i))::(29,iA i)::T,U⟩) (Lq ?_ ?_)
   .intro k z c B u hk;have M:=yG iA u hk;have G:=zW u hk;have V:=hv.c c (yY u);have W:A.getD k 0=c:=by rw[u,<-hk];simp[qd]
    have S:=C k zB;have Y:=fX k zB;have e1:vL A (k+1)=vL A k+c*p2 (2*(k:Int)):=by rw[vL,W]
    rw[e1];have I:=QM (c:=0) (k:=k) zB zB;have L:=QM (c:=2) (k:=k) zB zB;clear u C E O R e1 hv;generalize vL A k=s at *;have:c=0\/c=1\/c=2:=by omega
    rcases this with rfl|rfl|rfl
    ·(refine WW ?_)
     rw[I];rfl
    ·(refine WW ?_)
     rw[zF6];rfl
    ·(refine WW ?_)
     rw[L];rfl
   .clear C hv;generalize vL A (ln A)=s at *;refine WW ?_;refine zU (cn) [1001] [] [12,13,14,52,53] [3,54,12,13,14,52,53] Z (λi f4 T U=>⟨(3,.ref 1001 0 (xs++[yA (EP false false),yA (vX s 8),yA (fW s)]++f4.map (λn=>yA (fW n))).length)::(54,iA i)::T,(1001,.arr 1 (xs++[yA (EP false false),yA (vX s 8),yA (fW s)]++f4.map (λn=>yA (fW n))) true)::U⟩) ?_;(conv=>whnf);refine⟨by(simp only[zCy,zB0];rfl),?_,?_⟩
    .intro k z c B u hk;have M:=yG iA u hk;have G:=zW u hk;have ac:(z.map (λn=>yA (fW n))).length=k:=by rw[zA6];exact hk
     rw[zBd,zCo,zCy,<-zBy];clear u;generalize z.map (λn=>yA (fW n))=zs2 at *;refine WW ?_;rfl
    ·(refine WW ?_)
     rfl
  ·(refine WW ?_)
   refine zU (A) [5,1001] [5,1001] [3,5,6,12,13,14,27,28] [7,29,3,5,6,12,13,14,27,28] Z (λi f4 T U=>⟨(7,iA (vL A i))::(29,iA i)::T,U⟩) (Lq ?_ ?_)
   .intro k z c B u hk;have M:=yG iA u hk;have G:=zW u hk;have V:=hv.c c (yY u);have W:A.getD k 0=c:=by rw[u,<-hk];simp[qd]
    have S:=C k zB;have Y:=fX k zB;have e1:vL A (k+1)=vL A k+c*p2 (2*(k:Int)):=by rw[vL,W]
    rw[e1];have I:=QM (c:=0) (k:=k) zB zB;have L:=QM (c:=2) (k:=k) zB zB;clear u C E O R e1 hv;generalize vL A k=s at *;have:c=0\/c=1\/c=2:=by omega
    rcases this with rfl|rfl|rfl
    ·(refine WW ?_)
     rw[I];rfl
    ·(refine WW ?_)
     rw[zF6];rfl
    ·(refine WW ?_)
     rw[L];rfl
   .clear C hv;generalize vL A (ln A)=s at *;refine WW ?_;refine zU (cn) [1001] [] [12,13,14,52,53] [3,54,12,13,14,52,53] Z (λi f4 T U=>⟨(3,.ref 1001 0 (xs++[yA (EP false true),yA (vX s 8),yA (fW s)]++f4.map (λn=>yA (fW n))).length)::(54,iA i)::T,(1001,.arr 1 (xs++[yA (EP false true),yA (vX s 8),yA (fW s)]++f4.map (λn=>yA (fW n))) true)::U⟩) ?_;(conv=>whnf);refine⟨by(simp only[zCy,zB0];rfl),?_,?_⟩
    .intro k z c B u hk;have M:=yG iA u hk;have G:=zW u hk;have ac:(z.map (λn=>yA (fW n))).length=k:=by rw[zA6];exact hk
     rw[zBd,zCo,zCy,<-zBy];clear u;generalize z.map (λn=>yA (fW n))=zs2 at *;refine WW ?_;rfl
    ·(refine WW ?_)
     rfl
  ·(refine WW ?_)
   refine zU (A) [5,1001] [5,1001] [3,5,6,12,13,14,27,28] [7,29,3,5,6,12,13,14,27,28] Z (λi f4 T U=>⟨(7,iA (vL A i))::(29,iA i)::T,U⟩) (Lq ?_ ?_)
   .intro k z c B u hk;have M:=yG iA u hk;have G:=zW u hk;have V:=hv.c c (yY u);have W:A.getD k 0=c:=by rw[u,<-hk];simp[qd]
    have S:=C k zB;have Y:=fX k zB;have e1:vL A (k+1)=vL A k+c*p2 (2*(k:Int)):=by rw[vL,W]
    rw[e1];have I:=QM (c:=0) (k:=k) zB zB;have L:=QM (c:=2) (k:=k) zB zB;clear u C E O R e1 hv;generalize vL A k=s at *;have:c=0\/c=1\/c=2:=by omega
    rcases this with rfl|rfl|rfl
    ·(refine WW ?_)
     rw[I];rfl
    ·(refine WW ?_)
     rw[zF6];rfl
    ·(refine WW ?_)
     rw[L];rfl
   .clear C hv;generalize vL A (ln A)=s at *;refine WW ?_;refine zU (cn) [1001] [] [12,13,14,52,53] [3,54,12,13,14,52,53] Z (λi f4 T U=>⟨(3,.ref 1001 0 (xs++[yA (EP true false),yA (vX s 8),yA (fW s)]++f4.map (λn=>yA (fW n))).length)::(54,iA i)::T,(1001,.arr 1 (xs++[yA (EP true false),yA (vX s 8),yA (fW s)]++f4.map (λn=>yA (fW n))) true)::U⟩) ?_;(conv=>whnf);refine⟨by(simp only[zCy,zB0];rfl),?_,?_⟩
    .intro k z c B u hk;have M:=yG iA u hk;have G:=zW u hk;have ac:(z.map (λn=>yA (fW n))).length=k:=by rw[zA6];exact hk
     rw[zBd,zCo,zCy,<-zBy];clear u;generalize z.map (λn=>yA (fW n))=zs2 at *;refine WW ?_;rfl
    ·(refine WW ?_)
     rfl
  ·(refine WW ?_)
   refine zU (A) [5,1001] [5,1001] [3,5,6,12,13,14,27,28] [7,29,3,5,6,12,13,14,27,28] Z (λi f4 T U=>⟨(7,iA (vL A i))::(29,iA i)::T,U⟩) (Lq ?_ ?_)
   .intro k z c B u hk;have M:=yG iA u hk;have G:=zW u hk;have V:=hv.c c (yY u);have W:A.getD k 0=c:=by rw[u,<-hk];simp[qd]
    have S:=C k zB;have Y:=fX k zB;have e1:vL A (k+1)=vL A k+c*p2 (2*(k:Int)):=by rw[vL,W]
    rw[e1];have I:=QM (c:=0) (k:=k) zB zB;have L:=QM (c:=2) (k:=k) zB zB;clear u C E O R e1 hv;generalize vL A k=s at *;have:c=0\/c=1\/c=2:=by omega
    rcases this with rfl|rfl|rfl
    ·(refine WW ?_)
     rw[I];rfl
    ·(refine WW ?_)
     rw[zF6];rfl
    ·(refine WW ?_)
     rw[L];rfl
   .clear C hv;generalize vL A (ln A)=s at *;refine WW ?_;refine zU (cn) [1001] [] [12,13,14,52,53] [3,54,12,13,14,52,53] Z (λi f4 T U=>⟨(3,.ref 1001 0 (xs++[yA (EP true true),yA (vX s 8),yA (fW s)]++f4.map (λn=>yA (fW n))).length)::(54,iA i)::T,(1001,.arr 1 (xs++[yA (EP true true),yA (vX s 8),yA (fW s)]++f4.map (λn=>yA (fW n))) true)::U⟩) ?_;(conv=>whnf);refine⟨by(simp only[zCy,zB0];rfl),?_,?_⟩
    .intro k z c B u hk;have M:=yG iA u hk;have G:=zW u hk;have ac:(z.map (λn=>yA (fW n))).length=k:=by rw[zA6];exact hk
     rw[zBd,zCo,zCy,<-zBy];clear u;generalize z.map (λn=>yA (fW n))=zs2 at *;refine WW ?_;rfl
    ·(refine WW ?_)
     rfl
 ·(refine WW ?_)
  exact zP [1001] Z Z Z Z
def cdW (g:Lg) (w:Vw):Int:=if 0<=g.ph/\g.ph<(ln w.co:Int)then(if w.ov=true/\w.fl=false/\w.co.getD g.ph.toNat dd=1 then 3 else 2)else 1
def Hi (g:Lg) (v:List Vw) (f3:Int):Int:=if EY g f3=true/\0<=g.jn/\g.jn<(ln v:Int)then cdW g (v.getD g.jn.toNat dd)else 1
def ye (g:Lg) (v:List Vw) (f3:Int):1<=Hi g v f3/\Hi g v f3<=3:=by grind [Hi,cdW]
def Sa (g:Lg) (v:List Vw) (f3:Int) {Q:Int->Prop} (q1:EY g f3=false->Q 1) (B:EY g f3=true->g.jn<0->Q 1) (C:EY g f3=true->0<=g.jn->(ln v:Int)<=g.jn->Q 1)
  (q4:∀w,EY g f3=true->0<=g.jn->g.jn<(ln v:Int)->(v.map vV)[g.jn.toNat]? =some (vV w)->g.ph<0->Q 1)
  (E:∀w,EY g f3=true->0<=g.jn->g.jn<(ln v:Int)->(v.map vV)[g.jn.toNat]? =some (vV w)->0<=g.ph->(ln w.co:Int)<=g.ph->Q 1)
  (G:∀w c,EY g f3=true->0<=g.jn->g.jn<(ln v:Int)->(v.map vV)[g.jn.toNat]? =some (vV w)->0<=g.ph->g.ph<(ln w.co:Int)->(w.co.map iA)[g.ph.toNat]? =some (iA c)->Q (if w.ov=true/\w.fl=false/\c=1 then 3 else 2)):Q (Hi g v f3):=by
 unfold Hi
 cases hl:EY g f3 with
 |false=>rw[Os (λh=>by cases h.1)];exact q1 hl
 |true=>
  by_cases j0:g.jn<0
  .grind
  by_cases j1:(ln v:Int)<=g.jn
  .grind
  have u:=yF vV v g.jn zB zB;rw[zA5 ⟨rfl,zB,zB⟩];generalize v.getD g.jn.toNat dd=w at *;unfold cdW;by_cases z:g.ph<0
  .grind
  by_cases A:(ln w.co:Int)<=g.ph
  .grind
  simp_all [EY,q4,vV,iA,Hi]
def o5 (g:Lg) (v:List Vw) (f3:Int) (U:ln v<=1000) (hb:∀w∈v,ln w.co<=1000):zO 232 [yO g,zE vV v,iA f3] [] (iA (Hi g v f3)) []:=by
 have u:=jm g f3;have R:=zA vV v;have hb:∀w,(v.map vV)[g.jn.toNat]? =some (vV w)->(w.co.map iA).length=ln w.co:=λw _=>zA iA w.co
 unfold yO at *;refine Sa (Q:=λr=>zO 232 [.agg [iA g.jn,iA g.ph,iA g.fr,iA g.to,iA g.sc],zE vV v,iA f3] [] (iA r) []) g v f3 (λh1=>?_) (λh1 h2=>?_) (λh1 h2 C=>?_) (λw h1 h2 C z M=>?_) (λw h1 h2 C z M O=>?_) (λw c h1 h2 C z M O S=>?_)
 .rw[h1]at u;refine eM call232 λF hF=>?_
  exact ng u
 .rw[h1]at u;refine eM call232 λF hF=>?_
  exact ng u
 .rw[h1]at u;refine eM call232 λF hF=>?_
  exact ng u
 .rw[h1]at u;unfold vV at z;refine eM call232 λF hF=>?_
  exact ng u
 .rw[h1]at u;have E:=hb w z;unfold vV zE at z;refine eM call232 λF hF=>?_
  exact ng u
 .rw[h1]at u;have E:=hb w z;clear hb;obtain⟨B,G,L,I⟩:=w;rw[show vV ⟨B,G,L,I⟩= .agg [bA B,bA G,zE iA L,zE iA I]from Z]at z;dsimp only at *;cases G
  ·(refine eM call232 λF hF=>?_)
   exact ng u
  cases B
  case true=>
   refine eM call232 λF hF=>?_
   exact ng u
  by_cases A:c=1
  .rw[zA5 ⟨rfl,rfl,A⟩];refine eM call232 λF hF=>?_
   exact ng u
  .rw[Os (λh=>A h.2.2)];refine eM call232 λF hF=>?_
   exact ng u
def kw (g:Lg) (v:List Vw) (f3:Int) (U:ln v<=1000) (hb:∀w∈v,ln w.co<=1000):zO 200 [yO g,zE vV v,iA f3] [] (iA (Hi g v f3)) []:=by
 have u:=uf g f3;have R:=zA vV v;have hb:∀w,(v.map vV)[g.jn.toNat]? =some (vV w)->(w.co.map iA).length=ln w.co:=λw _=>zA iA w.co
 unfold yO at *;refine Sa (Q:=λr=>zO 200 [.agg [iA g.jn,iA g.ph,iA g.fr,iA g.to,iA g.sc],zE vV v,iA f3] [] (iA r) []) g v f3 (λh1=>?_) (λh1 h2=>?_) (λh1 h2 C=>?_) (λw h1 h2 C z M=>?_) (λw h1 h2 C z M O=>?_) (λw c h1 h2 C z M O S=>?_)
 .rw[h1]at u;refine eM call200 λF hF=>?_
  exact ng u
 .rw[h1]at u;refine eM call200 λF hF=>?_
  exact ng u
 .rw[h1]at u;refine eM call200 λF hF=>?_
  exact ng u
 .rw[h1]at u;unfold vV at z;refine eM call200 λF hF=>?_
  exact ng u
 .rw[h1]at u;have E:=hb w z;unfold vV zE at z;refine eM call200 λF hF=>?_
  exact ng u
 .rw[h1]at u;have E:=hb w z;clear hb;obtain⟨B,G,L,I⟩:=w;rw[show vV ⟨B,G,L,I⟩= .agg [bA B,bA G,zE iA L,zE iA I]from Z]at z;dsimp only at *;cases G
  ·(refine eM call200 λF hF=>?_)
   exact ng u
  cases B
  case true=>
   refine eM call200 λF hF=>?_
   exact ng u
  by_cases A:c=1
  .rw[zA5 ⟨rfl,rfl,A⟩];refine eM call200 λF hF=>?_
   exact ng u
  .rw[Os (λh=>A h.2.2)];refine eM call200 λF hF=>?_
   exact ng u
def xe (l:List Rq) (v:List Vw) (f3:Int) (i:Nat):Int:=if i/3<ln l/\i % 3<(l.getD (i/3) dd).legs.length then Hi ((l.getD (i/3) dd).legs.getD (i % 3) dd) v f3 else 0
def VS (l:List Rq) (v:List Vw) (f3:Int) (n:Nat):List Int:=(pi n).map (xe l v f3)
def Qa (l:List Rq) (v:List Vw) (f3:Int) (N i:Nat):List Int:=(pi N).map λj=>if j<i then xe l v f3 j else 0
def Zg (l:List Rq) (v:List Vw) (f3:Int) (N i:Nat):(Qa l v f3 N i).length=N:=by simp[Qa]
def xq (l:List Rq) (v:List Vw) (f3:Int) (N:Nat):(Qa l v f3 N 0).map yA=pb N (yA 0):=by
 apply zCf;intro j;unfold Qa;rw[zBe,zBe,zDq];by_cases hj:j<N
 .rw[zC1 hj,zA5 hj];simp
 .rw[zCh qD,Os hj];rfl
def we (l:List Rq) (v:List Vw) (f3:Int) (N k j:Nat):((Qa l v f3 N k).map yA)[j]? =if j<N then some (yA (if j<k then xe l v f3 j else 0))else none:=by
 unfold Qa;rw[zBe,zBe];by_cases hj:j<N
 .rw[zC1 hj,zA5 hj];rfl
 .rw[zCh qD,Os hj];rfl
def wq (l:List Rq) (v:List Vw) (f3:Int) (N i:Nat) (hi:i<N):(Qa l v f3 N (i+1)).map yA=((Qa l v f3 N i).map yA).set i (yA (xe l v f3 i)):=by
 apply zCf;intro j;rw[zD5,we,we,zA6,Zg];by_cases u:i=j
 .subst u;rw[zA5 hi,zA5 Z,zA5 hi,zA5 (Nat.lt_succ_self i)]
 .rw[Os u];by_cases hj:j<N
  .rw[zA5 hj,zA5 hj];by_cases h2:j<i
   .rw[zA5 zB,zA5 h2]
   .rw[Os zB,Os h2]
  .rw[Os hj,Os hj]
def jw (l:List Rq) (v:List Vw) (f3:Int) (N:Nat):Qa l v f3 N N=VS l v f3 N:=by
 unfold Qa VS;apply zF2;intro j hj;rw[zA5 (zBu.1 hj)]
def vq (l:List Rq) (v:List Vw) (f3:Int) (n:Nat):(VS l v f3 (n+1)).map yA=(VS l v f3 n).map yA++[yA (xe l v f3 n)]:=by
 unfold VS;rw[zC5];simp
theorem fw (l:List Rq) (q:Nat) (v:List Vw) (f3:Int) (hq:q<=1000) (hl:ln l<=1000) (C:∀r∈l,ln r.legs<=1000) (S:ln v<=1000) (hb:∀w∈v,ln w.co<=1000):
  zO 182 [zE zY l,iA q,zE vV v,iA f3] [] (zE yA (VS l v f3 (q*3))) []:=by
 have R:=zA zY l;by_cases G:q=0
 .subst G;refine eM call182 λF hF=>?_
  exact ly
 have B:=xq l v f3 (q*3);have Y:=zA vV v;refine eM call182 λF hF=>?_
 refine WW ?_;have L:q*3<=3000:=by omega
 generalize q*3=N at *;refine zN (N) [21] [] [0,2,3,9,23] [24,0,2,3,9,23] Z (λi T U=>⟨(24,iA i)::T,(21,.arr 1 ((Qa l v f3 N i).map yA) false)::U⟩) ?_;(conv=>whnf);refine⟨by(rw[B];rfl),?_,?_⟩
 .intro i hi;have W:(i:Int).tdiv 3=((i/3:Nat):Int):=by rw[zC9 zB];omega
  have hk:(i:Int).tmod 3=((i % 3:Nat):Int):=by rw[zCg zB];omega
  have O:aG .i64 ((i:Int).tdiv 3):=⟨by show -9223372036854775808<=_;omega,by show _<=9223372036854775807;omega⟩;have V:((Qa l v f3 N i).map yA).length=N:=by rw[zA6,Zg]
  have e:=wq l v f3 N i hi;rw[e];have ar:((Qa l v f3 N i).map yA)[i]? =some (yA (if i<i then xe l v f3 i else 0)):=by rw[we,zA5 hi]
  have A:∀y:AV,(((Qa l v f3 N i).map yA).set i y)[i]? =some y:=λy=>zB7 zB
  by_cases hr1:i/3<ln l
  .have hy:(l.map zY)[((i:Int).tdiv 3).toNat]? =some (zY (l.getD (i/3) dd)):=by rw[W];exact zJ zY l _ hr1
   have ac:(l.getD (i/3) dd).legs.length<=1000:=C _ Zy;have ag:=zA yO (l.getD (i/3) dd).legs
   have z:xe l v f3 i=if i % 3<(l.getD (i/3) dd).legs.length then Hi ((l.getD (i/3) dd).legs.getD (i % 3) dd) v f3 else 0:=by
    unfold xe;by_cases h:i % 3<(l.getD (i/3) dd).legs.length
    .rw[zA5 ⟨hr1,h⟩,zA5 h]
    .rw[Os (λI=>h I.2),Os h]
   rw[z];clear e z B;generalize l.getD (i/3) dd=x at *;unfold zY zE at hy;by_cases u:i % 3<ln x.legs
   .have ap:(x.legs.map yO)[((i:Int).tmod 3).toNat]? =some (yO (x.legs.getD (i % 3) dd)):=by rw[hk];exact zJ yO x.legs _ u
    have E:=o5 (x.legs.getD (i % 3) dd) v f3 S hb;have M:=ye (x.legs.getD (i % 3) dd) v f3;rw[zA5 u];generalize Hi (x.legs.getD (i % 3) dd) v f3=c at *;generalize x.legs.getD (i % 3) dd=g at *;generalize (Qa l v f3 N i).map yA=xs at*
    (have ga:=E;(repeat' (first|refine WTR ?_|apply yW|apply xH|intro hc|(apply zG;first|(apply cE;refine Qc tok Z Z Z (A _) Z Z Z Z Z Z Z Z ?_)|refine SM ?_)|refine SB ?_|fail))<;>clear ga)
    refine zBq (St.mk _) ?_
    show [(21,xV.arr 1 ((xs.set i _).set i _) _)]=_
    rw[zFj];rfl
   .rw[Os u];generalize (Qa l v f3 N i).map yA=xs at *;refine WW ?_;rfl
  .have z:xe l v f3 i=0:=by unfold xe;rw[Os (λh=>hr1 h.1)]
   rw[z];clear e z B;generalize (Qa l v f3 N i).map yA=xs at *;refine WW ?_;rfl
 .rw[jw];refine WW ?_;refine zI [] Z Z ?_ Z;exact zBq (AV.sl false) (zBf (by simp[VS]))
def uq (l:List Rq) (q:Nat) (v:List Vw) (f3:Int) (W:q<=1000) (hl:ln l<=1000) (A:∀r∈l,ln r.legs<=1000) (M:ln v<=1000) (hb:∀w∈v,ln w.co<=1000):
  zO 139 [zE zY l,iA q,zE vV v,iA f3] [] (zE yA (VS l v f3 (q*3))) []:=by
 have I:=zA zY l;refine eM call139 λF hF=>?_
 refine WW ?_;refine zQ 9 1001 1 Z Z Z ?_;refine zN (q) [1001] [] [0,2,3,13] [9,14,0,2,3,13] Z (λi T U=>⟨(9,.ref 1001 0 ((VS l v f3 (i*3)).map yA).length)::(14,iA i)::T,(1001,.arr 1 ((VS l v f3 (i*3)).map yA) true)::U⟩) (Lq ?_ ?_)
 .intro r Y;refine WW ?_;refine zN (3) [1001] [] [0,2,3,10,13,14] [9,17,0,2,3,10,13,14] Z (λi T U=>⟨(9,.ref 1001 0 ((VS l v f3 (r*3+i)).map yA).length)::(17,iA i)::T,(1001,.arr 1 ((VS l v f3 (r*3+i)).map yA) true)::U⟩) (Lq ?_ ?_)
  .intro k hk;have e:=vq l v f3 (r*3+k);have O:((VS l v f3 (r*3+k)).map yA).length<=4000:=by simp[VS];omega
   rw[show r*3+(k+1)=r*3+k+1 from Z,e];have e3:(r*3+k)/3=r:=by omega
   have C:(r*3+k) % 3=k:=by omega
   by_cases hr1:r<ln l
   .have S:=zJ zY l r hr1;have L:(l.getD r dd).legs.length<=1000:=A _ Zy
    have z:xe l v f3 (r*3+k)=if k<(l.getD r dd).legs.length then Hi ((l.getD r dd).legs.getD k dd) v f3 else 0:=by
     unfold xe;rw[e3,C];by_cases h:k<(l.getD r dd).legs.length
     .rw[zA5 ⟨hr1,h⟩,zA5 h]
     .rw[Os (λE=>h E.2),Os h]
    rw[z];clear e z;generalize l.getD r dd=x at *;have R:=zA yO x.legs;unfold zY zE at S;by_cases u:k<ln x.legs
    .have V:=zJ yO x.legs k u;have B:=kw (x.legs.getD k dd) v f3 M hb;have G:=ye (x.legs.getD k dd) v f3;rw[zA5 u];generalize Hi (x.legs.getD k dd) v f3=c at *;generalize x.legs.getD k dd=g at *;generalize (VS l v f3 (r*3+k)).map yA=xs at *;refine zS B ?_;rfl
    .rw[Os u];generalize (VS l v f3 (r*3+k)).map yA=xs at *;refine WW ?_;rfl
   .have z:xe l v f3 (r*3+k)=0:=by unfold xe;rw[Os (λh=>hr1 zB)]
    rw[z];clear e z;generalize (VS l v f3 (r*3+k)).map yA=xs at *;refine WW ?_;rfl
  .rw[show r*3+3=(r+1)*3 by omega];refine WW ?_;rfl
 ·(refine WW ?_)
  refine zI [] Z Z ?_ Z;exact zBq (AV.sl false) zA8
def dw (f3:Int) (v:List Vw) (b:List Int):Ms:=⟨17,[],[f3],aH v++b⟩
def m5 (f3:Int) (v:List Vw) (b:List Int) (A:ln v<=1000) (hb:∀w∈v,Ua w) (hl:ln b<=10000):zO 183 [iA f3,zE vV v,zE yA b] [] (zX (dw f3 v b)) []:=by
 have C:=Ap v A hb;have h1:=bD hb;have B:=zA yA (aH v);have u:=zA yA b;rw[show zX (dw f3 v b)= .agg [iA 17,.sl false [],.sl false [iA f3],.sl false ((aH v).map yA++b.map yA)] by unfold dw zX zE;rw[zBd];rfl];generalize (aH v).map yA=xs at *;refine eM call183 λF hF=>?_
 refine VZ C ?_;refine zI [] Z Z ?_ Z;exact zBq (λz=>AV.agg [iA 17,AV.sl false [],AV.sl false [iA f3],AV.sl false z]) zA8
def bw (f3:Int) (v:List Vw) (b:List Int) (A:ln v<=1000) (hb:∀w∈v,Ua w) (hl:ln b<=10000):zO 138 [iA f3,zE vV v,zE yA b] [] (zX (dw f3 v b)) []:=by
 have C:=ig v A hb;have h1:=bD hb;have B:=zA yA (aH v);have u:=zA yA b;rw[show zX (dw f3 v b)= .agg [iA 17,.sl false [],.sl false [iA f3],.sl false ((aH v).map yA++b.map yA)] by unfold dw zX zE;rw[zBd];rfl];generalize (aH v).map yA=xs at *;refine eM call138 λF hF=>?_
 refine VZ C ?_;refine zI [] Z Z ?_ Z;exact zBq (λz=>AV.agg [iA 17,AV.sl false [],AV.sl false [iA f3],AV.sl false z]) zA8
def RY (d:wE) (v:List Vw) (f3:Int):Ms:=dw f3 v (VS d.rq v f3 (d.rg.ag.req.toNat*3))
def qq (d:wE) (hd:dH d) (C:0<=d.rg.ag.req/\d.rg.ag.req<=4) (v:List Vw) (f3:Int) (z:ln v<=1000) (hb:∀w∈v,Ua w):zO 120 [zM d,zE vV v,iA f3] [] (zX (RY d v f3)) []:=by
 have u:=fw d.rq d.rg.ag.req.toNat v f3 zB hd.q hd.g z (λw B=>zCa (hb w B).n xA);rw[show((d.rg.ag.req.toNat:Nat):Int)=d.rg.ag.req by omega]at u;have A:=m5 f3 v (VS d.rq v f3 (d.rg.ag.req.toNat*3)) z hb (by simp[VS];omega);unfold RY;generalize VS d.rq v f3 (d.rg.ag.req.toNat*3)=cs at *;unfold zX at *;unfold zM xD;generalize aH v=E at *;refine eM call120 λF hF=>?_
 exact mx (xW u A)
def Gi (d:wE) (hd:dH d) (C:0<=d.rg.ag.req/\d.rg.ag.req<=4) (v:List Vw) (f3:Int) (z:ln v<=1000) (hb:∀w∈v,Ua w):zO 61 [zM d,zE vV v,iA f3] [] (zX (RY d v f3)) []:=by
 have u:=uq d.rq d.rg.ag.req.toNat v f3 zB hd.q hd.g z (λw B=>zCa (hb w B).n xA);rw[show((d.rg.ag.req.toNat:Nat):Int)=d.rg.ag.req by omega]at u;have A:=bw f3 v (VS d.rq v f3 (d.rg.ag.req.toNat*3)) z hb (by simp[VS];omega);unfold RY;generalize VS d.rq v f3 (d.rg.ag.req.toNat*3)=cs at *;unfold zX at *;unfold zM xD;generalize aH v=E at *;refine eM call61 λF hF=>?_
 exact mx (xW u A)
def Ay (n:Nat):Vw:=⟨true,false,pb n 0,pb n 0⟩
def m8 {n:Nat} (h:n<=8):Ua (Ay n):=⟨by simp[Ay];exact h,by simp[Ay];exact h,λc hc=>by
 have:=(zE2.1 hc).2
 omega⟩
def aw (j:Jn) (h:ln j.ph<=8):zO 76 [wK j] [] (vV (Ay (ln j.ph))) []:=by
 have hl:=zA xN j.ph;have u:∀n,(pb n (0:Int)).map iA=pb n (iA 0):=λn=>by simp
 rw[show vV (Ay (ln j.ph))= .agg [bA true,bA false,.sl false (pb (ln j.ph) (iA 0)),.sl false (pb (ln j.ph) (iA 0))] by unfold Ay vV zE;rw[u]];rw[<-hl];unfold wK zE;generalize j.ph.map xN=P at *;refine eM call76 λF hF=>?_
 refine WW ?_;refine zI [] Z Z ?_ Z
 show AV.agg [bA true,bA false,.sl false (py (ln P) (p5 0 (pb (ln P) (iA 0)))),.sl false (py (ln P) (p5 0 (pb (ln P) (iA 0))))]=_
 rw[zBr,zBf zV]
