/- Part 24. -/
import Derived.Test.YtaglbcjljlkjcaaGreatX23
namespace Go.Proofs.YtaglbcjljlkjcaaGreat.Av
open Tryz
set_option linter.all false
set_option maxRecDepth 4000
set_option maxHeartbeats 1000000
open List renaming length->ln,replicate->pb,getD->pi
open Inhabited renaming default->dd
def WM (j:Jn) (u:ln j.ph<=1000) (c:Ct) (hc:ln c.li=ln j.ph) (r:Int):zO 252 [wK j,Qt c,iA r] [] (bA (RB j c r)) []:=by rw[jV];exact E0 j u c hc r
def Cb (j:Jn) (A:ln j.ph<=1000) (u:ln j.cf<=40) (c:Ct) (z:ln c.nx=2) (r:Int) (B:0<=r/\r<2) (t:Nat) (C:t<ln j.ph) (E:c.nx.getD r.toNat dd= -1\/0<=c.nx.getD r.toNat dd):zO 251 [wK j,Qt c,iA r,iA (t:Int)] [] (iA (aY j c r t)) []:=by rw[jV];exact D0 j A u c z r B t C E
def o0 (c:Ct) (u:ln c.li<=25):zO 254 [Qt c] [] (iA (GH c)) []:=by rw[jV];exact G0 c u
theorem Ex (p:Nat->Bool):∀n,n<=25->(gB p n=0↔∀i,i<n->p i=false)
 |0,_=>⟨λ_ i h=>absurd h (zC3 _),λ_=>rfl⟩
 | n+1,h=>by
  have z:=Ex p n zB;have hb:=VN p n zB;have A:=BK n zB;unfold gB
  cases u:p n with
  |true=>
   rw[zA5 Z];refine⟨λh=>by omega,λh=>?_⟩;have:=h n zB;rw[u]at this;cases this
  |false=>
   rw[Os xA,z];refine⟨λh i hi=>?_,λh i hi=>h i zB⟩;by_cases e:i=n
   .rw[e];exact u
   .exact h i zB
def Z0 (c:Ct) (u:ln c.li<=25):ib c=decide (GH c=0):=by
 rw[zFu,zBc];unfold GH ib;rw[Ex _ _ u,zBk];constructor
 .intro h i hi;have:=h (xS c i) (by simp[xS,pi,hi])
  grind [ib,GH,RD]
 all_goals grind [ib,GH,List.getElem_of_mem,RD,xS,pi]
def zC:xV:= .box [.s (.slice none 0 0),iA 0,.s (.slice none 0 0),iA 0]
def Bb (j:Jn) (t:Nat) (e:Bool) (i:Int) (c:Ct) (o:List Int):St:=⟨[(83,iA i),(2,iA t),(3,.ptr 3 0 0),(6,.ptr 6 0 0),(7,.ptr 3000 0 0)],RA e c o++[(3,.box [zE xN j.ph,zE iA j.cf,iA j.st]),(6,zC)]⟩
def SU (j:Jn) (e:Bool) (i:Int) (c:Ct) (o:List Int):St:=⟨[(129,iA i),(3,.ptr 3 0 0),(6,.ptr 6 0 0),(7,.ptr 3000 0 0)],RA e c o++[(3,.box [zE xN j.ph,zE iA j.cf,iA j.st]),(6,zC)]⟩
theorem Jk (j:Jn) (J:JV j) (c:Ct) (C:CV j c) (t:Int):zO 197 [wK j,JK c,iA t] [] (JK (GF j c t)) []:=by
 have hn:=J.n;have R:j.ph.length<=1000:=by omega
 have cv:=J.c;have b1:=C.n;have b9:=C.m;have ca:=C.w;have c4:=J.st;have cy:=zA xN j.ph;have cn:(c.li.map xG).length=j.ph.length:=by rw[zA6];exact b1
 have cx:(c.nx.map iA).length=2:=by rw[zA6];exact b9
 have k3:=Zh c zB zB;unfold GF;by_cases hw:0<c.wt
 .rw[zA5 hw];refine eM call197 λF hF=>?_
  repeat' (first|(apply zG;first|(apply GD;refine qA (nw:=[3000]) (fP tok 3000 Z Z) Z Z Z ?_)|refine uN tok Z Z ?_|(apply xQ;(first|(refine vJ 188 ?_;first|refine wJ (zL (k3) Z Z Z Z Z) Z ?_|refine qA (zL (k3) Z Z Z Z Z) Z Z Z ?_|refine aO (zL (k3) Z Z Z Z Z) Z Z Z ?_)))|refine YZ tok Z Z Z Z ?_|(apply cE;refine cV tok Z Z Z ?_)|refine VH gY ?_|apply kR)|first|refine SQ ?_|fail)
  refine WW ?_;exact zI [] Z Z (jV ⟨c.li,c.gr,c.nx,c.wt-1⟩) Z
 rw[Os hw];have h0:c.wt=0:=by omega
 have CL:=Nl J C h0 t;have bz:=CP b1 t;have b0:=Ge j c t;rw[cn]at k3;have hN:∀i,((NN j c t i).map xG).length=j.ph.length:=λi=>by rw[zA6];exact PV j c t i
 refine eM call197 λF hF=>?_
 repeat' (first|(apply zG;first|(apply GD;refine qA (nw:=[3000]) (fP tok 3000 Z Z) Z Z Z ?_)|refine uN tok Z Z ?_|(apply xQ;(first|(refine vJ 188 ?_;first|refine wJ (zL (k3) Z Z Z Z Z) Z ?_|refine qA (zL (k3) Z Z Z Z Z) Z Z Z ?_|refine aO (zL (k3) Z Z Z Z Z) Z Z Z ?_)))|refine YZ tok Z Z Z Z ?_|(apply cE;refine cV tok Z Z Z ?_)|refine VH gY ?_|apply kR)|first|refine SQ ?_|fail)
 (repeat' (first|refine Tc ?_|apply yW|apply xH|intro hc|(apply zG;first|refine SM ?_)|fail))
 refine yC Z (xJ ?_);apply xY;refine eQ [3000,1001,1002,3,4,6] [2,3,4,6,7,8] ⟨[(2,iA t),(3,.ptr 3 0 0),(4,.ptr 4 0 0),(6,.ptr 6 0 0),(7,.ptr 3000 0 0),(8,bA (ZO j t))],[(3000,.box [.ref 1001 0 j.ph.length,iA c.gr,.ref 1002 0 (c.nx.map iA).length,iA c.wt]),(1001,.arr 2 (c.li.map xG) false),(1002,.arr 1 (c.nx.map iA) false),(3,.box [zE xN j.ph,zE iA j.cf,iA j.st]),(4,.box [zE xG c.li,iA c.gr,zE iA c.nx,iA c.wt]),(6,zC)]⟩ rfl ?_ ?_
 .clear k3 CL;by_cases a1:0<=t
  .by_cases a2:t<j.ph.length
   .rw[show ZO j t=true from zA9 ⟨a1,a2⟩];refine WW ?_;exact⟨rfl,rfl⟩
   .rw[show ZO j t=false from zA7 (λh=>a2 h.2)];refine WW ?_;exact⟨rfl,rfl⟩
  .rw[show ZO j t=false from zA7 (λh=>a1 h.1)];refine WW ?_;exact⟨rfl,rfl⟩
 clear k3;refine WW ?_;refine zN (j.ph.length) [1001,3,6,3000,1002] [3,6,3000,1002] [2,3,6,7,8,38,39] [40,2,3,6,7,8,38,39] Z (λi T U=>⟨(40,iA i)::T,(1001,.arr 2 ((NN j c t i).map xG) false)::U⟩) ?_;(conv=>whnf);refine⟨by(rw[bz];rfl),?_,?_⟩
 .intro i hi;have hy:=zJ xN j.ph i hi
  change (j.ph.map xN)[i]? =some (xN (yH j i))at hy
  have cr:=zJ xG c.li i zB
  change (c.li.map xG)[i]? =some (xG (xS c i))at cr
  have b5:∃l,((NN j c t i).map xG)[i]? =some (xG l):=⟨_,zJ xG (NN j c t i) i (by rw[PV];exact hi)⟩;obtain⟨lm,b5⟩:=b5;have c5:=J.ti i hi;have c6:=Tl (C.k i hi) zB zB;have co:Ax (yH j i):=⟨zB,zB,zB,zB⟩;have cu:=hN i;have ls:=λlv=>Tt (yH j i) co zB ⟨zB,zB⟩ (xS c i) (C.k i hi) lv
  have ck:=kZ j.cf zB i t;have es:=CQ j c t i;have em:(NN j c t (i+1)).map xG=((NN j c t i).map xG).set i (xG (CR (yH j i) (xS c i) (GE j c t i))):=by rw[es,zCs]
  rw[em];have S:GE j c t i=_:=rfl
  conv at S=>rhs;unfold GE
  have a3:=ls (GE j c t i);clear ls es em CL hN bz b0;generalize CR (yH j i) (xS c i) (GE j c t i)=ln,(NN j c t i).map xG=xs at *;generalize GE j c t i=lv at *;generalize kH j.cf i t=cq at*
  cases ha:ZO j t with
  |false=>
   rw[ha]at S;rw[Os xA]at S;generalize yH j i=ph,xS c i=l at *;by_cases hm:ph.maxg<=l.tk+1
   .rw[zA9 hm]at S;subst S;refine zS a3 ?_;rfl
   .rw[zA7 hm]at S;subst S;refine zS a3 ?_;rfl
  | true=>
   rw[ha]at S;rw[zA5 Z]at S;generalize yH j i=ph,xS c i=l at *;by_cases b3:(i:Int)=t
   .rw[zA7 (λh=>h b3)]at S;rw[zB8]at S;subst S;by_cases hm:ph.maxg<=l.tk+1
    all_goals
     (refine zS a3 ?_)
     rfl
   rw[zA9 b3,zBh]at S;by_cases hm:ph.maxg<=l.tk+1
   .rw[zA9 hm,zDt]at S;subst S;refine zS a3 ?_;rfl
   .rw[zA7 hm,zDk]at S;rw[S]at a3;clear S
    cases cq with
    |true=>
     refine yJ (xW ck a3) ?_;rfl
    |false=>
     refine yJ (xW ck a3) ?_;rfl
 .rw [b0];have e1:((UK j c t).map xG).length=j.ph.length:=by simp[UK]
  have eH:∀x:List Li,x=UK j c t->(x.map xG).length=j.ph.length:=λx h=>by rw[h];exact e1
  clear b0 bz hN;have a7:=CL.n;have a6:=CL.m
  cases ha:ZO j t with
  | true=>
   rw[zA5 Z];unfold ZO at ha;rw[zBc]at ha;obtain⟨tn,rfl⟩:∃tn:Nat,t=tn:=⟨t.toNat,zB⟩;rw[zBx];generalize c7:tn=t at *;have ht:t<j.ph.length:=by omega
   obtain⟨u,V⟩:∃u:Ct,u=⟨UK j c t,c.gr,c.nx,c.wt⟩:=⟨_,rfl⟩;rw[<-V]at CL a7 a6;rw[show UK j c t=u.li by rw[V]]at e1;rw[show UK j c t=u.li by rw[V],show c.gr=u.gr by rw[V],show c.nx=u.nx by rw[V],show c.wt=u.wt by rw[V]];rw[show(⟨u.li,u.gr,u.nx,u.wt⟩:Ct)=u from Z];have bd:u.wt=0:=by rw[V];exact h0
   clear V eH;have ag:u.li.length=j.ph.length:=a7;have ap:u.nx.length=2:=a6;have a5:=CL;obtain⟨M,bs⟩:=Pl J a5 bd ht 0;have E:=M.n;have G:=M.m;have br:=Wl J (c:=u) (r:=0) ht;have Y:u.gr=u.gr:=rfl;refine WW ?_;refine dR [3000,1001,1002,2001,3,6] [83,2,3,6,7] (Bb j t false 0 u u.nx) (Bb j t (decide ((jA j t u 0).gr≠u.gr)) 1 (jA j t u 0) u.nx) (Bb j t (decide ((jA j t (jA j t u 0) 1).gr≠u.gr)) 2 (jA j t (jA j t u 0) 1) (if(jA j t u 0).gr=u.gr then(jA j t u 0).nx else u.nx)) Z (by unfold Bb;rw[show RA false u u.nx=jC u 1002 from Z];unfold jC;rw[e1];rfl) ?_ ?_ ?_
   .unfold Bb;clear br E G bs M;rw[show RA false u u.nx=jC u 1002 from Z];unfold jC;have hxv:=a5.v 0 zB;have cc:=Cb j R zB u ap 0 zB t ht vn;have O:=WM j R u ag 0;by_cases B:aY j u 0 t= -1
    .rw[B]at cc;rw[show jA j t u 0=u by unfold jA;rw[zA5 B];split<;>rfl];rw[show decide (u.gr≠u.gr)=false from zA7 (λh=>h Y)];clear O hxv B;refine zS cc ?_;rfl
    obtain⟨p,I,hp,bk⟩:=WR J (c:=u) (r:=0) ht B;rw[I]at cc
    cases hd:RB j u 0 with
    |false=>
     rw[hd]at O;rw[show jA j t u 0=u by unfold jA;rw[Os IA]];rw[show decide (u.gr≠u.gr)=false from zA7 (λh=>h Y)];clear hd B I hxv;refine yJ (xW cc O) ?_;rfl
    |true=>
    rw[hd]at O;have A:jA j t u 0=uY j u p:=by unfold jA;rw[zA5 hd,Os B,I,zBx]
    clear B I hxv hd;by_cases hk:dT j u p=true\/u.gr=(yH j p).group
    .have cb:=UJ j J R zB u ag ap p hp (J.rg p hp) hk
     have ar:(uY j u p).gr=u.gr:=by
      rcases jW j u p with h|h
      .exact(zBq Ct.gr h.2).trans Y
      .rcases hk with hk|hk
       .rw[hk]at h;cases h.1
       .exact h.2.trans (hk.symm.trans Y)
     rw[A,show decide ((uY j u p).gr≠u.gr)=false from zA7 (λh=>h ar)];generalize uY j u p=b at *;clear A ar hk;unfold jC at cb;refine yJ (qM cc O cb) ?_;rfl
    .have av:dT j u p=false:=by
      cases h:dT j u p with
      |false=>rfl
      |true=>exact absurd (.inl h) hk
     have ax:u.gr≠(yH j p).group:=λh=>hk (.inr h)
     have cb:=CM j J R zB u ag ap p hp (J.rg p hp) av ax
     have ar:(uY j u p).gr≠u.gr:=by
      rcases jW j u p with h|h
      .rw[av]at h;cases h.1
      .rw[h.2,<-Y];exact λh=>ax h.symm
     rw[A,show decide ((uY j u p).gr≠u.gr)=true from zA9 ar];generalize uY j u p=b at *;clear A ar hk av ax;unfold jC XW at cb;refine yJ (qM cc O cb) ?_;rfl
   .clear ag ap Y;have ch:=br;generalize jA j t u 0=z at *;unfold Bb;by_cases L:z.gr=u.gr
    .rw [zA5 L,zA7 (λh=>h L)];rw[show RA false z u.nx=jC z 1002 from Z];unfold jC;have hxv:=M.v 1 zB;have cc:=Cb j R zB z G 1 zB t ht vn;have O:=WM j R z E 1;by_cases B:aY j z 1 t= -1
     .rw[B]at cc;rw[show jA j t z 1=z by unfold jA;rw[zA5 B];split<;>rfl];rw[show decide (z.gr≠u.gr)=false from zA7 (λh=>h L)];clear O hxv B;refine zS cc ?_;rfl
     obtain⟨p,I,hp,bk⟩:=WR J (c:=z) (r:=1) ht B;rw[I]at cc
     cases hd:RB j z 1 with
     |false=>
      rw[hd]at O;rw[show jA j t z 1=z by unfold jA;rw[Os IA]];rw[show decide (z.gr≠u.gr)=false from zA7 (λh=>h L)];clear hd B I hxv;refine yJ (xW cc O) ?_;rfl
     |true=>
     rw[hd]at O;have A:jA j t z 1=uY j z p:=by unfold jA;rw[zA5 hd,Os B,I,zBx]
     clear B I hxv hd;by_cases hk:dT j z p=true\/z.gr=(yH j p).group
     .have cb:=UJ j J R zB z E G p hp (J.rg p hp) hk
      have ar:(uY j z p).gr=u.gr:=by
       rcases jW j z p with h|h
       .exact(zBq Ct.gr h.2).trans L
       .rcases hk with hk|hk
        .rw[hk]at h;cases h.1
        .exact h.2.trans (hk.symm.trans L)
      rw[A,show decide ((uY j z p).gr≠u.gr)=false from zA7 (λh=>h ar)];generalize uY j z p=b at *;clear A ar hk;unfold jC at cb;refine yJ (qM cc O cb) ?_;rfl
     .have av:dT j z p=false:=by
       cases h:dT j z p with
       |false=>rfl
       |true=>exact absurd (.inl h) hk
      have ax:z.gr≠(yH j p).group:=λh=>hk (.inr h)
      have cb:=CM j J R zB z E G p hp (J.rg p hp) av ax
      have ar:(uY j z p).gr≠u.gr:=by
       rcases jW j z p with h|h
       .rw[av]at h;cases h.1
       .rw[h.2,<-L];exact λh=>ax h.symm
      rw[A,show decide ((uY j z p).gr≠u.gr)=true from zA9 ar];generalize uY j z p=b at *;clear A ar hk av ax;unfold jC XW at cb;refine yJ (qM cc O cb) ?_;rfl
    .have ac:z.gr≠u.gr:=L
     have a8:z.gr=(yH j t).group:=by
      rcases ch with h|h
      .exact absurd h ac
      .exact h
     rw[Os L,zA9 ac];rw[show RA true z u.nx=XW z u.nx from Z];unfold XW;have hxv:=M.v 1 zB;have cc:=Cb j R zB z G 1 zB t ht vn;have O:=WM j R z E 1;by_cases B:aY j z 1 t= -1
     .rw[B]at cc;rw[show jA j t z 1=z by unfold jA;rw[zA5 B];split<;>rfl];rw[show decide (z.gr≠u.gr)=true from zA9 ac];clear O hxv B;refine zS cc ?_;rfl
     obtain⟨p,I,hp,bk⟩:=WR J (c:=z) (r:=1) ht B;rw[I]at cc
     cases hd:RB j z 1 with
     |false=>
      rw[hd]at O;rw[show jA j t z 1=z by unfold jA;rw[Os IA]];rw[show decide (z.gr≠u.gr)=true from zA9 ac];clear hd B I hxv;refine yJ (xW cc O) ?_;rfl
     |true=>
     rw[hd]at O;have A:jA j t z 1=uY j z p:=by unfold jA;rw[zA5 hd,Os B,I,zBx]
     clear B I hxv hd;have cb:=NL j J R zB z E G p hp (J.rg p hp) (.inr (a8.trans (bk:(yH j p).group=(yH j t).group).symm))
     have ar:(uY j z p).gr≠u.gr:=by
      rcases jW j z p with h|h
      .rw[h.2];exact ac
      .rw[h.2,(bk:(yH j p).group=(yH j t).group),<-a8];exact ac
     rw[A,show decide ((uY j z p).gr≠u.gr)=true from zA9 ar];generalize uY j z p=b at *;clear A ar;unfold jC at cb;refine yJ (qM cc O cb) ?_;rfl
   .generalize (if(jA j t u 0).gr=u.gr then(jA j t u 0).nx else u.nx)=o at *;generalize jA j t (jA j t u 0) 1=c2 at *;unfold Bb;by_cases he:c2.gr=u.gr
    .rw[zA7 (λh=>h he)];refine WW ?_;exact zI [] Z Z (jV c2) Z
    .rw[zA9 he];refine WW ?_;exact zI [] Z Z (jV c2) Z
  | false=>
   rw[Os xA];obtain⟨u,V⟩:∃u:Ct,u=⟨UK j c t,c.gr,c.nx,c.wt⟩:=⟨_,rfl⟩;rw[<-V]at CL a7 a6;rw[show UK j c t=u.li by rw[V]]at e1;rw[show UK j c t=u.li by rw[V],show c.gr=u.gr by rw[V],show c.nx=u.nx by rw[V],show c.wt=u.wt by rw[V]];rw[show(⟨u.li,u.gr,u.nx,u.wt⟩:Ct)=u from Z];have bd:u.wt=0:=by rw[V];exact h0
   clear V eH;have cw:=zA iA u.nx;have C:=CL;have cg:=th j R J.gp;have cm:=PW J
   have ci:dZ j<=4:=by
    have:∀n,n<=j.ph.length->rb j.ph n<=4:=λn=>by
     induction n with
     |zero=>intro _;show(0:Int)<=4;omega
     |succ n ih=>
      intro h;have h1:=ih zB;have h2:=J.gp n zB;unfold yH at h2;unfold rb;omega
    exact this _ (zBb _)
   have b7:=C.g;have bl:(u.gr+1).tmod (dZ j)=(u.gr+1) % dZ j:=zCg zB;have hO:vc u u.nx.length=Rl u:=by unfold vc Rl;rw[zA8]
   have bf:vc u 0=decide (GH u=0):=by rw[<-Z0 u zB];unfold vc;simp
   have ks:=o0 u zB;unfold Qt at ks;rw[e1]at ks;have hxv:=λ(i:Nat) (hi:i<2)=>C.v i hi
   clear CL ca hw;refine WW ?_;cases b4:decide (GH u=0)
   all_goals
    rw[b4]at bf;simp only[zBc,zBi]at b4;generalize GH u=se at *;refine zS ks ?_;refine zN (u.nx.length) [3,6,3000,1001,1002] [3,6,3000,1001,1002] [3,6,7,108,109] [14,110,3,6,7,108,109] Z (λi T U=>⟨(14,bA (vc u i))::(110,iA i)::T,U⟩) ?_;(conv=>whnf);refine⟨by(rw[bf];rfl),?_,?_⟩
    .intro i hi;have hy:=zJ iA u.nx i hi;have hx:=hxv i zB
     have c8:u.nx.getD i default= -1\/0<=u.nx.getD i default:=by rcases hx with h|h;exact .inl h;exact .inr h.1
     have es:=CN u i hi;rw[es];clear hxv hx es cg ks hO bf;generalize vc u i=o,u.nx.getD i default=x at *;by_cases hx:x= -1
     .rw[show(x== -1)=true by rw[zCp];exact hx,zD1]
      cases o with
      |false=>
       refine WW ?_;rfl
      |true=>
       refine WW ?_;rfl
     .rw[show(x== -1)=false by rw[zB3];exact hx,zC6]
      cases o with
      |false=>
       refine WW ?_;rfl
      |true=>
       refine WW ?_;rfl
    .rw [hO];clear bf hO ks hxv
     cases bu:Rl u with
     | true=>
      have ba:tj j u=qY j (qY j (LZ j u ((u.gr+1) % dZ j)) 0) 1:=by unfold tj;rw[zA5 bu]
      rw[ba];have cj:0<=(u.gr+1) % dZ j/\(u.gr+1) % dZ j<dZ j:=⟨zEe _ zB,zDy _ zB⟩;have a4:=Ee C cj;have cp:(LZ j u ((u.gr+1) % dZ j)).wt=0:=bd;have ce:=CK j R ((u.gr+1) % dZ j) u.gr u.wt (u.li.map xG) (u.nx.map iA) j.ph.length (u.nx.map iA).length
      have b2:([(3000,.box [.ref 1001 0 j.ph.length,iA ((u.gr+1) % dZ j),.ref 2001 0 2,iA u.wt]),(1001,.arr 2 (u.li.map xG) false),(1002,.arr 1 (u.nx.map iA) false),(2001,.arr 1 [iA (jJ j 0 ((u.gr+1) % dZ j) 0),iA (jJ j 1 ((u.gr+1) % dZ j) 0)] false)]:List (Nat×xV))=XW (LZ j u ((u.gr+1) % dZ j)) u.nx:=by
       unfold XW;rw[show((LZ j u ((u.gr+1) % dZ j)).li.map xG).length=j.ph.length from e1];rfl
      rw[b2]at ce;clear b2;rw[<-bl]at ce;rw[bl]at ce;generalize b6:LZ j u ((u.gr+1) % dZ j)=W at *;rw[<-bl]at ce;have c3:¬dZ j=0:=by omega
      generalize dZ j=gm at *;have a9:=a4.n;have bb:=a4.m;obtain⟨M,bs⟩:=RC J a4 cp (r:=0) zB;have E:=M.n;have G:=M.m
      change CV j (qY j W 0)at M
      change (qY j W 0).li.length=j.ph.length at E
      change (qY j W 0).nx.length=2 at G
      clear ba b6 C;unfold XW at ce;refine yJ (xW cg ce) ?_;refine dR [3000,1001,1002,2001,3,6] [129,3,6,7] (SU j true 0 W u.nx) (SU j true 1 (qY j W 0) u.nx) (SU j true 2 (qY j (qY j W 0) 1) u.nx) Z Z ?_ ?_ ?_
      .unfold SU;rw[show RA true W u.nx=XW W u.nx from Z];unfold XW;have O:=WM j R W a9 0;have az:=zJ iA W.nx 0 zB;have hv:=a4.v 0 zB;have bx:(W.nx.map iA).length=2:=by rw[zA6];exact bb
       cases hd:RB j W 0 with
       |false=>
        rw[hd]at O;rw[show qY j W 0=W by unfold qY;rw[Os QG]];clear hd;refine zS O ?_;rfl
       |true=>
       rw[hd]at O
       have A:qY j W 0=if W.nx.getD 0 default= -1 then W else uY j W (W.nx.getD 0 default).toNat:=by
        unfold qY;rw[hd]
        show(if true=true/\W.nx.getD 0 default≠ -1 then uY j W (W.nx.getD 0 default).toNat else W)=_
        by_cases h:W.nx.getD 0 default= -1
        .rw[zA5 h,Os (λk=>k.2 h)]
        .rw[Os h,zA5 ⟨rfl,h⟩]
       clear hd;by_cases B:W.nx.getD 0 default= -1
       .rw[zA5 B]at A;rw[A];clear A hv;generalize W.nx.getD 0 default=x at *;refine zS O ?_;rfl
       .rw[Os B]at A
        have au:Xh j (0:Nat) W.gr (W.nx.getD 0 default):=by
         rcases hv with h|h
         .exact absurd h B
         .exact h
        obtain⟨i1,i2,i3,i4⟩:=au;obtain⟨p,I⟩:∃p:Nat,W.nx.getD 0 default=p:=⟨(W.nx.getD 0 default).toNat,zB⟩;rw[I]at A az B i2 i4;rw[zBx]at A i4;have hp:p<j.ph.length:=by omega
        have cb:=NL j J R zB W a9 bb p hp (J.rg p hp) (.inr i4.symm);rw[A];clear A hv i1 i2 i3 i4 I;generalize uY j W p=b at *;unfold jC at cb;refine yJ (xW O cb) ?_;rfl
      .generalize qY j W 0=z at *;unfold SU;rw[show RA true z u.nx=XW z u.nx from Z];unfold XW;have O:=WM j R z E 1;have az:=zJ iA z.nx 1 zB;have hv:=M.v 1 zB;have bx:(z.nx.map iA).length=2:=by rw[zA6];exact G
       cases hd:RB j z 1 with
       |false=>
        rw[hd]at O;rw[show qY j z 1=z by unfold qY;rw[Os QG]];clear hd;refine zS O ?_;rfl
       |true=>
       rw[hd]at O
       have A:qY j z 1=if z.nx.getD 1 default= -1 then z else uY j z (z.nx.getD 1 default).toNat:=by
        unfold qY;rw[hd]
        show(if true=true/\z.nx.getD 1 default≠ -1 then uY j z (z.nx.getD 1 default).toNat else z)=_
        by_cases h:z.nx.getD 1 default= -1
        .rw[zA5 h,Os (λk=>k.2 h)]
        .rw[Os h,zA5 ⟨rfl,h⟩]
       clear hd;by_cases B:z.nx.getD 1 default= -1
       .rw[zA5 B]at A;rw[A];clear A hv;generalize z.nx.getD 1 default=x at *;refine zS O ?_;rfl
       .rw[Os B]at A
        have au:Xh j (1:Nat) z.gr (z.nx.getD 1 default):=by
         rcases hv with h|h
         .exact absurd h B
         .exact h
        obtain⟨i1,i2,i3,i4⟩:=au;obtain⟨p,I⟩:∃p:Nat,z.nx.getD 1 default=p:=⟨(z.nx.getD 1 default).toNat,zB⟩;rw[I]at A az B i2 i4;rw[zBx]at A i4;have hp:p<j.ph.length:=by omega
        have cb:=NL j J R zB z E G p hp (J.rg p hp) (.inr i4.symm);rw[A];clear A hv i1 i2 i3 i4 I;generalize uY j z p=b at *;unfold jC at cb;refine yJ (xW O cb) ?_;rfl
      .generalize qY j (qY j W 0) 1=c2 at *;unfold SU;refine WW ?_;exact zI [] Z Z (jV c2) Z
     | false=>
      have ba:tj j u=qY j (qY j u 0) 1:=by unfold tj;rw[Os (by rw[bu];decide)]
      rw[ba];clear cg bl ba cm ci b7;have a5:=C;have ag:=a7;have ap:=a6;obtain⟨M,bs⟩:=RC J C bd (r:=0) zB;have E:=M.n;have G:=M.m
      change CV j (qY j u 0)at M
      change (qY j u 0).li.length=j.ph.length at E
      change (qY j u 0).nx.length=2 at G
      clear bu;refine WW ?_;refine dR [3000,1001,1002,2001,3,6] [129,3,6,7] (SU j false 0 u u.nx) (SU j false 1 (qY j u 0) u.nx) (SU j false 2 (qY j (qY j u 0) 1) u.nx) Z (by unfold SU;rw[show RA false u u.nx=jC u 1002 from Z];unfold jC;rw[e1];rfl) ?_ ?_ ?_
      .unfold SU;rw[show RA false u u.nx=jC u 1002 from Z];unfold jC;have O:=WM j R u ag 0;have az:=zJ iA u.nx 0 zB;have hv:=a5.v 0 zB;have bx:(u.nx.map iA).length=2:=by rw[zA6];exact ap
       cases hd:RB j u 0 with
       |false=>
        rw[hd]at O;rw[show qY j u 0=u by unfold qY;rw[Os QG]];clear hd;refine zS O ?_;rfl
       |true=>
       rw[hd]at O
       have A:qY j u 0=if u.nx.getD 0 default= -1 then u else uY j u (u.nx.getD 0 default).toNat:=by
        unfold qY;rw[hd]
        show(if true=true/\u.nx.getD 0 default≠ -1 then uY j u (u.nx.getD 0 default).toNat else u)=_
        by_cases h:u.nx.getD 0 default= -1
        .rw[zA5 h,Os (λk=>k.2 h)]
        .rw[Os h,zA5 ⟨rfl,h⟩]
       clear hd;by_cases B:u.nx.getD 0 default= -1
       .rw[zA5 B]at A;rw[A];clear A hv;generalize u.nx.getD 0 default=x at *;refine zS O ?_;rfl
       .rw[Os B]at A
        have au:Xh j (0:Nat) u.gr (u.nx.getD 0 default):=by
         rcases hv with h|h
         .exact absurd h B
         .exact h
        obtain⟨i1,i2,i3,i4⟩:=au;obtain⟨p,I⟩:∃p:Nat,u.nx.getD 0 default=p:=⟨(u.nx.getD 0 default).toNat,zB⟩;rw[I]at A az B i2 i4;rw[zBx]at A i4;have hp:p<j.ph.length:=by omega
        have cb:=UJ j J R zB u ag ap p hp (J.rg p hp) (.inr i4.symm);rw[A];clear A hv i1 i2 i3 i4 I;generalize uY j u p=b at *;unfold jC at cb;refine yJ (xW O cb) ?_;rfl
      .generalize qY j u 0=z at *;unfold SU;rw[show RA false z u.nx=jC z 1002 from Z];unfold jC;have O:=WM j R z E 1;have az:=zJ iA z.nx 1 zB;have hv:=M.v 1 zB;have bx:(z.nx.map iA).length=2:=by rw[zA6];exact G
       cases hd:RB j z 1 with
       |false=>
        rw[hd]at O;rw[show qY j z 1=z by unfold qY;rw[Os QG]];clear hd;refine zS O ?_;rfl
       |true=>
       rw[hd]at O
       have A:qY j z 1=if z.nx.getD 1 default= -1 then z else uY j z (z.nx.getD 1 default).toNat:=by
        unfold qY;rw[hd]
        show(if true=true/\z.nx.getD 1 default≠ -1 then uY j z (z.nx.getD 1 default).toNat else z)=_
        by_cases h:z.nx.getD 1 default= -1
        .rw[zA5 h,Os (λk=>k.2 h)]
        .rw[Os h,zA5 ⟨rfl,h⟩]
       clear hd;by_cases B:z.nx.getD 1 default= -1
       .rw[zA5 B]at A;rw[A];clear A hv;generalize z.nx.getD 1 default=x at *;refine zS O ?_;rfl
       .rw[Os B]at A
        have au:Xh j (1:Nat) z.gr (z.nx.getD 1 default):=by
         rcases hv with h|h
         .exact absurd h B
         .exact h
        obtain⟨i1,i2,i3,i4⟩:=au;obtain⟨p,I⟩:∃p:Nat,z.nx.getD 1 default=p:=⟨(z.nx.getD 1 default).toNat,zB⟩;rw[I]at A az B i2 i4;rw[zBx]at A i4;have hp:p<j.ph.length:=by omega
        have cb:=UJ j J R zB z E G p hp (J.rg p hp) (.inr i4.symm);rw[A];clear A hv i1 i2 i3 i4 I;generalize uY j z p=b at *;unfold jC at cb;refine yJ (xW O cb) ?_;rfl
      .generalize qY j (qY j u 0) 1=c2 at *;unfold SU;refine WW ?_;exact zI [] Z Z (jV c2) Z
def mh (j:Jn) (G:ln j.ph<=1000) (g R M:Int) (L:List AV) (I:Nat):zO 214 [wK j,.ptr 3000 0 0,iA g] [(3000,.box [.ref 1001 0 I,iA R,.s (.slice none 0 0),iA M]),(1001,.arr 2 L false)] (.tup [])
  [(3000,.box [.ref 1001 0 I,iA g,.ref 2001 0 2,iA M]),(1001,.arr 2 L false),(2001,.arr 1 [iA (jJ j 0 g 0),iA (jJ j 1 g 0)] false)]:=by
 have C:=aJ j G 0 g (-1);have E:=aJ j G 1 g (-1);rw[show(-1:Int)+1=0 by omega]at C E;generalize jJ j 0 g 0=u,jJ j 1 g 0=z at *;obtain⟨B,A⟩:∃n:Nat,n=2:=⟨2,rfl⟩;refine eM call214 λF hF=>?_
 refine WW ?_;refine zQ 6 2001 1 Z Z Z ?_;refine zN (B) [2001,3,3000,1001] [3,3000,1001] [1,2,3] [6,8,1,2,3] Z (λi T U=>⟨(6,.ref 2001 0 (Lr u z i).length)::(8,iA i)::T,(2001,.arr 1 (Lr u z i) (i != 1))::U⟩) (Lq ?_ ?_)
 .intro i hi;have:i=0\/i=1:=by omega
  rcases this with rfl|rfl
  .have hl:(Lr u z 0).length=0:=rfl;refine zS C ?_;rfl
  .have hl:(Lr u z 1).length=1:=rfl;refine zS E ?_;rfl
 .have O:Lr u z B=[iA u,iA z]:=by rw[A];rfl
  have e3:(B != 1)=true:=by rw[A];rfl
  rw[O,e3]
  (repeat' (first|refine Tc ?_|apply yW|apply xH|intro hc|(apply zG;first|refine SM ?_)|fail))
  refine yC Z (xO ?_);refine kF 2001 [6] Z Z Z Z Z ?_;refine WW ?_;exact uX [3000,1001,2001] Z Z Z Z
def Zt (j:Jn) (C:ln j.ph<=1000):zO 158 [wK j] [] (JK (sh j)) []:=by
 have z:=zA xN j.ph;have u:=mh j C 0 0 j.st ((pb (ln j.ph) (⟨0,0⟩:Li)).map xG) ((pb (ln j.ph) (⟨0,0⟩:Li)).map xG).length;have A:(pb (ln j.ph) (⟨0,0⟩:Li)).map xG=pb (ln j.ph) (xG ⟨0,0⟩):=zEu;have eN:((pb (ln j.ph) (⟨0,0⟩:Li)).map xG).length=ln j.ph:=by simp
 rw[eN,A]at u;rw[<-z]at u;refine eM call158 λF hF=>?_
 repeat' (first|(apply zG;first|(apply Ak;refine qA (nw:=[3000]) (fP tok 3000 Z Z) Z Z Z ?_)|refine uN tok Z Z ?_|(apply fN;refine bG 1001 tok Z Z Z Z Z Z Z Z Z Z Z Z Z zB zB Z Z Z ?_)|refine YZ tok Z Z Z Z ?_|(apply xQ;(first|(refine vJ 214 ?_;first|refine wJ (zL (u) Z Z Z Z Z) Z ?_|refine qA (zL (u) Z Z Z Z Z) Z Z Z ?_|refine aO (zL (u) Z Z Z Z Z) Z Z Z ?_)))|(apply cE;refine cV tok Z Z Z ?_)|refine VH gY ?_|apply kR)|first|refine SQ ?_|fail)
 have B:AV.agg [.sl false ((pb (j.ph.map xN).length (xG ⟨0,0⟩)).take (j.ph.map xN).length),iA 0,.sl false [iA (jJ j 0 0 0),iA (jJ j 1 0 0)],iA j.st]=JK (sh j):=by
  rw[zBf zV,z,<-A];rfl
 exact zI [] Z Z B Z
structure Sg where
 c:Ct
 lat:Bool
def vG (s:Sg):AV:= .agg [zE xG s.c.li,iA s.c.gr,zE iA s.c.nx,iA s.c.wt,bA s.lat]
def fM (j:Jn):Sg:=⟨sh j,false⟩
def Pe (j:Jn) (s:Sg) (t k:Int):Sg:=if s.lat=true then s else⟨GF j s.c t,ml j.cf (bP (GF j s.c t).li k)⟩
def Mr (j:Jn) (s:Sg):Sg:=if s.lat=true then fM j else s
def CE {α:Type} (f:α->AV) (l:List α):AV.sl false ((l.map f).take (l.map f).length)=zE f l:=by rw[zA8];rfl
def JG (l:List Int) (hl:ln l<=1073741824):zO 111 [zE iA l] [] (zE iA l) []:=by
 have u:=zA iA l;refine eM call111 λF hF=>?_
 refine xI 0 Z (λcap z=>?_) ?_
 .have:l=[]:=by simpa using z
  subst this;exact ly
 ·(refine WW ?_)
  refine zI [] Z Z (CE _ _) Z
def JH (l:List Li) (hl:ln l<=1073741824):zO 172 [zE xG l] [] (zE xG l) []:=by
 have u:=zA xG l;refine eM call172 λF hF=>?_
 refine xI 0 Z (λcap z=>?_) ?_
 .have:l=[]:=by simpa using z
  subst this;exact ly
 ·(refine WW ?_)
  refine zI [] Z Z (CE _ _) Z
def CF (s:Sg) (h1:ln s.c.li<=1073741824) (h2:ln s.c.nx<=1073741824):zO 116 [vG s] [] (vG s) []:=by
 have u:=JH s.c.li h1;have z:=JG s.c.nx h2;refine eM call116 λF hF=>?_
 exact mx (xW u z)
def Ik (c:Ct) (h1:ln c.li<=1000) (h2:ln c.nx<=1000):zO 188 [JK c] [] (JK c) []:=by
 have hl:=zA xG c.li;have u:=zA iA c.nx;refine eM call188 λF hF=>?_
 exact nl
def PP (s:Sg) (h1:ln s.c.li<=1000) (h2:ln s.c.nx<=1000):zO 126 [vG s] [] (vG s) []:=by
 have u:=Ik s.c h1 h2;refine eM call126 λF hF=>?_
 exact ng u
def Y0 (j:Jn) (J:JV j):zO 81 [wK j] [] (vG (fM j)) []:=by
 have u:=Q0 j BS;unfold fM;generalize sh j=c at *;refine eM call81 λF hF=>?_
 exact ng u
def Oe (j:Jn) (J:JV j):zO 86 [wK j] [] (vG (fM j)) []:=by
 have u:=Zt j BS;unfold fM;generalize sh j=c at *;refine eM call86 λF hF=>?_
 exact ng u
def Yt (j:Jn) (J:JV j) (s:Sg) (C:CV j s.c) (t k:Int):zO 180 [wK j,vG s,iA t,iA k] [] (vG (Pe j s t k)) []:=by
 have I:=J.n;have hc:=J.c;have M:=C.n;have L:=C.m;have A:=CF s zB zB;have B:=Z1 j J s.c C t;have z:=Ml J C t;have E:=M0 (GF j s.c t).li (by have:=z.n;omega) k;have G:=L0 j.cf (bP (GF j s.c t).li k) zB (by rw[CI];have:=z.n;omega);unfold Pe;generalize ml j.cf (bP (GF j s.c t).li k)=f at *;generalize bP (GF j s.c t).li k=O at *;generalize GF j s.c t=c at *;obtain⟨R,u⟩:=s
 cases u with
 |true=>
  rw[zA5 Z];refine eM call180 λF hF=>?_
  exact ng A
 |false=>
  rw[Os zBm];refine eM call180 λF hF=>?_
  exact mx (qM B E G)
def Hk (j:Jn) (J:JV j) (s:Sg) (C:CV j s.c) (t k:Int):zO 135 [wK j,vG s,iA t,iA k] [] (vG (Pe j s t k)) []:=by
 have I:=J.n;have hc:=J.c;have M:=C.n;have L:=C.m;have A:=PP s zB zB;have B:=Jk j J s.c C t;have z:=Ml J C t;have E:=Vt (GF j s.c t).li (by have:=z.n;omega) k;have G:=Ut j.cf (bP (GF j s.c t).li k) zB (by rw[CI];have:=z.n;omega);unfold Pe;generalize ml j.cf (bP (GF j s.c t).li k)=f at *;generalize bP (GF j s.c t).li k=O at *;generalize GF j s.c t=c at *;obtain⟨R,u⟩:=s
 cases u with
 |true=>
  rw[zA5 Z];refine eM call135 λF hF=>?_
  exact ng A
 |false=>
  rw[Os zBm];refine eM call135 λF hF=>?_
  exact mx (qM B E G)
def Gk (j:Jn) (J:JV j) (s:Sg) (h1:ln s.c.li<=1073741824) (h2:ln s.c.nx<=1073741824):zO 47 [wK j,vG s] [] (.tup [vG (Mr j s),bA s.lat]) []:=by
 have A:=CF s h1 h2;have B:=Y0 j J;unfold Mr;generalize fM j=z at *;obtain⟨C,u⟩:=s
 cases u with
 |true=>
  rw[zA5 Z];refine eM call47 λF hF=>?_
  exact ng B
 |false=>
  rw[Os zBm];refine eM call47 λF hF=>?_
  exact ng A
def rh (j:Jn) (J:JV j) (s:Sg) (h1:ln s.c.li<=1000) (h2:ln s.c.nx<=1000):zO 57 [wK j,vG s] [] (.tup [vG (Mr j s),bA s.lat]) []:=by
 have A:=PP s h1 h2;have B:=Oe j J;unfold Mr;generalize fM j=z at *;obtain⟨C,u⟩:=s
 cases u with
 |true=>
  rw[zA5 Z];refine eM call57 λF hF=>?_
  exact ng B
 |false=>
  rw[Os zBm];refine eM call57 λF hF=>?_
  exact ng A
def ph0:Ph:=⟨0,0,2,3,1,1,0,0⟩
def j0:Jn:=⟨[ph0,ph0],[2,1],0⟩
def two {p:Nat} (h:p<ln j0.ph):p=0\/p=1:=by
 have:ln j0.ph=2:=rfl;omega
theorem W0 {j:Jn} (J:JV j) {s:Sg} (C:CV j s.c) (t k:Int):CV j (Pe j s t k).c:=by grind [Pe,Ml]
def zAe {j:Jn} (J:JV j) {s:Sg} (C:CV j s.c):CV j (Mr j s).c:=by
 unfold Mr;split
 .exact Ck J
 .exact C
def ph1:Ph:=⟨0,0,2,3,1,0,0,0⟩
def j1:Jn:=⟨[ph1,ph1],[2,1],0⟩
def WG {p q:Prop} (k:q) (h:aF q->p:=by(intro u;(repeat' (first|refine aK ?_|refine yW (λhc=>?_) λhc=>?_|fail));exact u.h)):p:=h ⟨k⟩
def WO {p q:Prop} (k:q) (h:aF q->p:=by(intro u;(repeat' (first|refine aK ?_|refine yW (λhc=>?_) λhc=>?_|fail));exact u.h)):p:=h ⟨k⟩
def ny{p:Prop}(h:p:=by(refine WO ?_;exact zH)):p:=h
def e1 (d:Dk) (f3:Int):Int:=[-1,0,max (-1) (f3-nx d 6)].getD (nx (ad d) 3).toNat 0
def d0 (xs:List Int) (hl:ln xs<=9223372036854775807):Dk:=⟨xs,0,zBn _,hl⟩
def cP (z:List Int) (u:Int):Int:=if u<0\/(ln z:Int)<=u then -1 else z.getD u.toNat 0
def cL (k:Int):Bool:=k==2||k==3
def jU (u:List Int) (z A:Int):Int:=max A (cP u z)
def PQ (s:Sv) (c:Cl):zO 313 [wW s,qZ c] [] (iA (cP s.en c.ph)) []:=by
 have hl:(s.en.map iA).length=ln s.en:=by simp
 by_cases h1:c.ph<0
 .rw[show cP s.en c.ph= -1 by simp[cP,h1]];refine eM call313 λF hF=>?_
  exact ny
 .by_cases h2:(ln s.en:Int)<=c.ph
  .rw[show cP s.en c.ph= -1 by simp[cP,h2]];refine eM call313 λF hF=>?_
   exact ny
  .rw[show cP s.en c.ph=s.en.getD c.ph.toNat 0 by unfold cP;rw[Os zB]];have u:=yF iA s.en c.ph zB zB;refine eM call313 λF hF=>?_
   exact ny
def jE (c:Cl):zO 277 [qZ c] [] (bA (cL c.k)) []:=by
 unfold cL;by_cases h:c.k=2
 .rw[show(c.k==2||c.k==3)=true by simp[h]];refine eM call277 λF hF=>?_
  exact ny
 .rw[show(c.k==2||c.k==3)=(c.k==3) by simp[h]];refine eM call277 λF hF=>?_
  exact ny
def UH (s:Sv) (c:Cl):zO 315 [wW s,qZ c] [] (iA (jU s.en c.ph c.si)) []:=by
 refine eM call315 λF hF=>?_
 (repeat' (first|refine aK ?_|refine yW (λhc=>?_) λhc=>?_|(apply zG;apply xQ;refine wJ (zL (PQ ⟨_,_,_⟩ ⟨_,_,_,_,_⟩) Z Z Z Z Z) Z ?_)|fail))
 exact zH
def Ab (n d:Int) (hd:1<=d) (u:n.tmod d=0):n.tdiv d=n/d:=by grind [Int.tmod_add_mul_tdiv,Int.ediv_eq_of_eq_mul_right]
def GC (n d:Int) (G:n<0) (hd:1<=d) (E:n.tmod d≠0):n.tdiv d-1=n/d:=by
 have h1:=Int.tmod_add_mul_tdiv n d;have u:n.tmod d= -((-n).tmod d):=by rw[Int.neg_tmod];omega
 have A: -d<n.tmod d:=by
  have:=zGb (-n) (show 0<d by omega);omega
 have B:n.tmod d<=0:=by
  have:=zGr d (show 0<= -n by omega);omega
 clear u;have z:n=d*(n.tdiv d-1)+(n.tmod d+d):=by rw[Int.mul_sub];omega
 generalize n.tdiv d=q,n.tmod d=r at *
 have C:n/d=q-1:=by
  rw[z,Int.mul_add_ediv_left _ _ zB,Int.ediv_eq_zero_of_lt zB zB];omega
 omega
def Me (n d:Int) (hd:1<=d) (h1: -4611686018427387904<=n) (h2:n<=4611686018427387904): -4611686018427387904<=n.tdiv d/\n.tdiv d<=4611686018427387904:=by
 by_cases h:0<=n
 .have:=IntWalk.tdiv_le n d h hd
  grind
 .have u:n.tdiv d= -((-n).tdiv d):=by rw[Int.neg_tdiv];omega
  have:=IntWalk.tdiv_le (-n) d zB hd
  grind
def WN (n d:Int) (hd:1<=d) (h1: -4611686018427387904<=n) (h2:n<=4611686018427387904):zO 358 [iA n,iA d] [] (iA (n/d)) []:=by
 have hb:=Me n d hd h1 h2;have A:aG .i64 (n.tdiv d):=⟨zB,zB⟩;by_cases u:n.tmod d=0
 .rw[<-Ab n d hd u];refine eM call358 λF hF=>?_
  exact ny
 .by_cases z:n<0
  .rw[<-GC n d z hd u];refine eM call358 λF hF=>?_
   exact ny
  .rw[<-zC9 (show 0<=n by omega)];refine eM call358 λF hF=>?_
   exact ny
def UI (u cap:Int) (z:List Int) (f3 A k B:Int):Int:=min cap (k+(f3-jU z A B)/u)
structure lj (per f3:Int) (es:List Int) (c:Cl):Prop where
 p:1<=per
 k0: -1000<=c.k
 k1:c.k<=1000
 n0: -1099511627776<=f3
 n1:f3<=1099511627776
 s0: -1099511627776<=jU es c.ph c.si
 s1:jU es c.ph c.si<=1099511627776
 e0: -1099511627776<=cP es c.ph
 e1:cP es c.ph<=1099511627776
def V0 (n d:Int) (hd:1<=d) (h1: -4611686018427387904<=n) (h2:n<=4611686018427387904): -4611686018427387904<=n/d/\n/d<=4611686018427387904:=by
 constructor
 .refine(Int.le_ediv_iff_mul_le zB).2 ?_
  grind
 .have:n/d<=4611686018427387904/1:=by
   rw[Int.ediv_one];refine Int.le_of_lt_add_one ((Int.ediv_lt_iff_lt_mul zB).2 ?_)
   grind
  omega
def Le (g:Cf) (s:Sv) (c:Cl) (f3:Int) (u:lj g.per f3 s.en c):zO 314 [wD g,wW s,qZ c,iA f3] [] (iA (UI g.per g.cap s.en f3 c.ph c.k c.si)) []:=by
 obtain⟨p,A,B,C,E,G,I,_,_⟩:=u;have z:=V0 (f3-jU s.en c.ph c.si) g.per p zB zB;refine eM call314 λF hF=>?_
 (repeat' (first|refine aK ?_|refine yW (λhc=>?_) λhc=>?_|(apply zG;apply xQ;(first|(refine vJ 315 ?_;first|refine wJ (zL (UH s c) Z Z Z Z Z) Z ?_|refine qA (zL (UH s c) Z Z Z Z Z) Z Z Z ?_|refine aO (zL (UH s c) Z Z Z Z Z) Z Z Z ?_)|(refine vJ 358 ?_;first|refine wJ (zL (WN _ _ zB zB zB) Z Z Z Z Z) Z ?_|refine qA (zL (WN _ _ zB zB zB) Z Z Z Z Z) Z Z Z ?_|refine aO (zL (WN _ _ zB zB zB) Z Z Z Z Z) Z Z Z ?_)))|fail))
 exact zH
def CG (u:Int) (z:List Int) (f3 A k:Int):Bool:=!cL k&&(cP z A != -1&&decide (f3-cP z A<=u))
def Fk (g:Cf) (s:Sv) (c:Cl) (f3:Int) (u:lj g.per f3 s.en c):zO 279 [wD g,wW s,qZ c,iA f3] [] (bA (CG g.lock s.en f3 c.ph c.k)) []:=by
 obtain⟨p,A,B,C,E,G,I,z,e1⟩:=u;unfold CG;refine eM call279 λF hF=>?_
 (repeat' (first|refine aK ?_|refine yW (λhc=>?_) λhc=>?_|(apply zG;apply xQ;(first|(refine vJ 313 ?_;first|refine wJ (zL (PQ _ _) Z Z Z Z Z) Z ?_|refine qA (zL (PQ _ _) Z Z Z Z Z) Z Z Z ?_|refine aO (zL (PQ _ _) Z Z Z Z Z) Z Z Z ?_)|(refine vJ 277 ?_;first|refine wJ (zL (jE _) Z Z Z Z Z) Z ?_|refine qA (zL (jE _) Z Z Z Z Z) Z Z Z ?_|refine aO (zL (jE _) Z Z Z Z Z) Z Z Z ?_)))|fail))
 all_goals refine zI [] Z Z (zBq bA ?_) Z
 all_goals simp_all [uS]
def SW (u cap:Int) (z:List Int) (f3:Int) (x:Cl):Int:=if cL x.k then x.k else UI u cap z f3 x.ph x.k x.si
def gS (u cap:Int) (z:List Int) (f3:Int) (x y:Cl):Bool:=
 if cL x.k≠cL y.k then cL x.k
 else if SW u cap z f3 x≠SW u cap z f3 y then decide (SW u cap z f3 y<SW u cap z f3 x)
 else if jU z x.ph x.si≠jU z y.ph y.si then decide (jU z x.ph x.si<jU z y.ph y.si)
 else if x.ag≠y.ag then decide (x.ag<y.ag)else decide (x.id<y.id)
theorem U0 (g:Cf) (s:Sv) (x y:Cl) (f3:Int) (M:lj g.per f3 s.en x) (O:lj g.per f3 s.en y):zO 280 [wD g,wW s,iA f3,qZ x,qZ y] [] (bA (gS g.per g.cap s.en f3 x y)) []:=by
 have u:=jE x;have z:=jE y;have C:=Le g s x f3 M;have E:=Le g s y f3 O;have G:=UH s x;have I:=UH s y
 cases A:cL x.k<;>cases B:cL y.k<;>rw[A]at u<;>rw[B]at z
 .by_cases h1:UI g.per g.cap s.en f3 x.ph x.k x.si=UI g.per g.cap s.en f3 y.ph y.k y.si
  .by_cases h2:jU s.en x.ph x.si=jU s.en y.ph y.si
   .by_cases L:x.ag=y.ag
    all_goals
     (refine eM call280 λF hF=>?_)
     (have ga:=u;have ge:=z;have gn:=C;have gt:=E;have gv:=G;have kj:=I;refine WG ?_;clear ga ge gn gt gv kj)
     refine zI [] Z Z (zBq bA ?_) Z;simp[gS,SW,A,B,h1,h2,L,uS]
   ·(refine eM call280 λF hF=>?_)
    (have ga:=u;have ge:=z;have gn:=C;have gt:=E;have gv:=G;have kj:=I;refine WG ?_;clear ga ge gn gt gv kj)
    refine zI [] Z Z (zBq bA ?_) Z;simp[gS,SW,A,B,h1,h2,uS]
  ·(refine eM call280 λF hF=>?_)
   (have ga:=u;have ge:=z;have gn:=C;have gt:=E;have gv:=G;have kj:=I;refine WG ?_;clear ga ge gn gt gv kj)
   refine zI [] Z Z (zBq bA ?_) Z;simp[gS,SW,A,B,h1,uS]
 ·(refine eM call280 λF hF=>?_)
  (have ga:=u;have ge:=z;have gn:=C;have gt:=E;have gv:=G;have kj:=I;refine WG ?_;clear ga ge gn gt gv kj)
  refine zI [] Z Z (zBq bA ?_) Z;simp[gS,A,B]
 ·(refine eM call280 λF hF=>?_)
  (have ga:=u;have ge:=z;have gn:=C;have gt:=E;have gv:=G;have kj:=I;refine WG ?_;clear ga ge gn gt gv kj)
  refine zI [] Z Z (zBq bA ?_) Z;simp[gS,A,B]
 .by_cases h1:x.k=y.k
  .by_cases h2:jU s.en x.ph x.si=jU s.en y.ph y.si
   .by_cases L:x.ag=y.ag
    all_goals
     (refine eM call280 λF hF=>?_)
     (have ga:=u;have ge:=z;have gn:=C;have gt:=E;have gv:=G;have kj:=I;refine WG ?_;clear ga ge gn gt gv kj)
     refine zI [] Z Z (zBq bA ?_) Z;simp[gS,SW,A,B,h1,h2,L,uS]
   ·(refine eM call280 λF hF=>?_)
    (have ga:=u;have ge:=z;have gn:=C;have gt:=E;have gv:=G;have kj:=I;refine WG ?_;clear ga ge gn gt gv kj)
    refine zI [] Z Z (zBq bA ?_) Z;simp[gS,SW,A,B,h1,h2,uS]
  ·(refine eM call280 λF hF=>?_)
   (have ga:=u;have ge:=z;have gn:=C;have gt:=E;have gv:=G;have kj:=I;refine WG ?_;clear ga ge gn gt gv kj)
   refine zI [] Z Z (zBq bA ?_) Z;simp[gS,SW,A,B,h1,uS]
def qL (g:Cf) (s:Sv) (f3:Int) (xs:List Cl):Nat->Int
 |0=> -1
 |i+1=>if CG g.lock s.en f3 (xs.getD i dd).ph (xs.getD i dd).k then qL g s f3 xs i
  else if qL g s f3 xs i<0 then i
  else if gS g.per g.cap s.en f3 (xs.getD i dd) (xs.getD (qL g s f3 xs i).toNat dd)then i else qL g s f3 xs i
theorem bO (g:Cf) (s:Sv) (f3:Int) (xs:List Cl):∀i,-1<=qL g s f3 xs i/\qL g s f3 xs i<i\/qL g s f3 xs i= -1
 |0=> .inr Z
 | i+1=>by
  have:=bO g s f3 xs i;unfold qL;split
  .omega
  .split
   .omega
   .split<;>omega
def NK (g:Cf) (s:Sv) (f3:Int) (xs:List Cl) (i:Nat):qL g s f3 xs (i+1)=if CG g.lock s.en f3 (xs.getD i dd).ph (xs.getD i dd).k=true then qL g s f3 xs i
 else if qL g s f3 xs i<0 then(i:Int)
 else if gS g.per g.cap s.en f3 (xs.getD i dd) (xs.getD (qL g s f3 xs i).toNat dd)=true then(i:Int)else qL g s f3 xs i:=rfl
def S0 (g:Cf) (s:Sv) (f3:Int) (xs:List Cl) (G:ln xs<=1099511627776) (I:∀i,i<ln xs->lj g.per f3 s.en (xs.getD i dd)):zO 228 [wD g,wW s,iA f3,zE qZ xs] [] (iA (qL g s f3 xs (ln xs))) []:=by
 have hl:(xs.map qZ).length=ln xs:=by simp
 refine eM call228 λF hF=>?_
 refine WO ?_
 refine wS (λn st=>∃i:Nat,n+i=ln xs/\st=⟨[(2,iA f3),(3,zE qZ xs),(4,.ptr 4 0 0),(5,.ptr 5 0 0),(9,iA (qL g s f3 xs i)),(12,zE qZ xs),(13,iA (ln xs)),(14,iA i)],[(4,.box [zE wK g.js,zE vP g.ags,iA g.per,iA g.cap,iA g.hold,iA g.lock]),(5,.box [iA s.ph,iA s.gr,zE iA s.en])]⟩)
  (ln xs) [4,5] [2,3,4,5,9,12,13,14] Z ⟨0,rfl,by rw[<-hl];rfl⟩ ?_
 rintro n st ⟨i,hi,rfl⟩;by_cases B:i<ln xs
 .have M:=yF qZ xs i zB zB;have A:=I i B;have hb:=bO g s f3 xs i;have u:=NK g s f3 xs i;have z:=Fk g s (xs.getD i dd) f3 A;rw[show((i:Int)).toNat=i from Z]at M
  cases hL:CG g.lock s.en f3 (xs.getD i dd).ph (xs.getD i dd).k<;>rw[hL]at z u
  .rw[Os zV]at u;by_cases E:qL g s f3 xs i<0
   .rw[zA5 E]at u
    (have ga:=z;refine WG ?_;clear ga)
    exact⟨n-1,zB,i+1,zB,by rw[u];rfl⟩
   .rw[Os E]at u;have O:=yF qZ xs (qL g s f3 xs i) zB zB;have C:=U0 g s (xs.getD i dd) (xs.getD (qL g s f3 xs i).toNat dd) f3 A (I _ zB)
    cases L:gS g.per g.cap s.en f3 (xs.getD i dd) (xs.getD (qL g s f3 xs i).toNat dd)<;>rw[L]at C u
    .rw[Os zV]at u
     (have ga:=z;have ge:=C;refine WG ?_;clear ga ge)
     exact⟨n-1,zB,i+1,zB,by rw[u];rfl⟩
    .rw[zA5 Z]at u
     (have ga:=z;have ge:=C;refine WG ?_;clear ga ge)
     exact⟨n-1,zB,i+1,zB,by rw[u];rfl⟩
  .rw[zA5 Z]at u
   (have ga:=z;refine WG ?_;clear ga)
   exact⟨n-1,zB,i+1,zB,by rw[u];rfl⟩
 .obtain rfl:i=ln xs:=by omega
  exact ny
