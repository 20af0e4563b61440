/- Part 24. -/
import Derived.Test.YtaglbcjljlkjcaaGreatU23
namespace Go.Proofs.YtaglbcjljlkjcaaGreat.Av
open Tryz
set_option linter.all false
set_option maxRecDepth 4000
set_option maxHeartbeats 1000000
open List renaming length->ln,replicate->pi,getD->py
open Inhabited renaming default->dd
def cA (j:Jn) (u:ln j.ph<=1000) (c:Ct) (hc:ln c.li=ln j.ph) (r:Int):zN 252 [wD j,yu c,iA r] [] (bA (VH j c r)) []:=by rw[jA];exact U0 j u c hc r
def wc (j:Jn) (A:ln j.ph<=1000) (u:ln j.cf<=40) (c:Ct) (z:ln c.nx=2) (r:Int) (B:0<=r/\r<2) (t:Nat) (C:t<ln j.ph) (E:c.nx.getD r.toNat dd= -1\/0<=c.nx.getD r.toNat dd):zN 251 [wD j,yu c,iA r,iA (t:Int)] [] (iA (aW j c r t)) []:=by rw[jA];exact S0 j A u c z r B t C E
def Hz (c:Ct) (u:ln c.li<=25):zN 254 [yu c] [] (iA (LT c)) []:=by rw[jA];exact W0 c u
theorem Kx (p:Nat->Bool):∀n,n<=25->(kO p n=0↔∀i,i<n->p i=false)
 |0,_=>⟨λ_ i h=>absurd h (zCp _),λ_=>rfl⟩
 | n+1,h=>by
  have z:=Kx p n zB;have hb:=ZY p n zB;have A:=AO n zB;unfold kO
  cases u:p n with
  |true=>
   rw[zAs Z];refine⟨λh=>by omega,λh=>?_⟩;have:=h n zB;rw[u]at this;cases this
  |false=>
   rw[Os yY,z];refine⟨λh i hi=>?_,λh i hi=>h i zB⟩;by_cases e:i=n
   .rw[e];exact u
   .exact h i zB
def Gz (c:Ct) (u:ln c.li<=25):Ca c=decide (LT c=0):=by
 rw[zFb,zAz];unfold LT Ca;rw[Kx _ _ u,zA7];constructor
 .intro h i hi;have:=h (xR c i) (by simp[xR,py,hi])
  grind [Ca,LT,RD]
 all_goals grind [Ca,LT,List.getElem_of_mem,RD,xR,py]
def zC:xW:= .box [.s (.slice none 0 0),iA 0,.s (.slice none 0 0),iA 0]
def vc (j:Jn) (t:Nat) (e:Bool) (i:Int) (c:Ct) (o:List Int):St:=⟨[(83,iA i),(2,iA t),(3,.ptr 3 0 0),(6,.ptr 6 0 0),(7,.ptr 3000 0 0)],WI e c o++[(3,.box [zE xN j.ph,zE iA j.cf,iA j.st]),(6,zC)]⟩
def eU (j:Jn) (e:Bool) (i:Int) (c:Ct) (o:List Int):St:=⟨[(129,iA i),(3,.ptr 3 0 0),(6,.ptr 6 0 0),(7,.ptr 3000 0 0)],WI e c o++[(3,.box [zE xN j.ph,zE iA j.cf,iA j.st]),(6,zC)]⟩
theorem Kl (j:Jn) (J:JV j) (c:Ct) (C:CV j c) (t:Int):zN 197 [wD j,JU c,iA t] [] (JU (GL j c t)) []:=by
 have hn:=J.n;have S:j.ph.length<=1000:=by omega
 have c4:=J.c;have b9:=C.n;have cn:=C.m;have co:=C.w;have c8:=J.st;have c7:=zA xN j.ph;have cr:(c.li.map xE).length=j.ph.length:=by rw[zAt];exact b9
 have c6:(c.nx.map iA).length=2:=by rw[zAt];exact cn
 have k3:=Rh c zB zB;unfold GL;by_cases hw:0<c.wt
 .rw[zAs hw];refine eM call197 λF hF=>?_
  repeat' (first|(apply zG;first|(apply GJ;refine uT (nw:=[3000]) (fK tok 3000 Z Z) Z Z Z ?_)|refine uM tok Z Z ?_|(apply xP;(first|(refine vH 188 ?_;first|refine wM (zL (k3) Z Z Z Z Z) Z ?_|refine uT (zL (k3) Z Z Z Z Z) Z Z Z ?_|refine aI (zL (k3) Z Z Z Z Z) Z Z Z ?_)))|refine YT tok Z Z Z Z ?_|(apply dX;refine cQ tok Z Z Z ?_)|refine WU NI ?_|apply kQ)|first|refine SQ ?_|fail)
  refine WW ?_;exact zI [] Z Z (jA ⟨c.li,c.gr,c.nx,c.wt-1⟩) Z
 rw[Os hw];have h0:c.wt=0:=by omega
 have CL:=Zm J C h0 t;have b5:=BH b9 t;have b6:=Ae j c t;rw[cr]at k3;have hN:∀i,((MC j c t i).map xE).length=j.ph.length:=λi=>by rw[zAt];exact PU j c t i
 refine eM call197 λF hF=>?_
 repeat' (first|(apply zG;first|(apply GJ;refine uT (nw:=[3000]) (fK tok 3000 Z Z) Z Z Z ?_)|refine uM tok Z Z ?_|(apply xP;(first|(refine vH 188 ?_;first|refine wM (zL (k3) Z Z Z Z Z) Z ?_|refine uT (zL (k3) Z Z Z Z Z) Z Z Z ?_|refine aI (zL (k3) Z Z Z Z Z) Z Z Z ?_)))|refine YT tok Z Z Z Z ?_|(apply dX;refine cQ tok Z Z Z ?_)|refine WU NI ?_|apply kQ)|first|refine SQ ?_|fail)
 (repeat' (first|refine ub ?_|apply yW|apply xH|intro hc|(apply zG;first|refine SM ?_)|fail))
 refine yD Z (xJ ?_);apply xX;refine gB [3000,1001,1002,3,4,6] [2,3,4,6,7,8] ⟨[(2,iA t),(3,.ptr 3 0 0),(4,.ptr 4 0 0),(6,.ptr 6 0 0),(7,.ptr 3000 0 0),(8,bA (ZS j t))],[(3000,.box [.ref 1001 0 j.ph.length,iA c.gr,.ref 1002 0 (c.nx.map iA).length,iA c.wt]),(1001,.arr 2 (c.li.map xE) false),(1002,.arr 1 (c.nx.map iA) false),(3,.box [zE xN j.ph,zE iA j.cf,iA j.st]),(4,.box [zE xE c.li,iA c.gr,zE iA c.nx,iA c.wt]),(6,zC)]⟩ rfl ?_ ?_
 .clear k3 CL;by_cases a1:0<=t
  .by_cases a2:t<j.ph.length
   .rw[show ZS j t=true from zAw ⟨a1,a2⟩];refine WW ?_;exact⟨rfl,rfl⟩
   .rw[show ZS j t=false from zAu (λh=>a2 h.2)];refine WW ?_;exact⟨rfl,rfl⟩
  .rw[show ZS j t=false from zAu (λh=>a1 h.1)];refine WW ?_;exact⟨rfl,rfl⟩
 clear k3;refine WW ?_;refine zO (j.ph.length) [1001,3,6,3000,1002] [3,6,3000,1002] [2,3,6,7,8,38,39] [40,2,3,6,7,8,38,39] Z (λi T U=>⟨(40,iA i)::T,(1001,.arr 2 ((MC j c t i).map xE) false)::U⟩) ?_;(conv=>whnf);refine⟨by(rw[b5];rfl),?_,?_⟩
 .intro i hi;have hy:=zJ xN j.ph i hi
  change (j.ph.map xN)[i]? =some (xN (yG j i))at hy
  have cx:=zJ xE c.li i zB
  change (c.li.map xE)[i]? =some (xE (xR c i))at cx
  have cm:∃l,((MC j c t i).map xE)[i]? =some (xE l):=⟨_,zJ xE (MC j c t i) i (by rw[PU];exact hi)⟩;obtain⟨lm,cm⟩:=cm;have da:=J.ti i hi;have db:=pm (C.k i hi) zB zB;have cv:Ex (yG j i):=⟨zB,zB,zB,zB⟩;have c3:=hN i;have ls:=λlv=>Bt (yG j i) cv zB ⟨zB,zB⟩ (xR c i) (C.k i hi) lv
  have ck:=kK j.cf zB i t;have es:=BI j c t i;have em:(MC j c t (i+1)).map xE=((MC j c t i).map xE).set i (xE (BJ (yG j i) (xR c i) (GK j c t i))):=by rw[es,zCe]
  rw[em];have ac:GK j c t i=_:=rfl
  conv at ac=>rhs;unfold GK
  have bl:=ls (GK j c t i);clear ls es em CL hN b5 b6;generalize BJ (yG j i) (xR c i) (GK j c t i)=ln,(MC j c t i).map xE=xs at *;generalize GK j c t i=lv at *;generalize kC j.cf i t=cq at*
  cases ha:ZS j t with
  |false=>
   rw[ha]at ac;rw[Os yY]at ac;generalize yG j i=ph,xR c i=l at *;by_cases hm:ph.maxg<=l.tk+1
   .rw[zAw hm]at ac;subst ac;refine zS bl ?_;rfl
   .rw[zAu hm]at ac;subst ac;refine zS bl ?_;rfl
  | true=>
   rw[ha]at ac;rw[zAs Z]at ac;generalize yG j i=ph,xR c i=l at *;by_cases ci:(i:Int)=t
   .rw[zAu (λh=>h ci)]at ac;rw[zBt]at ac;subst ac;by_cases hm:ph.maxg<=l.tk+1
    all_goals
     (refine zS bl ?_)
     rfl
   rw[zAw ci,zA3]at ac;by_cases hm:ph.maxg<=l.tk+1
   .rw[zAw hm,zDf]at ac;subst ac;refine zS bl ?_;rfl
   .rw[zAu hm,zC7]at ac;rw[ac]at bl;clear ac
    cases cq with
    |true=>
     refine yF (xQ ck bl) ?_;rfl
    |false=>
     refine yF (xQ ck bl) ?_;rfl
 .rw [b6];have e1:((UV j c t).map xE).length=j.ph.length:=by simp[UV]
  have eH:∀x:List Li,x=UV j c t->(x.map xE).length=j.ph.length:=λx h=>by rw[h];exact e1
  clear b6 b5 hN;have a8:=CL.n;have a7:=CL.m
  cases ha:ZS j t with
  | true=>
   rw[zAs Z];unfold ZS at ha;rw[zAz]at ha;obtain⟨tn,rfl⟩:∃tn:Nat,t=tn:=⟨t.toNat,zB⟩;rw[zBh];generalize dc:tn=t at *;have ht:t<j.ph.length:=by omega
   obtain⟨u,ag⟩:∃u:Ct,u=⟨UV j c t,c.gr,c.nx,c.wt⟩:=⟨_,rfl⟩;rw[<-ag]at CL a8 a7;rw[show UV j c t=u.li by rw[ag]]at e1;rw[show UV j c t=u.li by rw[ag],show c.gr=u.gr by rw[ag],show c.nx=u.nx by rw[ag],show c.wt=u.wt by rw[ag]];rw[show(⟨u.li,u.gr,u.nx,u.wt⟩:Ct)=u from Z];have bs:u.wt=0:=by rw[ag];exact h0
   clear ag eH;have W:u.li.length=j.ph.length:=a8;have Y:u.nx.length=2:=a7;have a6:=CL;obtain⟨I,bu⟩:=sm J a6 bs ht 0;have E:=I.n;have G:=I.m;have b1:=dm J (c:=u) (r:=0) ht;have ap:u.gr=u.gr:=rfl;refine WW ?_;refine gZ [3000,1001,1002,2001,3,6] [83,2,3,6,7] (vc j t false 0 u u.nx) (vc j t (decide ((jC j t u 0).gr≠u.gr)) 1 (jC j t u 0) u.nx) (vc j t (decide ((jC j t (jC j t u 0) 1).gr≠u.gr)) 2 (jC j t (jC j t u 0) 1) (if(jC j t u 0).gr=u.gr then(jC j t u 0).nx else u.nx)) Z (by unfold vc;rw[show WI false u u.nx=qU u 1002 from Z];unfold qU;rw[e1];rfl) ?_ ?_ ?_
   .unfold vc;clear b1 E G bu I;rw[show WI false u u.nx=qU u 1002 from Z];unfold qU;have hxv:=a6.v 0 zB;have cc:=wc j S zB u Y 0 zB t ht Ek;have O:=cA j S u W 0;by_cases B:aW j u 0 t= -1
    .rw[B]at cc;rw[show jC j t u 0=u by unfold jC;rw[zAs B];split<;>rfl];rw[show decide (u.gr≠u.gr)=false from zAu (λh=>h ap)];clear O hxv B;refine zS cc ?_;rfl
    obtain⟨p,L,hp,b0⟩:=VG J (c:=u) (r:=0) ht B;rw[L]at cc
    cases hd:VH j u 0 with
    |false=>
     rw[hd]at O;rw[show jC j t u 0=u by unfold jC;rw[Os JJ]];rw[show decide (u.gr≠u.gr)=false from zAu (λh=>h ap)];clear hd B L hxv;refine yF (xQ cc O) ?_;rfl
    |true=>
    rw[hd]at O;have z:jC j t u 0=uD j u p:=by unfold jC;rw[zAs hd,Os B,L,zBh]
    clear B L hxv hd;by_cases hk:dQ j u p=true\/u.gr=(yG j p).group
    .have cb:=bS j J S zB u W Y p hp (J.rg p hp) hk
     have az:(uD j u p).gr=u.gr:=by
      rcases jX j u p with h|h
      .exact(zBd Ct.gr h.2).trans ap
      .rcases hk with hk|hk
       .rw[hk]at h;cases h.1
       .exact h.2.trans (hk.symm.trans ap)
     rw[z,show decide ((uD j u p).gr≠u.gr)=false from zAu (λh=>h az)];generalize uD j u p=b at *;clear z az hk;unfold qU at cb;refine yF (qC cc O cb) ?_;rfl
    .have bd:dQ j u p=false:=by
      cases h:dQ j u p with
      |false=>rfl
      |true=>exact absurd (.inl h) hk
     have bf:u.gr≠(yG j p).group:=λh=>hk (.inr h)
     have cb:=BE j J S zB u W Y p hp (J.rg p hp) bd bf
     have az:(uD j u p).gr≠u.gr:=by
      rcases jX j u p with h|h
      .rw[bd]at h;cases h.1
      .rw[h.2,<-ap];exact λh=>bf h.symm
     rw[z,show decide ((uD j u p).gr≠u.gr)=true from zAw az];generalize uD j u p=b at *;clear z az hk bd bf;unfold qU aN at cb;refine yF (qC cc O cb) ?_;rfl
   .clear W Y ap;have cp:=b1;generalize jC j t u 0=A at *;unfold vc;by_cases V:A.gr=u.gr
    .rw [zAs V,zAu (λh=>h V)];rw[show WI false A u.nx=qU A 1002 from Z];unfold qU;have hxv:=I.v 1 zB;have cc:=wc j S zB A G 1 zB t ht Ek;have O:=cA j S A E 1;by_cases B:aW j A 1 t= -1
     .rw[B]at cc;rw[show jC j t A 1=A by unfold jC;rw[zAs B];split<;>rfl];rw[show decide (A.gr≠u.gr)=false from zAu (λh=>h V)];clear O hxv B;refine zS cc ?_;rfl
     obtain⟨p,L,hp,b0⟩:=VG J (c:=A) (r:=1) ht B;rw[L]at cc
     cases hd:VH j A 1 with
     |false=>
      rw[hd]at O;rw[show jC j t A 1=A by unfold jC;rw[Os JJ]];rw[show decide (A.gr≠u.gr)=false from zAu (λh=>h V)];clear hd B L hxv;refine yF (xQ cc O) ?_;rfl
     |true=>
     rw[hd]at O;have z:jC j t A 1=uD j A p:=by unfold jC;rw[zAs hd,Os B,L,zBh]
     clear B L hxv hd;by_cases hk:dQ j A p=true\/A.gr=(yG j p).group
     .have cb:=bS j J S zB A E G p hp (J.rg p hp) hk
      have az:(uD j A p).gr=u.gr:=by
       rcases jX j A p with h|h
       .exact(zBd Ct.gr h.2).trans V
       .rcases hk with hk|hk
        .rw[hk]at h;cases h.1
        .exact h.2.trans (hk.symm.trans V)
      rw[z,show decide ((uD j A p).gr≠u.gr)=false from zAu (λh=>h az)];generalize uD j A p=b at *;clear z az hk;unfold qU at cb;refine yF (qC cc O cb) ?_;rfl
     .have bd:dQ j A p=false:=by
       cases h:dQ j A p with
       |false=>rfl
       |true=>exact absurd (.inl h) hk
      have bf:A.gr≠(yG j p).group:=λh=>hk (.inr h)
      have cb:=BE j J S zB A E G p hp (J.rg p hp) bd bf
      have az:(uD j A p).gr≠u.gr:=by
       rcases jX j A p with h|h
       .rw[bd]at h;cases h.1
       .rw[h.2,<-V];exact λh=>bf h.symm
      rw[z,show decide ((uD j A p).gr≠u.gr)=true from zAw az];generalize uD j A p=b at *;clear z az hk bd bf;unfold qU aN at cb;refine yF (qC cc O cb) ?_;rfl
    .have ar:A.gr≠u.gr:=V
     have br:A.gr=(yG j t).group:=by
      rcases cp with h|h
      .exact absurd h ar
      .exact h
     rw[Os V,zAw ar];rw[show WI true A u.nx=aN A u.nx from Z];unfold aN;have hxv:=I.v 1 zB;have cc:=wc j S zB A G 1 zB t ht Ek;have O:=cA j S A E 1;by_cases B:aW j A 1 t= -1
     .rw[B]at cc;rw[show jC j t A 1=A by unfold jC;rw[zAs B];split<;>rfl];rw[show decide (A.gr≠u.gr)=true from zAw ar];clear O hxv B;refine zS cc ?_;rfl
     obtain⟨p,L,hp,b0⟩:=VG J (c:=A) (r:=1) ht B;rw[L]at cc
     cases hd:VH j A 1 with
     |false=>
      rw[hd]at O;rw[show jC j t A 1=A by unfold jC;rw[Os JJ]];rw[show decide (A.gr≠u.gr)=true from zAw ar];clear hd B L hxv;refine yF (xQ cc O) ?_;rfl
     |true=>
     rw[hd]at O;have z:jC j t A 1=uD j A p:=by unfold jC;rw[zAs hd,Os B,L,zBh]
     clear B L hxv hd;have cb:=ZR j J S zB A E G p hp (J.rg p hp) (.inr (br.trans (b0:(yG j p).group=(yG j t).group).symm))
     have az:(uD j A p).gr≠u.gr:=by
      rcases jX j A p with h|h
      .rw[h.2];exact ar
      .rw[h.2,(b0:(yG j p).group=(yG j t).group),<-br];exact ar
     rw[z,show decide ((uD j A p).gr≠u.gr)=true from zAw az];generalize uD j A p=b at *;clear z az;unfold qU at cb;refine yF (qC cc O cb) ?_;rfl
   .generalize (if(jC j t u 0).gr=u.gr then(jC j t u 0).nx else u.nx)=o at *;generalize jC j t (jC j t u 0) 1=c2 at *;unfold vc;by_cases he:c2.gr=u.gr
    .rw[zAu (λh=>h he)];refine WW ?_;exact zI [] Z Z (jA c2) Z
    .rw[zAw he];refine WW ?_;exact zI [] Z Z (jA c2) Z
  | false=>
   rw[Os yY];obtain⟨u,ag⟩:∃u:Ct,u=⟨UV j c t,c.gr,c.nx,c.wt⟩:=⟨_,rfl⟩;rw[<-ag]at CL a8 a7;rw[show UV j c t=u.li by rw[ag]]at e1;rw[show UV j c t=u.li by rw[ag],show c.gr=u.gr by rw[ag],show c.nx=u.nx by rw[ag],show c.wt=u.wt by rw[ag]];rw[show(⟨u.li,u.gr,u.nx,u.wt⟩:Ct)=u from Z];have bs:u.wt=0:=by rw[ag];exact h0
   clear ag eH;have c5:=zA iA u.nx;have C:=CL;have cg:=Sh j S J.gp;have ch:=PV J
   have ca:gN j<=4:=by
    have:∀n,n<=j.ph.length->Da j.ph n<=4:=λn=>by
     induction n with
     |zero=>intro _;show(0:Int)<=4;omega
     |succ n ih=>
      intro h;have h1:=ih zB;have h2:=J.gp n zB;unfold yG at h2;unfold Da;omega
    exact this _ (zAy _)
   have b7:=C.g;have ba:(u.gr+1).tmod (gN j)=(u.gr+1) % gN j:=zB3 zB;have hO:BF u u.nx.length=nj u:=by unfold BF nj;rw[zAv]
   have a9:BF u 0=decide (LT u=0):=by rw[<-Gz u zB];unfold BF;simp
   have ks:=Hz u zB;unfold yu at ks;rw[e1]at ks;have hxv:=λ(i:Nat) (hi:i<2)=>C.v i hi
   clear CL co hw;refine WW ?_;by_cases cj:LT u=0
   .have bz:decide (LT u=0)=true:=zAw cj;rw[bz]at a9;generalize LT u=se at *;refine zS ks ?_;refine zO (u.nx.length) [3,6,3000,1001,1002] [3,6,3000,1001,1002] [3,6,7,108,109] [14,110,3,6,7,108,109] Z (λi T U=>⟨(14,bA (BF u i))::(110,iA i)::T,U⟩) ?_;(conv=>whnf);refine⟨by(rw[a9];rfl),?_,?_⟩
    .intro i hi;have hy:=zJ iA u.nx i hi;have hx:=hxv i zB
     have cw:u.nx.getD i default= -1\/0<=u.nx.getD i default:=by rcases hx with h|h;exact .inl h;exact .inr h.1
     have es:=MB u i hi;rw[es];clear hxv hx es cg ks hO a9;generalize BF u i=o,u.nx.getD i default=x at *;by_cases hx:x= -1
     .rw[show(x== -1)=true by rw[zB8];exact hx,zDe]
      cases o with
      |false=>
       refine WW ?_;rfl
      |true=>
       refine WW ?_;rfl
     .rw[show(x== -1)=false by rw[zBn];exact hx,zCs]
      cases o with
      |false=>
       refine WW ?_;rfl
      |true=>
       refine WW ?_;rfl
    .rw [hO];clear a9 hO ks hxv
     cases bb:nj u with
     | true=>
      have a4:Ba j u=vL j (vL j (QD j u ((u.gr+1) % gN j)) 0) 1:=by unfold Ba;rw[zAs bb]
      rw[a4];have b3:0<=(u.gr+1) % gN j/\(u.gr+1) % gN j<gN j:=⟨zD2 _ zB,zDk _ zB⟩;have ax:=BN C b3;have b4:(QD j u ((u.gr+1) % gN j)).wt=0:=bs;have ce:=NZ j S ((u.gr+1) % gN j) u.gr u.wt (u.li.map xE) (u.nx.map iA) j.ph.length (u.nx.map iA).length
      have bx:([(3000,.box [.ref 1001 0 j.ph.length,iA ((u.gr+1) % gN j),.ref 2001 0 2,iA u.wt]),(1001,.arr 2 (u.li.map xE) false),(1002,.arr 1 (u.nx.map iA) false),(2001,.arr 1 [iA (jH j 0 ((u.gr+1) % gN j) 0),iA (jH j 1 ((u.gr+1) % gN j) 0)] false)]:List (Nat×xW))=aN (QD j u ((u.gr+1) % gN j)) u.nx:=by
       unfold aN;rw[show((QD j u ((u.gr+1) % gN j)).li.map xE).length=j.ph.length from e1];rfl
      rw[bx]at ce;clear bx;rw[<-ba]at ce;rw[ba]at ce;generalize b2:QD j u ((u.gr+1) % gN j)=M at *;rw[<-ba]at ce;have cu:¬gN j=0:=by omega
      generalize gN j=gm at *;have a3:=ax.n;have a5:=ax.m;obtain⟨I,bu⟩:=ZT J ax b4 (r:=0) zB;have E:=I.n;have G:=I.m
      change CV j (vL j M 0)at I
      change (vL j M 0).li.length=j.ph.length at E
      change (vL j M 0).nx.length=2 at G
      clear a4 b2 C;unfold aN at ce;refine yF (xQ cg ce) ?_;refine gZ [3000,1001,1002,2001,3,6] [129,3,6,7] (eU j true 0 M u.nx) (eU j true 1 (vL j M 0) u.nx) (eU j true 2 (vL j (vL j M 0) 1) u.nx) Z Z ?_ ?_ ?_
      .unfold eU;rw[show WI true M u.nx=aN M u.nx from Z];unfold aN;have O:=cA j S M a3 0;have av:=zJ iA M.nx 0 zB;have hv:=ax.v 0 zB;have bk:(M.nx.map iA).length=2:=by rw[zAt];exact a5
       cases hd:VH j M 0 with
       |false=>
        rw[hd]at O;rw[show vL j M 0=M by unfold vL;rw[Os QN]];clear hd;refine zS O ?_;rfl
       |true=>
       rw[hd]at O
       have z:vL j M 0=if M.nx.getD 0 default= -1 then M else uD j M (M.nx.getD 0 default).toNat:=by
        unfold vL;rw[hd]
        show(if true=true/\M.nx.getD 0 default≠ -1 then uD j M (M.nx.getD 0 default).toNat else M)=_
        by_cases h:M.nx.getD 0 default= -1
        .rw[zAs h,Os (λk=>k.2 h)]
        .rw[Os h,zAs ⟨rfl,h⟩]
       clear hd;by_cases B:M.nx.getD 0 default= -1
       .rw[zAs B]at z;rw[z];clear z hv;generalize M.nx.getD 0 default=x at *;refine zS O ?_;rfl
       .rw[Os B]at z
        have au:BK j (0:Nat) M.gr (M.nx.getD 0 default):=by
         rcases hv with h|h
         .exact absurd h B
         .exact h
        obtain⟨i1,i2,i3,i4⟩:=au;obtain⟨p,L⟩:∃p:Nat,M.nx.getD 0 default=p:=⟨(M.nx.getD 0 default).toNat,zB⟩;rw[L]at z av B i2 i4;rw[zBh]at z i4;have hp:p<j.ph.length:=by omega
        have cb:=ZR j J S zB M a3 a5 p hp (J.rg p hp) (.inr i4.symm);rw[z];clear z hv i1 i2 i3 i4 L;generalize uD j M p=b at *;unfold qU at cb;refine yF (xQ O cb) ?_;rfl
      .generalize vL j M 0=A at *;unfold eU;rw[show WI true A u.nx=aN A u.nx from Z];unfold aN;have O:=cA j S A E 1;have av:=zJ iA A.nx 1 zB;have hv:=I.v 1 zB;have bk:(A.nx.map iA).length=2:=by rw[zAt];exact G
       cases hd:VH j A 1 with
       |false=>
        rw[hd]at O;rw[show vL j A 1=A by unfold vL;rw[Os QN]];clear hd;refine zS O ?_;rfl
       |true=>
       rw[hd]at O
       have z:vL j A 1=if A.nx.getD 1 default= -1 then A else uD j A (A.nx.getD 1 default).toNat:=by
        unfold vL;rw[hd]
        show(if true=true/\A.nx.getD 1 default≠ -1 then uD j A (A.nx.getD 1 default).toNat else A)=_
        by_cases h:A.nx.getD 1 default= -1
        .rw[zAs h,Os (λk=>k.2 h)]
        .rw[Os h,zAs ⟨rfl,h⟩]
       clear hd;by_cases B:A.nx.getD 1 default= -1
       .rw[zAs B]at z;rw[z];clear z hv;generalize A.nx.getD 1 default=x at *;refine zS O ?_;rfl
       .rw[Os B]at z
        have au:BK j (1:Nat) A.gr (A.nx.getD 1 default):=by
         rcases hv with h|h
         .exact absurd h B
         .exact h
        obtain⟨i1,i2,i3,i4⟩:=au;obtain⟨p,L⟩:∃p:Nat,A.nx.getD 1 default=p:=⟨(A.nx.getD 1 default).toNat,zB⟩;rw[L]at z av B i2 i4;rw[zBh]at z i4;have hp:p<j.ph.length:=by omega
        have cb:=ZR j J S zB A E G p hp (J.rg p hp) (.inr i4.symm);rw[z];clear z hv i1 i2 i3 i4 L;generalize uD j A p=b at *;unfold qU at cb;refine yF (xQ O cb) ?_;rfl
      .generalize vL j (vL j M 0) 1=c2 at *;unfold eU;refine WW ?_;exact zI [] Z Z (jA c2) Z
     | false=>
      have a4:Ba j u=vL j (vL j u 0) 1:=by unfold Ba;rw[Os (by rw[bb];decide)]
      rw[a4];clear cg ba a4 ch ca b7;have a6:=C;have W:=a8;have Y:=a7;obtain⟨I,bu⟩:=ZT J C bs (r:=0) zB;have E:=I.n;have G:=I.m
      change CV j (vL j u 0)at I
      change (vL j u 0).li.length=j.ph.length at E
      change (vL j u 0).nx.length=2 at G
      clear bb;refine WW ?_;refine gZ [3000,1001,1002,2001,3,6] [129,3,6,7] (eU j false 0 u u.nx) (eU j false 1 (vL j u 0) u.nx) (eU j false 2 (vL j (vL j u 0) 1) u.nx) Z (by unfold eU;rw[show WI false u u.nx=qU u 1002 from Z];unfold qU;rw[e1];rfl) ?_ ?_ ?_
      .unfold eU;rw[show WI false u u.nx=qU u 1002 from Z];unfold qU;have O:=cA j S u W 0;have av:=zJ iA u.nx 0 zB;have hv:=a6.v 0 zB;have bk:(u.nx.map iA).length=2:=by rw[zAt];exact Y
       cases hd:VH j u 0 with
       |false=>
        rw[hd]at O;rw[show vL j u 0=u by unfold vL;rw[Os QN]];clear hd;refine zS O ?_;rfl
       |true=>
       rw[hd]at O
       have z:vL j u 0=if u.nx.getD 0 default= -1 then u else uD j u (u.nx.getD 0 default).toNat:=by
        unfold vL;rw[hd]
        show(if true=true/\u.nx.getD 0 default≠ -1 then uD j u (u.nx.getD 0 default).toNat else u)=_
        by_cases h:u.nx.getD 0 default= -1
        .rw[zAs h,Os (λk=>k.2 h)]
        .rw[Os h,zAs ⟨rfl,h⟩]
       clear hd;by_cases B:u.nx.getD 0 default= -1
       .rw[zAs B]at z;rw[z];clear z hv;generalize u.nx.getD 0 default=x at *;refine zS O ?_;rfl
       .rw[Os B]at z
        have au:BK j (0:Nat) u.gr (u.nx.getD 0 default):=by
         rcases hv with h|h
         .exact absurd h B
         .exact h
        obtain⟨i1,i2,i3,i4⟩:=au;obtain⟨p,L⟩:∃p:Nat,u.nx.getD 0 default=p:=⟨(u.nx.getD 0 default).toNat,zB⟩;rw[L]at z av B i2 i4;rw[zBh]at z i4;have hp:p<j.ph.length:=by omega
        have cb:=bS j J S zB u W Y p hp (J.rg p hp) (.inr i4.symm);rw[z];clear z hv i1 i2 i3 i4 L;generalize uD j u p=b at *;unfold qU at cb;refine yF (xQ O cb) ?_;rfl
      .generalize vL j u 0=A at *;unfold eU;rw[show WI false A u.nx=qU A 1002 from Z];unfold qU;have O:=cA j S A E 1;have av:=zJ iA A.nx 1 zB;have hv:=I.v 1 zB;have bk:(A.nx.map iA).length=2:=by rw[zAt];exact G
       cases hd:VH j A 1 with
       |false=>
        rw[hd]at O;rw[show vL j A 1=A by unfold vL;rw[Os QN]];clear hd;refine zS O ?_;rfl
       |true=>
       rw[hd]at O
       have z:vL j A 1=if A.nx.getD 1 default= -1 then A else uD j A (A.nx.getD 1 default).toNat:=by
        unfold vL;rw[hd]
        show(if true=true/\A.nx.getD 1 default≠ -1 then uD j A (A.nx.getD 1 default).toNat else A)=_
        by_cases h:A.nx.getD 1 default= -1
        .rw[zAs h,Os (λk=>k.2 h)]
        .rw[Os h,zAs ⟨rfl,h⟩]
       clear hd;by_cases B:A.nx.getD 1 default= -1
       .rw[zAs B]at z;rw[z];clear z hv;generalize A.nx.getD 1 default=x at *;refine zS O ?_;rfl
       .rw[Os B]at z
        have au:BK j (1:Nat) A.gr (A.nx.getD 1 default):=by
         rcases hv with h|h
         .exact absurd h B
         .exact h
        obtain⟨i1,i2,i3,i4⟩:=au;obtain⟨p,L⟩:∃p:Nat,A.nx.getD 1 default=p:=⟨(A.nx.getD 1 default).toNat,zB⟩;rw[L]at z av B i2 i4;rw[zBh]at z i4;have hp:p<j.ph.length:=by omega
        have cb:=bS j J S zB A E G p hp (J.rg p hp) (.inr i4.symm);rw[z];clear z hv i1 i2 i3 i4 L;generalize uD j A p=b at *;unfold qU at cb;refine yF (xQ O cb) ?_;rfl
      .generalize vL j (vL j u 0) 1=c2 at *;unfold eU;refine WW ?_;exact zI [] Z Z (jA c2) Z
   .have bz:decide (LT u=0)=false:=zAu cj;rw[bz]at a9;generalize LT u=se at *;refine zS ks ?_;refine zO (u.nx.length) [3,6,3000,1001,1002] [3,6,3000,1001,1002] [3,6,7,108,109] [14,110,3,6,7,108,109] Z (λi T U=>⟨(14,bA (BF u i))::(110,iA i)::T,U⟩) ?_;(conv=>whnf);refine⟨by(rw[a9];rfl),?_,?_⟩
    .intro i hi;have hy:=zJ iA u.nx i hi;have hx:=hxv i zB
     have cw:u.nx.getD i default= -1\/0<=u.nx.getD i default:=by rcases hx with h|h;exact .inl h;exact .inr h.1
     have es:=MB u i hi;rw[es];clear hxv hx es cg ks hO a9;generalize BF u i=o,u.nx.getD i default=x at *;by_cases hx:x= -1
     .rw[show(x== -1)=true by rw[zB8];exact hx,zDe]
      cases o with
      |false=>
       refine WW ?_;rfl
      |true=>
       refine WW ?_;rfl
     .rw[show(x== -1)=false by rw[zBn];exact hx,zCs]
      cases o with
      |false=>
       refine WW ?_;rfl
      |true=>
       refine WW ?_;rfl
    .rw [hO];clear a9 hO ks hxv
     cases bb:nj u with
     | true=>
      have a4:Ba j u=vL j (vL j (QD j u ((u.gr+1) % gN j)) 0) 1:=by unfold Ba;rw[zAs bb]
      rw[a4];have b3:0<=(u.gr+1) % gN j/\(u.gr+1) % gN j<gN j:=⟨zD2 _ zB,zDk _ zB⟩;have ax:=BN C b3;have b4:(QD j u ((u.gr+1) % gN j)).wt=0:=bs;have ce:=NZ j S ((u.gr+1) % gN j) u.gr u.wt (u.li.map xE) (u.nx.map iA) j.ph.length (u.nx.map iA).length
      have bx:([(3000,.box [.ref 1001 0 j.ph.length,iA ((u.gr+1) % gN j),.ref 2001 0 2,iA u.wt]),(1001,.arr 2 (u.li.map xE) false),(1002,.arr 1 (u.nx.map iA) false),(2001,.arr 1 [iA (jH j 0 ((u.gr+1) % gN j) 0),iA (jH j 1 ((u.gr+1) % gN j) 0)] false)]:List (Nat×xW))=aN (QD j u ((u.gr+1) % gN j)) u.nx:=by
       unfold aN;rw[show((QD j u ((u.gr+1) % gN j)).li.map xE).length=j.ph.length from e1];rfl
      rw[bx]at ce;clear bx;rw[<-ba]at ce;rw[ba]at ce;generalize b2:QD j u ((u.gr+1) % gN j)=M at *;rw[<-ba]at ce;have cu:¬gN j=0:=by omega
      generalize gN j=gm at *;have a3:=ax.n;have a5:=ax.m;obtain⟨I,bu⟩:=ZT J ax b4 (r:=0) zB;have E:=I.n;have G:=I.m
      change CV j (vL j M 0)at I
      change (vL j M 0).li.length=j.ph.length at E
      change (vL j M 0).nx.length=2 at G
      clear a4 b2 C;unfold aN at ce;refine yF (xQ cg ce) ?_;refine gZ [3000,1001,1002,2001,3,6] [129,3,6,7] (eU j true 0 M u.nx) (eU j true 1 (vL j M 0) u.nx) (eU j true 2 (vL j (vL j M 0) 1) u.nx) Z Z ?_ ?_ ?_
      .unfold eU;rw[show WI true M u.nx=aN M u.nx from Z];unfold aN;have O:=cA j S M a3 0;have av:=zJ iA M.nx 0 zB;have hv:=ax.v 0 zB;have bk:(M.nx.map iA).length=2:=by rw[zAt];exact a5
       cases hd:VH j M 0 with
       |false=>
        rw[hd]at O;rw[show vL j M 0=M by unfold vL;rw[Os QN]];clear hd;refine zS O ?_;rfl
       |true=>
       rw[hd]at O
       have z:vL j M 0=if M.nx.getD 0 default= -1 then M else uD j M (M.nx.getD 0 default).toNat:=by
        unfold vL;rw[hd]
        show(if true=true/\M.nx.getD 0 default≠ -1 then uD j M (M.nx.getD 0 default).toNat else M)=_
        by_cases h:M.nx.getD 0 default= -1
        .rw[zAs h,Os (λk=>k.2 h)]
        .rw[Os h,zAs ⟨rfl,h⟩]
       clear hd;by_cases B:M.nx.getD 0 default= -1
       .rw[zAs B]at z;rw[z];clear z hv;generalize M.nx.getD 0 default=x at *;refine zS O ?_;rfl
       .rw[Os B]at z
        have au:BK j (0:Nat) M.gr (M.nx.getD 0 default):=by
         rcases hv with h|h
         .exact absurd h B
         .exact h
        obtain⟨i1,i2,i3,i4⟩:=au;obtain⟨p,L⟩:∃p:Nat,M.nx.getD 0 default=p:=⟨(M.nx.getD 0 default).toNat,zB⟩;rw[L]at z av B i2 i4;rw[zBh]at z i4;have hp:p<j.ph.length:=by omega
        have cb:=ZR j J S zB M a3 a5 p hp (J.rg p hp) (.inr i4.symm);rw[z];clear z hv i1 i2 i3 i4 L;generalize uD j M p=b at *;unfold qU at cb;refine yF (xQ O cb) ?_;rfl
      .generalize vL j M 0=A at *;unfold eU;rw[show WI true A u.nx=aN A u.nx from Z];unfold aN;have O:=cA j S A E 1;have av:=zJ iA A.nx 1 zB;have hv:=I.v 1 zB;have bk:(A.nx.map iA).length=2:=by rw[zAt];exact G
       cases hd:VH j A 1 with
       |false=>
        rw[hd]at O;rw[show vL j A 1=A by unfold vL;rw[Os QN]];clear hd;refine zS O ?_;rfl
       |true=>
       rw[hd]at O
       have z:vL j A 1=if A.nx.getD 1 default= -1 then A else uD j A (A.nx.getD 1 default).toNat:=by
        unfold vL;rw[hd]
        show(if true=true/\A.nx.getD 1 default≠ -1 then uD j A (A.nx.getD 1 default).toNat else A)=_
        by_cases h:A.nx.getD 1 default= -1
        .rw[zAs h,Os (λk=>k.2 h)]
        .rw[Os h,zAs ⟨rfl,h⟩]
       clear hd;by_cases B:A.nx.getD 1 default= -1
       .rw[zAs B]at z;rw[z];clear z hv;generalize A.nx.getD 1 default=x at *;refine zS O ?_;rfl
       .rw[Os B]at z
        have au:BK j (1:Nat) A.gr (A.nx.getD 1 default):=by
         rcases hv with h|h
         .exact absurd h B
         .exact h
        obtain⟨i1,i2,i3,i4⟩:=au;obtain⟨p,L⟩:∃p:Nat,A.nx.getD 1 default=p:=⟨(A.nx.getD 1 default).toNat,zB⟩;rw[L]at z av B i2 i4;rw[zBh]at z i4;have hp:p<j.ph.length:=by omega
        have cb:=ZR j J S zB A E G p hp (J.rg p hp) (.inr i4.symm);rw[z];clear z hv i1 i2 i3 i4 L;generalize uD j A p=b at *;unfold qU at cb;refine yF (xQ O cb) ?_;rfl
      .generalize vL j (vL j M 0) 1=c2 at *;unfold eU;refine WW ?_;exact zI [] Z Z (jA c2) Z
     | false=>
      have a4:Ba j u=vL j (vL j u 0) 1:=by unfold Ba;rw[Os (by rw[bb];decide)]
      rw[a4];clear cg ba a4 ch ca b7;have a6:=C;have W:=a8;have Y:=a7;obtain⟨I,bu⟩:=ZT J C bs (r:=0) zB;have E:=I.n;have G:=I.m
      change CV j (vL j u 0)at I
      change (vL j u 0).li.length=j.ph.length at E
      change (vL j u 0).nx.length=2 at G
      clear bb;refine WW ?_;refine gZ [3000,1001,1002,2001,3,6] [129,3,6,7] (eU j false 0 u u.nx) (eU j false 1 (vL j u 0) u.nx) (eU j false 2 (vL j (vL j u 0) 1) u.nx) Z (by unfold eU;rw[show WI false u u.nx=qU u 1002 from Z];unfold qU;rw[e1];rfl) ?_ ?_ ?_
      .unfold eU;rw[show WI false u u.nx=qU u 1002 from Z];unfold qU;have O:=cA j S u W 0;have av:=zJ iA u.nx 0 zB;have hv:=a6.v 0 zB;have bk:(u.nx.map iA).length=2:=by rw[zAt];exact Y
       cases hd:VH j u 0 with
       |false=>
        rw[hd]at O;rw[show vL j u 0=u by unfold vL;rw[Os QN]];clear hd;refine zS O ?_;rfl
       |true=>
       rw[hd]at O
       have z:vL j u 0=if u.nx.getD 0 default= -1 then u else uD j u (u.nx.getD 0 default).toNat:=by
        unfold vL;rw[hd]
        show(if true=true/\u.nx.getD 0 default≠ -1 then uD j u (u.nx.getD 0 default).toNat else u)=_
        by_cases h:u.nx.getD 0 default= -1
        .rw[zAs h,Os (λk=>k.2 h)]
        .rw[Os h,zAs ⟨rfl,h⟩]
       clear hd;by_cases B:u.nx.getD 0 default= -1
       .rw[zAs B]at z;rw[z];clear z hv;generalize u.nx.getD 0 default=x at *;refine zS O ?_;rfl
       .rw[Os B]at z
        have au:BK j (0:Nat) u.gr (u.nx.getD 0 default):=by
         rcases hv with h|h
         .exact absurd h B
         .exact h
        obtain⟨i1,i2,i3,i4⟩:=au;obtain⟨p,L⟩:∃p:Nat,u.nx.getD 0 default=p:=⟨(u.nx.getD 0 default).toNat,zB⟩;rw[L]at z av B i2 i4;rw[zBh]at z i4;have hp:p<j.ph.length:=by omega
        have cb:=bS j J S zB u W Y p hp (J.rg p hp) (.inr i4.symm);rw[z];clear z hv i1 i2 i3 i4 L;generalize uD j u p=b at *;unfold qU at cb;refine yF (xQ O cb) ?_;rfl
      .generalize vL j u 0=A at *;unfold eU;rw[show WI false A u.nx=qU A 1002 from Z];unfold qU;have O:=cA j S A E 1;have av:=zJ iA A.nx 1 zB;have hv:=I.v 1 zB;have bk:(A.nx.map iA).length=2:=by rw[zAt];exact G
       cases hd:VH j A 1 with
       |false=>
        rw[hd]at O;rw[show vL j A 1=A by unfold vL;rw[Os QN]];clear hd;refine zS O ?_;rfl
       |true=>
       rw[hd]at O
       have z:vL j A 1=if A.nx.getD 1 default= -1 then A else uD j A (A.nx.getD 1 default).toNat:=by
        unfold vL;rw[hd]
        show(if true=true/\A.nx.getD 1 default≠ -1 then uD j A (A.nx.getD 1 default).toNat else A)=_
        by_cases h:A.nx.getD 1 default= -1
        .rw[zAs h,Os (λk=>k.2 h)]
        .rw[Os h,zAs ⟨rfl,h⟩]
       clear hd;by_cases B:A.nx.getD 1 default= -1
       .rw[zAs B]at z;rw[z];clear z hv;generalize A.nx.getD 1 default=x at *;refine zS O ?_;rfl
       .rw[Os B]at z
        have au:BK j (1:Nat) A.gr (A.nx.getD 1 default):=by
         rcases hv with h|h
         .exact absurd h B
         .exact h
        obtain⟨i1,i2,i3,i4⟩:=au;obtain⟨p,L⟩:∃p:Nat,A.nx.getD 1 default=p:=⟨(A.nx.getD 1 default).toNat,zB⟩;rw[L]at z av B i2 i4;rw[zBh]at z i4;have hp:p<j.ph.length:=by omega
        have cb:=bS j J S zB A E G p hp (J.rg p hp) (.inr i4.symm);rw[z];clear z hv i1 i2 i3 i4 L;generalize uD j A p=b at *;unfold qU at cb;refine yF (xQ O cb) ?_;rfl
      .generalize vL j (vL j u 0) 1=c2 at *;unfold eU;refine WW ?_;exact zI [] Z Z (jA c2) Z
def Wh (j:Jn) (G:ln j.ph<=1000) (g S M:Int) (L:List AV) (I:Nat):zN 214 [wD j,.ptr 3000 0 0,iA g] [(3000,.box [.ref 1001 0 I,iA S,.s (.slice none 0 0),iA M]),(1001,.arr 2 L false)] (.tup [])
  [(3000,.box [.ref 1001 0 I,iA g,.ref 2001 0 2,iA M]),(1001,.arr 2 L false),(2001,.arr 1 [iA (jH j 0 g 0),iA (jH j 1 g 0)] false)]:=by
 have C:=aM j G 0 g (-1);have E:=aM j G 1 g (-1);rw[show(-1:Int)+1=0 by omega]at C E;generalize jH j 0 g 0=u,jH j 1 g 0=z at *;obtain⟨B,A⟩:∃n:Nat,n=2:=⟨2,rfl⟩;refine eM call214 λF hF=>?_
 refine WW ?_;refine zQ 6 2001 1 Z Z Z ?_;refine zO (B) [2001,3,3000,1001] [3,3000,1001] [1,2,3] [6,8,1,2,3] Z (λi T U=>⟨(6,.ref 2001 0 (Jr u z i).length)::(8,iA i)::T,(2001,.arr 1 (Jr u z i) (i != 1))::U⟩) (Lq ?_ ?_)
 .intro i hi;have:i=0\/i=1:=by omega
  rcases this with rfl|rfl
  .have hl:(Jr u z 0).length=0:=rfl;refine zS C ?_;rfl
  .have hl:(Jr u z 1).length=1:=rfl;refine zS E ?_;rfl
 .have O:Jr u z B=[iA u,iA z]:=by rw[A];rfl
  have e3:(B != 1)=true:=by rw[A];rfl
  rw[O,e3]
  (repeat' (first|refine ub ?_|apply yW|apply xH|intro hc|(apply zG;first|refine SM ?_)|fail))
  refine yD Z (xS ?_);refine kE 2001 [6] Z Z Z Z Z ?_;refine WW ?_;exact uV [3000,1001,2001] Z Z Z Z
def Lt (j:Jn) (C:ln j.ph<=1000):zN 158 [wD j] [] (JU (Th j)) []:=by
 have z:=zA xN j.ph;have u:=Wh j C 0 0 j.st ((pi (ln j.ph) (⟨0,0⟩:Li)).map xE) ((pi (ln j.ph) (⟨0,0⟩:Li)).map xE).length;have A:(pi (ln j.ph) (⟨0,0⟩:Li)).map xE=pi (ln j.ph) (xE ⟨0,0⟩):=zEh;have eN:((pi (ln j.ph) (⟨0,0⟩:Li)).map xE).length=ln j.ph:=by simp
 rw[eN,A]at u;rw[<-z]at u;refine eM call158 λF hF=>?_
 repeat' (first|(apply zG;first|(apply Bl;refine uT (nw:=[3000]) (fK tok 3000 Z Z) Z Z Z ?_)|refine uM tok Z Z ?_|(apply fQ;refine bE 1001 tok Z Z Z Z Z Z Z Z Z Z Z Z Z zB zB Z Z Z ?_)|refine YT tok Z Z Z Z ?_|(apply xP;(first|(refine vH 214 ?_;first|refine wM (zL (u) Z Z Z Z Z) Z ?_|refine uT (zL (u) Z Z Z Z Z) Z Z Z ?_|refine aI (zL (u) Z Z Z Z Z) Z Z Z ?_)))|(apply dX;refine cQ tok Z Z Z ?_)|refine WU NI ?_|apply kQ)|first|refine SQ ?_|fail)
 have B:AV.agg [.sl false ((pi (j.ph.map xN).length (xE ⟨0,0⟩)).take (j.ph.map xN).length),iA 0,.sl false [iA (jH j 0 0 0),iA (jH j 1 0 0)],iA j.st]=JU (Th j):=by
  rw[zA2 zV,z,<-A];rfl
 exact zI [] Z Z B Z
structure Sg where
 c:Ct
 lat:Bool
def wU (s:Sg):AV:= .agg [zE xE s.c.li,iA s.c.gr,zE iA s.c.nx,iA s.c.wt,bA s.lat]
def fO (j:Jn):Sg:=⟨Th j,false⟩
def Ie (j:Jn) (s:Sg) (t k:Int):Sg:=if s.lat=true then s else⟨GL j s.c t,wm j.cf (bR (GL j s.c t).li k)⟩
def Kr (j:Jn) (s:Sg):Sg:=if s.lat=true then fO j else s
def CY {α:Type} (f:α->AV) (l:List α):AV.sl false ((l.map f).take (l.map f).length)=zE f l:=by rw[zAv];rfl
def JQ (l:List Int) (hl:ln l<=1073741824):zN 111 [zE iA l] [] (zE iA l) []:=by
 have u:=zA iA l;refine eM call111 λF hF=>?_
 refine xI 0 Z (λcap z=>?_) ?_
 .have:l=[]:=by simpa using z
  subst this;exact mx
 ·(refine WW ?_)
  refine zI [] Z Z (CY _ _) Z
def JR (l:List Li) (hl:ln l<=1073741824):zN 172 [zE xE l] [] (zE xE l) []:=by
 have u:=zA xE l;refine eM call172 λF hF=>?_
 refine xI 0 Z (λcap z=>?_) ?_
 .have:l=[]:=by simpa using z
  subst this;exact mx
 ·(refine WW ?_)
  refine zI [] Z Z (CY _ _) Z
def CZ (s:Sg) (h1:ln s.c.li<=1073741824) (h2:ln s.c.nx<=1073741824):zN 116 [wU s] [] (wU s) []:=by
 have u:=JR s.c.li h1;have z:=JQ s.c.nx h2;refine eM call116 λF hF=>?_
 exact ng (xQ u z)
def Jl (c:Ct) (h1:ln c.li<=1000) (h2:ln c.nx<=1000):zN 188 [JU c] [] (JU c) []:=by
 have hl:=zA xE c.li;have u:=zA iA c.nx;refine eM call188 λF hF=>?_
 exact nm
def PO (s:Sg) (h1:ln s.c.li<=1000) (h2:ln s.c.nx<=1000):zN 126 [wU s] [] (wU s) []:=by
 have u:=Jl s.c h1 h2;refine eM call126 λF hF=>?_
 exact nl u
def Fz (j:Jn) (J:JV j):zN 81 [wD j] [] (wU (fO j)) []:=by
 have u:=Bz j DW;unfold fO;generalize Th j=c at *;refine eM call81 λF hF=>?_
 exact nl u
def Ge (j:Jn) (J:JV j):zN 86 [wD j] [] (wU (fO j)) []:=by
 have u:=Lt j DW;unfold fO;generalize Th j=c at *;refine eM call86 λF hF=>?_
 exact nl u
def Kt (j:Jn) (J:JV j) (s:Sg) (C:CV j s.c) (t k:Int):zN 180 [wD j,wU s,iA t,iA k] [] (wU (Ie j s t k)) []:=by
 have I:=J.n;have hc:=J.c;have M:=C.n;have L:=C.m;have A:=CZ s zB zB;have B:=M0 j J s.c C t;have z:=Ym J C t;have E:=o0 (GL j s.c t).li (by have:=z.n;omega) k;have G:=Z0 j.cf (bR (GL j s.c t).li k) zB (by rw[BC];have:=z.n;omega);unfold Ie;generalize wm j.cf (bR (GL j s.c t).li k)=f at *;generalize bR (GL j s.c t).li k=O at *;generalize GL j s.c t=c at *;obtain⟨S,u⟩:=s
 cases u with
 |true=>
  rw[zAs Z];refine eM call180 λF hF=>?_
  exact nl A
 |false=>
  rw[Os zA9];refine eM call180 λF hF=>?_
  exact ng (qC B E G)
def Il (j:Jn) (J:JV j) (s:Sg) (C:CV j s.c) (t k:Int):zN 135 [wD j,wU s,iA t,iA k] [] (wU (Ie j s t k)) []:=by
 have I:=J.n;have hc:=J.c;have M:=C.n;have L:=C.m;have A:=PO s zB zB;have B:=Kl j J s.c C t;have z:=Ym J C t;have E:=Ft (GL j s.c t).li (by have:=z.n;omega) k;have G:=Et j.cf (bR (GL j s.c t).li k) zB (by rw[BC];have:=z.n;omega);unfold Ie;generalize wm j.cf (bR (GL j s.c t).li k)=f at *;generalize bR (GL j s.c t).li k=O at *;generalize GL j s.c t=c at *;obtain⟨S,u⟩:=s
 cases u with
 |true=>
  rw[zAs Z];refine eM call135 λF hF=>?_
  exact nl A
 |false=>
  rw[Os zA9];refine eM call135 λF hF=>?_
  exact ng (qC B E G)
def Hl (j:Jn) (J:JV j) (s:Sg) (h1:ln s.c.li<=1073741824) (h2:ln s.c.nx<=1073741824):zN 47 [wD j,wU s] [] (.tup [wU (Kr j s),bA s.lat]) []:=by
 have A:=CZ s h1 h2;have B:=Fz j J;unfold Kr;generalize fO j=z at *;obtain⟨C,u⟩:=s
 cases u with
 |true=>
  rw[zAs Z];refine eM call47 λF hF=>?_
  exact nl B
 |false=>
  rw[Os zA9];refine eM call47 λF hF=>?_
  exact nl A
def Uh (j:Jn) (J:JV j) (s:Sg) (h1:ln s.c.li<=1000) (h2:ln s.c.nx<=1000):zN 57 [wD j,wU s] [] (.tup [wU (Kr j s),bA s.lat]) []:=by
 have A:=PO s h1 h2;have B:=Ge j J;unfold Kr;generalize fO j=z at *;obtain⟨C,u⟩:=s
 cases u with
 |true=>
  rw[zAs Z];refine eM call57 λF hF=>?_
  exact nl B
 |false=>
  rw[Os zA9];refine eM call57 λF hF=>?_
  exact nl A
def ph0:Ph:=⟨0,0,2,3,1,1,0,0⟩
def j0:Jn:=⟨[ph0,ph0],[2,1],0⟩
def two {p:Nat} (h:p<ln j0.ph):p=0\/p=1:=by
 have:ln j0.ph=2:=rfl;omega
theorem Ez {j:Jn} (J:JV j) {s:Sg} (C:CV j s.c) (t k:Int):CV j (Ie j s t k).c:=by grind [Ie,Ym]
def G9 {j:Jn} (J:JV j) {s:Sg} (C:CV j s.c):CV j (Kr j s).c:=by
 unfold Kr;split
 .exact Dl J
 .exact C
def ph1:Ph:=⟨0,0,2,3,1,0,0,0⟩
def j1:Jn:=⟨[ph1,ph1],[2,1],0⟩
def WG {p q:Prop} (k:q) (h:aX q->p:=by(intro u;(repeat' (first|refine aP ?_|refine yW (λhc=>?_) λhc=>?_|fail));exact u.h)):p:=h ⟨k⟩
def WO {p q:Prop} (k:q) (h:aX q->p:=by(intro u;(repeat' (first|refine aP ?_|refine yW (λhc=>?_) λhc=>?_|fail));exact u.h)):p:=h ⟨k⟩
def oj{p:Prop}(h:p:=by(refine WO ?_;exact zH)):p:=h
def e1 (d:Dk) (f4:Int):Int:=[-1,0,max (-1) (f4-nx d 6)].getD (nx (ad d) 3).toNat 0
def d0 (xs:List Int) (hl:ln xs<=9223372036854775807):Dk:=⟨xs,0,zBb _,hl⟩
def cK (z:List Int) (u:Int):Int:=if u<0\/(ln z:Int)<=u then -1 else z.getD u.toNat 0
def cH (k:Int):Bool:=k==2||k==3
def jW (u:List Int) (z A:Int):Int:=max A (cK u z)
def PP (s:Sv) (c:Cl):zN 313 [wP s,kD c] [] (iA (cK s.en c.ph)) []:=by
 have hl:(s.en.map iA).length=ln s.en:=by simp
 by_cases h1:c.ph<0
 .rw[show cK s.en c.ph= -1 by simp[cK,h1]];refine eM call313 λF hF=>?_
  exact oj
 .by_cases h2:(ln s.en:Int)<=c.ph
  .rw[show cK s.en c.ph= -1 by simp[cK,h2]];refine eM call313 λF hF=>?_
   exact oj
  .rw[show cK s.en c.ph=s.en.getD c.ph.toNat 0 by unfold cK;rw[Os zB]];have u:=yE iA s.en c.ph zB zB;refine eM call313 λF hF=>?_
   exact oj
def jG (c:Cl):zN 277 [kD c] [] (bA (cH c.k)) []:=by
 unfold cH;by_cases h:c.k=2
 .rw[show(c.k==2||c.k==3)=true by simp[h]];refine eM call277 λF hF=>?_
  exact oj
 .rw[show(c.k==2||c.k==3)=(c.k==3) by simp[h]];refine eM call277 λF hF=>?_
  exact oj
def UT (s:Sv) (c:Cl):zN 315 [wP s,kD c] [] (iA (jW s.en c.ph c.si)) []:=by
 refine eM call315 λF hF=>?_
 (repeat' (first|refine aP ?_|refine yW (λhc=>?_) λhc=>?_|(apply zG;apply xP;refine wM (zL (PP ⟨_,_,_⟩ ⟨_,_,_,_,_⟩) Z Z Z Z Z) Z ?_)|fail))
 exact zH
def uc (n d:Int) (hd:1<=d) (u:n.tmod d=0):n.tdiv d=n/d:=by grind [Int.tmod_add_mul_tdiv,Int.ediv_eq_of_eq_mul_right]
def GI (n d:Int) (G:n<0) (hd:1<=d) (E:n.tmod d≠0):n.tdiv d-1=n/d:=by
 have h1:=Int.tmod_add_mul_tdiv n d;have u:n.tmod d= -((-n).tmod d):=by rw[Int.neg_tmod];omega
 have A: -d<n.tmod d:=by
  have:=zFs (-n) (show 0<d by omega);omega
 have B:n.tmod d<=0:=by
  have:=zGa d (show 0<= -n by omega);omega
 clear u;have z:n=d*(n.tdiv d-1)+(n.tmod d+d):=by rw[Int.mul_sub];omega
 generalize n.tdiv d=q,n.tmod d=r at *
 have C:n/d=q-1:=by
  rw[z,Int.mul_add_ediv_left _ _ zB,Int.ediv_eq_zero_of_lt zB zB];omega
 omega
def Fe (n d:Int) (hd:1<=d) (h1: -4611686018427387904<=n) (h2:n<=4611686018427387904): -4611686018427387904<=n.tdiv d/\n.tdiv d<=4611686018427387904:=by
 by_cases h:0<=n
 .have:=IntWalk.tdiv_le n d h hd
  grind
 .have u:n.tdiv d= -((-n).tdiv d):=by rw[Int.neg_tdiv];omega
  have:=IntWalk.tdiv_le (-n) d zB hd
  grind
def VD (n d:Int) (hd:1<=d) (h1: -4611686018427387904<=n) (h2:n<=4611686018427387904):zN 358 [iA n,iA d] [] (iA (n/d)) []:=by
 have hb:=Fe n d hd h1 h2;have A:aD .i64 (n.tdiv d):=⟨zB,zB⟩;by_cases u:n.tmod d=0
 .rw[<-uc n d hd u];refine eM call358 λF hF=>?_
  exact oj
 .by_cases z:n<0
  .rw[<-GI n d z hd u];refine eM call358 λF hF=>?_
   exact oj
  .rw[<-zCw (show 0<=n by omega)];refine eM call358 λF hF=>?_
   exact oj
def UU (u cap:Int) (z:List Int) (f4 A k B:Int):Int:=min cap (k+(f4-jW z A B)/u)
structure bj (per f4:Int) (es:List Int) (c:Cl):Prop where
 p:1<=per
 k0: -1000<=c.k
 k1:c.k<=1000
 n0: -1099511627776<=f4
 n1:f4<=1099511627776
 s0: -1099511627776<=jW es c.ph c.si
 s1:jW es c.ph c.si<=1099511627776
 e0: -1099511627776<=cK es c.ph
 e1:cK es c.ph<=1099511627776
def Dz (n d:Int) (hd:1<=d) (h1: -4611686018427387904<=n) (h2:n<=4611686018427387904): -4611686018427387904<=n/d/\n/d<=4611686018427387904:=by
 constructor
 .refine(Int.le_ediv_iff_mul_le zB).2 ?_
  grind
 .have:n/d<=4611686018427387904/1:=by
   rw[Int.ediv_one];refine Int.le_of_lt_add_one ((Int.ediv_lt_iff_lt_mul zB).2 ?_)
   grind
  omega
def Ee (g:Cf) (s:Sv) (c:Cl) (f4:Int) (u:bj g.per f4 s.en c):zN 314 [wH g,wP s,kD c,iA f4] [] (iA (UU g.per g.cap s.en f4 c.ph c.k c.si)) []:=by
 obtain⟨p,A,B,C,E,G,I,_,_⟩:=u;have z:=Dz (f4-jW s.en c.ph c.si) g.per p zB zB;refine eM call314 λF hF=>?_
 (repeat' (first|refine aP ?_|refine yW (λhc=>?_) λhc=>?_|(apply zG;apply xP;(first|(refine vH 315 ?_;first|refine wM (zL (UT s c) Z Z Z Z Z) Z ?_|refine uT (zL (UT s c) Z Z Z Z Z) Z Z Z ?_|refine aI (zL (UT s c) Z Z Z Z Z) Z Z Z ?_)|(refine vH 358 ?_;first|refine wM (zL (VD _ _ zB zB zB) Z Z Z Z Z) Z ?_|refine uT (zL (VD _ _ zB zB zB) Z Z Z Z Z) Z Z Z ?_|refine aI (zL (VD _ _ zB zB zB) Z Z Z Z Z) Z Z Z ?_)))|fail))
 exact zH
def BA (u:Int) (z:List Int) (f4 A k:Int):Bool:=!cH k&&(cK z A != -1&&decide (f4-cK z A<=u))
def Gl (g:Cf) (s:Sv) (c:Cl) (f4:Int) (u:bj g.per f4 s.en c):zN 279 [wH g,wP s,kD c,iA f4] [] (bA (BA g.lock s.en f4 c.ph c.k)) []:=by
 obtain⟨p,A,B,C,E,G,I,z,e1⟩:=u;unfold BA;refine eM call279 λF hF=>?_
 (repeat' (first|refine aP ?_|refine yW (λhc=>?_) λhc=>?_|(apply zG;apply xP;(first|(refine vH 313 ?_;first|refine wM (zL (PP _ _) Z Z Z Z Z) Z ?_|refine uT (zL (PP _ _) Z Z Z Z Z) Z Z Z ?_|refine aI (zL (PP _ _) Z Z Z Z Z) Z Z Z ?_)|(refine vH 277 ?_;first|refine wM (zL (jG _) Z Z Z Z Z) Z ?_|refine uT (zL (jG _) Z Z Z Z Z) Z Z Z ?_|refine aI (zL (jG _) Z Z Z Z Z) Z Z Z ?_)))|fail))
 all_goals refine zI [] Z Z (zBd bA ?_) Z
 all_goals simp_all [uB]
