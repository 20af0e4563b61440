/- Part 24. -/
import Derived.Test.YtaglbcjljlkjcaaGreatW23
namespace Go.Proofs.YtaglbcjljlkjcaaGreat.Av
open Tryz
set_option linter.all false
set_option maxRecDepth 4000
set_option maxHeartbeats 1000000
open List renaming length->ln,replicate->pb,getD->pi
open Inhabited renaming default->dd
def cA (j:Jn) (u:ln j.ph<=1000) (c:Ct) (hc:ln c.li=ln j.ph) (r:Int):zN 252 [wJ j,yu c,iA r] [] (bA (VG j c r)) []:=by rw[kZ];exact U0 j u c hc r
def wc (j:Jn) (A:ln j.ph<=1000) (u:ln j.cf<=40) (c:Ct) (z:ln c.nx=2) (r:Int) (B:0<=r/\r<2) (t:Nat) (C:t<ln j.ph) (hx:c.nx.getD r.toNat dd= -1\/0<=c.nx.getD r.toNat dd):zN 251 [wJ j,yu c,iA r,iA (t:Int)] [] (iA (aU j c r t)) []:=by rw[kZ];exact S0 j A u c z r B t C hx
def Hz (c:Ct) (u:ln c.li<=25):zN 254 [yu c] [] (iA (LN c)) []:=by rw[kZ];exact W0 c u
theorem Jx (p:Nat->Bool):∀n,n<=25->(hH p n=0↔∀i,i<n->p i=false)
 |0,_=>⟨λ_ i h=>absurd h (zCm _),λ_=>rfl⟩
 | n+1,h=>by
  have z:=Jx p n zB;have hb:=VO p n zB;have A:=AQ n zB;unfold hH
  cases u:p n with
  |true=>
   rw[f5 Z];refine⟨λh=>by omega,λh=>?_⟩;have:=h n zB;rw[u]at this;cases this
  |false=>
   rw[Os yY,z];refine⟨λh i hi=>?_,λh i hi=>h i zB⟩;by_cases e:i=n
   .rw[e];exact u
   .exact h i zB
def Gz (c:Ct) (u:ln c.li<=25):zb c=decide (LN c=0):=by
 rw[zFa,zAx];unfold LN zb;rw[Jx _ _ u,zA5];constructor
 .intro h i hi;have:=h (xS c i) (by simp[xS,pi,hi])
  grind [zb,LN,RA]
 all_goals grind [zb,LN,List.getElem_of_mem,RA,xS,pi]
def zC:xW:= .box [.s (.slice none 0 0),iA 0,.s (.slice none 0 0),iA 0]
def vc (j:Jn) (t:Nat) (e:Bool) (i:Int) (c:Ct) (o:List Int):St:=⟨[(83,iA i),(2,iA t),(3,.ptr 3 0 0),(6,.ptr 6 0 0),(7,.ptr 3000 0 0)],WF e c o++[(3,.box [zE xN j.ph,zE iA j.cf,iA j.st]),(6,zC)]⟩
def eP (j:Jn) (e:Bool) (i:Int) (c:Ct) (o:List Int):St:=⟨[(129,iA i),(3,.ptr 3 0 0),(6,.ptr 6 0 0),(7,.ptr 3000 0 0)],WF e c o++[(3,.box [zE xN j.ph,zE iA j.cf,iA j.st]),(6,zC)]⟩
theorem Nl (j:Jn) (J:JV j) (c:Ct) (C:CV j c) (t:Int):zN 197 [wJ j,JM c,iA t] [] (JM (GH j c t)) []:=by
 have hn:=J.n;have R:j.ph.length<=1000:=by omega
 have c4:=J.c;have b9:=C.n;have cn:=C.m;have co:=C.w;have c8:=J.st;have c7:=zA xN j.ph;have cr:(c.li.map xE).length=j.ph.length:=by rw[zAr];exact b9
 have c6:(c.nx.map iA).length=2:=by rw[zAr];exact cn
 have k3:=Sh c zB zB;unfold GH;by_cases hw:0<c.wt
 .rw[f5 hw];refine eM call197 λF hF=>?_
  repeat' (first|(apply zG;first|(apply GF;refine uU (nw:=[3000]) (fJ tok 3000 Z Z) Z Z Z ?_)|refine uL tok Z Z ?_|(apply xP;(first|(refine vG 188 ?_;first|refine wM (zL (k3) Z Z Z Z Z) Z ?_|refine uU (zL (k3) Z Z Z Z Z) Z Z Z ?_|refine aF (zL (k3) Z Z Z Z Z) Z Z Z ?_)))|refine YU tok Z Z Z Z ?_|(apply dX;refine cO tok Z Z Z ?_)|refine WR NA ?_|apply kP)|first|refine SQ ?_|fail)
  refine WW ?_;exact zH [] Z Z (kZ ⟨c.li,c.gr,c.nx,c.wt-1⟩) Z
 rw[Os hw];have h0:c.wt=0:=by omega
 have CL:=om J C h0 t;have b5:=BI b9 t;have b6:=Ce j c t;rw[cr]at k3;have hN:∀i,((NU j c t i).map xE).length=j.ph.length:=λi=>by rw[zAr];exact PQ j c t i
 refine eM call197 λF hF=>?_
 repeat' (first|(apply zG;first|(apply GF;refine uU (nw:=[3000]) (fJ tok 3000 Z Z) Z Z Z ?_)|refine uL tok Z Z ?_|(apply xP;(first|(refine vG 188 ?_;first|refine wM (zL (k3) Z Z Z Z Z) Z ?_|refine uU (zL (k3) Z Z Z Z Z) Z Z Z ?_|refine aF (zL (k3) Z Z Z Z Z) Z Z Z ?_)))|refine YU tok Z Z Z Z ?_|(apply dX;refine cO tok Z Z Z ?_)|refine WR NA ?_|apply kP)|first|refine SQ ?_|fail)
 (repeat' (first|refine Yf ?_|apply yW|apply xI|intro hc|(apply zG;first|refine SM ?_)|fail))
 refine yD Z (xJ ?_);apply xY;refine eQ [3000,1001,1002,3,4,6] [2,3,4,6,7,8] ⟨[(2,iA t),(3,.ptr 3 0 0),(4,.ptr 4 0 0),(6,.ptr 6 0 0),(7,.ptr 3000 0 0),(8,bA (ZP j t))],[(3000,.box [.ref 1001 0 j.ph.length,iA c.gr,.ref 1002 0 (c.nx.map iA).length,iA c.wt]),(1001,.arr 2 (c.li.map xE) false),(1002,.arr 1 (c.nx.map iA) false),(3,.box [zE xN j.ph,zE iA j.cf,iA j.st]),(4,.box [zE xE c.li,iA c.gr,zE iA c.nx,iA c.wt]),(6,zC)]⟩ rfl ?_ ?_
 .clear k3 CL;by_cases a1:0<=t
  .by_cases a2:t<j.ph.length
   .rw[show ZP j t=true from zAu ⟨a1,a2⟩];refine WW ?_;exact⟨rfl,rfl⟩
   .rw[show ZP j t=false from zAs (λh=>a2 h.2)];refine WW ?_;exact⟨rfl,rfl⟩
  .rw[show ZP j t=false from zAs (λh=>a1 h.1)];refine WW ?_;exact⟨rfl,rfl⟩
 clear k3;refine WW ?_;refine zO (j.ph.length) [1001,3,6,3000,1002] [3,6,3000,1002] [2,3,6,7,8,38,39] [40,2,3,6,7,8,38,39] Z (λi T U=>⟨(40,iA i)::T,(1001,.arr 2 ((NU j c t i).map xE) false)::U⟩) ?_;(conv=>whnf);refine⟨by(rw[b5];rfl),?_,?_⟩
 .intro i hi;have hy:=zJ xN j.ph i hi
  change (j.ph.map xN)[i]? =some (xN (yF j i))at hy
  have cx:=zJ xE c.li i zB
  change (c.li.map xE)[i]? =some (xE (xS c i))at cx
  have cm:∃l,((NU j c t i).map xE)[i]? =some (xE l):=⟨_,zJ xE (NU j c t i) i (by rw[PQ];exact hi)⟩;obtain⟨lm,cm⟩:=cm;have da:=J.ti i hi;have db:=jm (C.k i hi) zB zB;have cv:Fx (yF j i):=⟨zB,zB,zB,zB⟩;have c3:=hN i;have ls:=λlv=>Bt (yF j i) cv zB ⟨zB,zB⟩ (xS c i) (C.k i hi) lv
  have ck:=jB j.cf zB i t;have es:=BJ j c t i;have em:(NU j c t (i+1)).map xE=((NU j c t i).map xE).set i (xE (BK (yF j i) (xS c i) (GG j c t i))):=by rw[es,zCe]
  rw[em];have ac:GG j c t i=_:=rfl
  conv at ac=>rhs;unfold GG
  have bl:=ls (GG j c t i);clear ls es em CL hN b5 b6;generalize BK (yF j i) (xS c i) (GG j c t i)=ln,(NU j c t i).map xE=xs at *;generalize GG j c t i=lv at *;generalize kK j.cf i t=cq at*
  cases ha:ZP j t with
  |false=>
   rw[ha]at ac;rw[Os yY]at ac;generalize yF j i=ph,xS c i=l at *;by_cases hm:ph.maxg<=l.tk+1
   .rw[zAu hm]at ac;subst ac;refine zS bl ?_;rfl
   .rw[zAs hm]at ac;subst ac;refine zS bl ?_;rfl
  | true=>
   rw[ha]at ac;rw[f5 Z]at ac;generalize yF j i=ph,xS c i=l at *;by_cases ci:(i:Int)=t
   .rw[zAs (λh=>h ci)]at ac;rw[zBt]at ac;subst ac;by_cases hm:ph.maxg<=l.tk+1
    all_goals
     (refine zS bl ?_)
     rfl
   rw[zAu ci,zA3]at ac;by_cases hm:ph.maxg<=l.tk+1
   .rw[zAu hm,zDe]at ac;subst ac;refine zS bl ?_;rfl
   .rw[zAs hm,zC5]at ac;rw[ac]at bl;clear ac
    cases cq with
    |true=>
     refine yG (xV ck bl) ?_;rfl
    |false=>
     refine yG (xV ck bl) ?_;rfl
 .rw [b6];have e1:((UV j c t).map xE).length=j.ph.length:=by simp[UV]
  have eH:∀x:List Li,x=UV j c t->(x.map xE).length=j.ph.length:=λx h=>by rw[h];exact e1
  clear b6 b5 hN;have a8:=CL.n;have a7:=CL.m
  cases ha:ZP j t with
  | true=>
   rw[f5 Z];unfold ZP at ha;rw[zAx]at ha;obtain⟨tn,rfl⟩:∃tn:Nat,t=tn:=⟨t.toNat,zB⟩;rw[zBf];generalize dc:tn=t at *;have ht:t<j.ph.length:=by omega
   obtain⟨u,ag⟩:∃u:Ct,u=⟨UV j c t,c.gr,c.nx,c.wt⟩:=⟨_,rfl⟩;rw[<-ag]at CL a8 a7;rw[show UV j c t=u.li by rw[ag]]at e1;rw[show UV j c t=u.li by rw[ag],show c.gr=u.gr by rw[ag],show c.nx=u.nx by rw[ag],show c.wt=u.wt by rw[ag]];rw[show(⟨u.li,u.gr,u.nx,u.wt⟩:Ct)=u from Z];have bs:u.wt=0:=by rw[ag];exact h0
   clear ag eH;have V:u.li.length=j.ph.length:=a8;have W:u.nx.length=2:=a7;have a6:=CL;obtain⟨I,bu⟩:=am J a6 bs ht 0;have E:=I.n;have G:=I.m;have b1:=vm J (c:=u) (r:=0) ht;have ap:u.gr=u.gr:=rfl;refine WW ?_;refine gY [3000,1001,1002,2001,3,6] [83,2,3,6,7] (vc j t false 0 u u.nx) (vc j t (decide ((jC j t u 0).gr≠u.gr)) 1 (jC j t u 0) u.nx) (vc j t (decide ((jC j t (jC j t u 0) 1).gr≠u.gr)) 2 (jC j t (jC j t u 0) 1) (if(jC j t u 0).gr=u.gr then(jC j t u 0).nx else u.nx)) Z (by unfold vc;rw[show WF false u u.nx=qW u 1002 from Z];unfold qW;rw[e1];rfl) ?_ ?_ ?_
   .unfold vc;clear b1 E G bu I;rw[show WF false u u.nx=qW u 1002 from Z];unfold qW;have hxv:=a6.v 0 zB;have cc:=wc j R zB u W 0 zB t ht Gk;have O:=cA j R u V 0;by_cases B:aU j u 0 t= -1
    .rw[B]at cc;rw[show jC j t u 0=u by unfold jC;rw[f5 B];split<;>rfl];rw[show decide (u.gr≠u.gr)=false from zAs (λh=>h ap)];clear O hxv B;refine zS cc ?_;rfl
    obtain⟨p,L,hp,b0⟩:=VF J (c:=u) (r:=0) ht B;rw[L]at cc
    cases hd:VG j u 0 with
    |false=>
     rw[hd]at O;rw[show jC j t u 0=u by unfold jC;rw[Os KZ]];rw[show decide (u.gr≠u.gr)=false from zAs (λh=>h ap)];clear hd B L hxv;refine yG (xV cc O) ?_;rfl
    |true=>
    rw[hd]at O;have z:jC j t u 0=uC j u p:=by unfold jC;rw[f5 hd,Os B,L,zBf]
    clear B L hxv hd;by_cases hk:dQ j u p=true\/u.gr=(yF j p).group
    .have cb:=bQ j J R zB u V W p hp (J.rg p hp) hk
     have az:(uC j u p).gr=u.gr:=by
      rcases jV j u p with h|h
      .exact(zBb Ct.gr h.2).trans ap
      .rcases hk with hk|hk
       .rw[hk]at h;cases h.1
       .exact h.2.trans (hk.symm.trans ap)
     rw[z,show decide ((uC j u p).gr≠u.gr)=false from zAs (λh=>h az)];generalize uC j u p=b at *;clear z az hk;unfold qW at cb;refine yG (qM cc O cb) ?_;rfl
    .have bd:dQ j u p=false:=by
      cases h:dQ j u p with
      |false=>rfl
      |true=>exact absurd (.inl h) hk
     have bf:u.gr≠(yF j p).group:=λh=>hk (.inr h)
     have cb:=BF j J R zB u V W p hp (J.rg p hp) bd bf
     have az:(uC j u p).gr≠u.gr:=by
      rcases jV j u p with h|h
      .rw[bd]at h;cases h.1
      .rw[h.2,<-ap];exact λh=>bf h.symm
     rw[z,show decide ((uC j u p).gr≠u.gr)=true from zAu az];generalize uC j u p=b at *;clear z az hk bd bf;unfold qW aK at cb;refine yG (qM cc O cb) ?_;rfl
   .clear V W ap;have cp:=b1;generalize jC j t u 0=A at *;unfold vc;by_cases S:A.gr=u.gr
    .rw [f5 S,zAs (λh=>h S)];rw[show WF false A u.nx=qW A 1002 from Z];unfold qW;have hxv:=I.v 1 zB;have cc:=wc j R zB A G 1 zB t ht Gk;have O:=cA j R A E 1;by_cases B:aU j A 1 t= -1
     .rw[B]at cc;rw[show jC j t A 1=A by unfold jC;rw[f5 B];split<;>rfl];rw[show decide (A.gr≠u.gr)=false from zAs (λh=>h S)];clear O hxv B;refine zS cc ?_;rfl
     obtain⟨p,L,hp,b0⟩:=VF J (c:=A) (r:=1) ht B;rw[L]at cc
     cases hd:VG j A 1 with
     |false=>
      rw[hd]at O;rw[show jC j t A 1=A by unfold jC;rw[Os KZ]];rw[show decide (A.gr≠u.gr)=false from zAs (λh=>h S)];clear hd B L hxv;refine yG (xV cc O) ?_;rfl
     |true=>
     rw[hd]at O;have z:jC j t A 1=uC j A p:=by unfold jC;rw[f5 hd,Os B,L,zBf]
     clear B L hxv hd;by_cases hk:dQ j A p=true\/A.gr=(yF j p).group
     .have cb:=bQ j J R zB A E G p hp (J.rg p hp) hk
      have az:(uC j A p).gr=u.gr:=by
       rcases jV j A p with h|h
       .exact(zBb Ct.gr h.2).trans S
       .rcases hk with hk|hk
        .rw[hk]at h;cases h.1
        .exact h.2.trans (hk.symm.trans S)
      rw[z,show decide ((uC j A p).gr≠u.gr)=false from zAs (λh=>h az)];generalize uC j A p=b at *;clear z az hk;unfold qW at cb;refine yG (qM cc O cb) ?_;rfl
     .have bd:dQ j A p=false:=by
       cases h:dQ j A p with
       |false=>rfl
       |true=>exact absurd (.inl h) hk
      have bf:A.gr≠(yF j p).group:=λh=>hk (.inr h)
      have cb:=BF j J R zB A E G p hp (J.rg p hp) bd bf
      have az:(uC j A p).gr≠u.gr:=by
       rcases jV j A p with h|h
       .rw[bd]at h;cases h.1
       .rw[h.2,<-S];exact λh=>bf h.symm
      rw[z,show decide ((uC j A p).gr≠u.gr)=true from zAu az];generalize uC j A p=b at *;clear z az hk bd bf;unfold qW aK at cb;refine yG (qM cc O cb) ?_;rfl
    .have ar:A.gr≠u.gr:=S
     have br:A.gr=(yF j t).group:=by
      rcases cp with h|h
      .exact absurd h ar
      .exact h
     rw[Os S,zAu ar];rw[show WF true A u.nx=aK A u.nx from Z];unfold aK;have hxv:=I.v 1 zB;have cc:=wc j R zB A G 1 zB t ht Gk;have O:=cA j R A E 1;by_cases B:aU j A 1 t= -1
     .rw[B]at cc;rw[show jC j t A 1=A by unfold jC;rw[f5 B];split<;>rfl];rw[show decide (A.gr≠u.gr)=true from zAu ar];clear O hxv B;refine zS cc ?_;rfl
     obtain⟨p,L,hp,b0⟩:=VF J (c:=A) (r:=1) ht B;rw[L]at cc
     cases hd:VG j A 1 with
     |false=>
      rw[hd]at O;rw[show jC j t A 1=A by unfold jC;rw[Os KZ]];rw[show decide (A.gr≠u.gr)=true from zAu ar];clear hd B L hxv;refine yG (xV cc O) ?_;rfl
     |true=>
     rw[hd]at O;have z:jC j t A 1=uC j A p:=by unfold jC;rw[f5 hd,Os B,L,zBf]
     clear B L hxv hd;have cb:=ZO j J R zB A E G p hp (J.rg p hp) (.inr (br.trans (b0:(yF j p).group=(yF j t).group).symm))
     have az:(uC j A p).gr≠u.gr:=by
      rcases jV j A p with h|h
      .rw[h.2];exact ar
      .rw[h.2,(b0:(yF j p).group=(yF j t).group),<-br];exact ar
     rw[z,show decide ((uC j A p).gr≠u.gr)=true from zAu az];generalize uC j A p=b at *;clear z az;unfold qW at cb;refine yG (qM cc O cb) ?_;rfl
   .generalize (if(jC j t u 0).gr=u.gr then(jC j t u 0).nx else u.nx)=o at *;generalize jC j t (jC j t u 0) 1=c2 at *;unfold vc;by_cases he:c2.gr=u.gr
    .rw[zAs (λh=>h he)];refine WW ?_;exact zH [] Z Z (kZ c2) Z
    .rw[zAu he];refine WW ?_;exact zH [] Z Z (kZ c2) Z
  | false=>
   rw[Os yY];obtain⟨u,ag⟩:∃u:Ct,u=⟨UV j c t,c.gr,c.nx,c.wt⟩:=⟨_,rfl⟩;rw[<-ag]at CL a8 a7;rw[show UV j c t=u.li by rw[ag]]at e1;rw[show UV j c t=u.li by rw[ag],show c.gr=u.gr by rw[ag],show c.nx=u.nx by rw[ag],show c.wt=u.wt by rw[ag]];rw[show(⟨u.li,u.gr,u.nx,u.wt⟩:Ct)=u from Z];have bs:u.wt=0:=by rw[ag];exact h0
   clear ag eH;have c5:=zA iA u.nx;have C:=CL;have cg:=Th j R J.gp;have ch:=PR J
   have ca:gM j<=4:=by
    have:∀n,n<=j.ph.length->Aa j.ph n<=4:=λn=>by
     induction n with
     |zero=>intro _;show(0:Int)<=4;omega
     |succ n ih=>
      intro h;have h1:=ih zB;have h2:=J.gp n zB;unfold yF at h2;unfold Aa;omega
    exact this _ (zAw _)
   have b7:=C.g;have ba:(u.gr+1).tmod (gM j)=(u.gr+1) % gM j:=zB1 zB;have hO:BG u u.nx.length=gj u:=by unfold BG gj;rw[zAt]
   have a9:BG u 0=decide (LN u=0):=by rw[<-Gz u zB];unfold BG;simp
   have ks:=Hz u zB;unfold yu at ks;rw[e1]at ks;have hxv:=λ(i:Nat) (hi:i<2)=>C.v i hi
   clear CL co hw;refine WW ?_;by_cases cj:LN u=0
   .have bz:decide (LN u=0)=true:=zAu cj;rw[bz]at a9;generalize LN u=se at *;refine zS ks ?_;refine zO (u.nx.length) [3,6,3000,1001,1002] [3,6,3000,1001,1002] [3,6,7,108,109] [14,110,3,6,7,108,109] Z (λi T U=>⟨(14,bA (BG u i))::(110,iA i)::T,U⟩) ?_;(conv=>whnf);refine⟨by(rw[a9];rfl),?_,?_⟩
    .intro i hi;have hy:=zJ iA u.nx i hi;have hx:=hxv i zB
     have cw:u.nx.getD i default= -1\/0<=u.nx.getD i default:=by rcases hx with h|h;exact .inl h;exact .inr h.1
     have es:=NT u i hi;rw[es];clear hxv hx es cg ks hO a9;generalize BG u i=o,u.nx.getD i default=x at *;by_cases hx:x= -1
     .rw[show(x== -1)=true by rw[zB8];exact hx,zDd]
      cases o with
      |false=>
       refine WW ?_;rfl
      |true=>
       refine WW ?_;rfl
     .rw[show(x== -1)=false by rw[zBm];exact hx,zCp]
      cases o with
      |false=>
       refine WW ?_;rfl
      |true=>
       refine WW ?_;rfl
    .rw [hO];clear a9 hO ks hxv
     cases bb:gj u with
     | true=>
      have a4:ub j u=vL j (vL j (QB j u ((u.gr+1) % gM j)) 0) 1:=by unfold ub;rw[f5 bb]
      rw[a4];have b3:0<=(u.gr+1) % gM j/\(u.gr+1) % gM j<gM j:=⟨zD0 _ zB,zDj _ zB⟩;have ax:=BO C b3;have b4:(QB j u ((u.gr+1) % gM j)).wt=0:=bs;have ce:=NR j R ((u.gr+1) % gM j) u.gr u.wt (u.li.map xE) (u.nx.map iA) j.ph.length (u.nx.map iA).length
      have bx:([(3000,.box [.ref 1001 0 j.ph.length,iA ((u.gr+1) % gM j),.ref 2001 0 2,iA u.wt]),(1001,.arr 2 (u.li.map xE) false),(1002,.arr 1 (u.nx.map iA) false),(2001,.arr 1 [iA (jH j 0 ((u.gr+1) % gM j) 0),iA (jH j 1 ((u.gr+1) % gM j) 0)] false)]:List (Nat×xW))=aK (QB j u ((u.gr+1) % gM j)) u.nx:=by
       unfold aK;rw[show((QB j u ((u.gr+1) % gM j)).li.map xE).length=j.ph.length from e1];rfl
      rw[bx]at ce;clear bx;rw[<-ba]at ce;rw[ba]at ce;generalize b2:QB j u ((u.gr+1) % gM j)=M at *;rw[<-ba]at ce;have cu:¬gM j=0:=by omega
      generalize gM j=gm at *;have a3:=ax.n;have a5:=ax.m;obtain⟨I,bu⟩:=ZQ J ax b4 (r:=0) zB;have E:=I.n;have G:=I.m
      change CV j (vL j M 0)at I
      change (vL j M 0).li.length=j.ph.length at E
      change (vL j M 0).nx.length=2 at G
      clear a4 b2 C;unfold aK at ce;refine yG (xV cg ce) ?_;refine gY [3000,1001,1002,2001,3,6] [129,3,6,7] (eP j true 0 M u.nx) (eP j true 1 (vL j M 0) u.nx) (eP j true 2 (vL j (vL j M 0) 1) u.nx) Z Z ?_ ?_ ?_
      .unfold eP;rw[show WF true M u.nx=aK M u.nx from Z];unfold aK;have O:=cA j R M a3 0;have av:=zJ iA M.nx 0 zB;have hv:=ax.v 0 zB;have bk:(M.nx.map iA).length=2:=by rw[zAr];exact a5
       cases hd:VG j M 0 with
       |false=>
        rw[hd]at O;rw[show vL j M 0=M by unfold vL;rw[Os QL]];clear hd;refine zS O ?_;rfl
       |true=>
       rw[hd]at O
       have z:vL j M 0=if M.nx.getD 0 default= -1 then M else uC j M (M.nx.getD 0 default).toNat:=by
        unfold vL;rw[hd]
        show(if true=true/\M.nx.getD 0 default≠ -1 then uC j M (M.nx.getD 0 default).toNat else M)=_
        by_cases h:M.nx.getD 0 default= -1
        .rw[f5 h,Os (λk=>k.2 h)]
        .rw[Os h,f5 ⟨rfl,h⟩]
       clear hd;by_cases B:M.nx.getD 0 default= -1
       .rw[f5 B]at z;rw[z];clear z hv;generalize M.nx.getD 0 default=x at *;refine zS O ?_;rfl
       .rw[Os B]at z
        have au:BL j (0:Nat) M.gr (M.nx.getD 0 default):=by
         rcases hv with h|h
         .exact absurd h B
         .exact h
        obtain⟨i1,i2,i3,Y⟩:=au;obtain⟨p,L⟩:∃p:Nat,M.nx.getD 0 default=p:=⟨(M.nx.getD 0 default).toNat,zB⟩;rw[L]at z av B i2 Y;rw[zBf]at z Y;have hp:p<j.ph.length:=by omega
        have cb:=ZO j J R zB M a3 a5 p hp (J.rg p hp) (.inr Y.symm);rw[z];clear z hv i1 i2 i3 Y L;generalize uC j M p=b at *;unfold qW at cb;refine yG (xV O cb) ?_;rfl
      .generalize vL j M 0=A at *;unfold eP;rw[show WF true A u.nx=aK A u.nx from Z];unfold aK;have O:=cA j R A E 1;have av:=zJ iA A.nx 1 zB;have hv:=I.v 1 zB;have bk:(A.nx.map iA).length=2:=by rw[zAr];exact G
       cases hd:VG j A 1 with
       |false=>
        rw[hd]at O;rw[show vL j A 1=A by unfold vL;rw[Os QL]];clear hd;refine zS O ?_;rfl
       |true=>
       rw[hd]at O
       have z:vL j A 1=if A.nx.getD 1 default= -1 then A else uC j A (A.nx.getD 1 default).toNat:=by
        unfold vL;rw[hd]
        show(if true=true/\A.nx.getD 1 default≠ -1 then uC j A (A.nx.getD 1 default).toNat else A)=_
        by_cases h:A.nx.getD 1 default= -1
        .rw[f5 h,Os (λk=>k.2 h)]
        .rw[Os h,f5 ⟨rfl,h⟩]
       clear hd;by_cases B:A.nx.getD 1 default= -1
       .rw[f5 B]at z;rw[z];clear z hv;generalize A.nx.getD 1 default=x at *;refine zS O ?_;rfl
       .rw[Os B]at z
        have au:BL j (1:Nat) A.gr (A.nx.getD 1 default):=by
         rcases hv with h|h
         .exact absurd h B
         .exact h
        obtain⟨i1,i2,i3,Y⟩:=au;obtain⟨p,L⟩:∃p:Nat,A.nx.getD 1 default=p:=⟨(A.nx.getD 1 default).toNat,zB⟩;rw[L]at z av B i2 Y;rw[zBf]at z Y;have hp:p<j.ph.length:=by omega
        have cb:=ZO j J R zB A E G p hp (J.rg p hp) (.inr Y.symm);rw[z];clear z hv i1 i2 i3 Y L;generalize uC j A p=b at *;unfold qW at cb;refine yG (xV O cb) ?_;rfl
      .generalize vL j (vL j M 0) 1=c2 at *;unfold eP;refine WW ?_;exact zH [] Z Z (kZ c2) Z
     | false=>
      have a4:ub j u=vL j (vL j u 0) 1:=by unfold ub;rw[Os (by rw[bb];decide)]
      rw[a4];clear cg ba a4 ch ca b7;have a6:=C;have V:=a8;have W:=a7;obtain⟨I,bu⟩:=ZQ J C bs (r:=0) zB;have E:=I.n;have G:=I.m
      change CV j (vL j u 0)at I
      change (vL j u 0).li.length=j.ph.length at E
      change (vL j u 0).nx.length=2 at G
      clear bb;refine WW ?_;refine gY [3000,1001,1002,2001,3,6] [129,3,6,7] (eP j false 0 u u.nx) (eP j false 1 (vL j u 0) u.nx) (eP j false 2 (vL j (vL j u 0) 1) u.nx) Z (by unfold eP;rw[show WF false u u.nx=qW u 1002 from Z];unfold qW;rw[e1];rfl) ?_ ?_ ?_
      .unfold eP;rw[show WF false u u.nx=qW u 1002 from Z];unfold qW;have O:=cA j R u V 0;have av:=zJ iA u.nx 0 zB;have hv:=a6.v 0 zB;have bk:(u.nx.map iA).length=2:=by rw[zAr];exact W
       cases hd:VG j u 0 with
       |false=>
        rw[hd]at O;rw[show vL j u 0=u by unfold vL;rw[Os QL]];clear hd;refine zS O ?_;rfl
       |true=>
       rw[hd]at O
       have z:vL j u 0=if u.nx.getD 0 default= -1 then u else uC j u (u.nx.getD 0 default).toNat:=by
        unfold vL;rw[hd]
        show(if true=true/\u.nx.getD 0 default≠ -1 then uC j u (u.nx.getD 0 default).toNat else u)=_
        by_cases h:u.nx.getD 0 default= -1
        .rw[f5 h,Os (λk=>k.2 h)]
        .rw[Os h,f5 ⟨rfl,h⟩]
       clear hd;by_cases B:u.nx.getD 0 default= -1
       .rw[f5 B]at z;rw[z];clear z hv;generalize u.nx.getD 0 default=x at *;refine zS O ?_;rfl
       .rw[Os B]at z
        have au:BL j (0:Nat) u.gr (u.nx.getD 0 default):=by
         rcases hv with h|h
         .exact absurd h B
         .exact h
        obtain⟨i1,i2,i3,Y⟩:=au;obtain⟨p,L⟩:∃p:Nat,u.nx.getD 0 default=p:=⟨(u.nx.getD 0 default).toNat,zB⟩;rw[L]at z av B i2 Y;rw[zBf]at z Y;have hp:p<j.ph.length:=by omega
        have cb:=bQ j J R zB u V W p hp (J.rg p hp) (.inr Y.symm);rw[z];clear z hv i1 i2 i3 Y L;generalize uC j u p=b at *;unfold qW at cb;refine yG (xV O cb) ?_;rfl
      .generalize vL j u 0=A at *;unfold eP;rw[show WF false A u.nx=qW A 1002 from Z];unfold qW;have O:=cA j R A E 1;have av:=zJ iA A.nx 1 zB;have hv:=I.v 1 zB;have bk:(A.nx.map iA).length=2:=by rw[zAr];exact G
       cases hd:VG j A 1 with
       |false=>
        rw[hd]at O;rw[show vL j A 1=A by unfold vL;rw[Os QL]];clear hd;refine zS O ?_;rfl
       |true=>
       rw[hd]at O
       have z:vL j A 1=if A.nx.getD 1 default= -1 then A else uC j A (A.nx.getD 1 default).toNat:=by
        unfold vL;rw[hd]
        show(if true=true/\A.nx.getD 1 default≠ -1 then uC j A (A.nx.getD 1 default).toNat else A)=_
        by_cases h:A.nx.getD 1 default= -1
        .rw[f5 h,Os (λk=>k.2 h)]
        .rw[Os h,f5 ⟨rfl,h⟩]
       clear hd;by_cases B:A.nx.getD 1 default= -1
       .rw[f5 B]at z;rw[z];clear z hv;generalize A.nx.getD 1 default=x at *;refine zS O ?_;rfl
       .rw[Os B]at z
        have au:BL j (1:Nat) A.gr (A.nx.getD 1 default):=by
         rcases hv with h|h
         .exact absurd h B
         .exact h
        obtain⟨i1,i2,i3,Y⟩:=au;obtain⟨p,L⟩:∃p:Nat,A.nx.getD 1 default=p:=⟨(A.nx.getD 1 default).toNat,zB⟩;rw[L]at z av B i2 Y;rw[zBf]at z Y;have hp:p<j.ph.length:=by omega
        have cb:=bQ j J R zB A E G p hp (J.rg p hp) (.inr Y.symm);rw[z];clear z hv i1 i2 i3 Y L;generalize uC j A p=b at *;unfold qW at cb;refine yG (xV O cb) ?_;rfl
      .generalize vL j (vL j u 0) 1=c2 at *;unfold eP;refine WW ?_;exact zH [] Z Z (kZ c2) Z
   .have bz:decide (LN u=0)=false:=zAs cj;rw[bz]at a9;generalize LN u=se at *;refine zS ks ?_;refine zO (u.nx.length) [3,6,3000,1001,1002] [3,6,3000,1001,1002] [3,6,7,108,109] [14,110,3,6,7,108,109] Z (λi T U=>⟨(14,bA (BG u i))::(110,iA i)::T,U⟩) ?_;(conv=>whnf);refine⟨by(rw[a9];rfl),?_,?_⟩
    .intro i hi;have hy:=zJ iA u.nx i hi;have hx:=hxv i zB
     have cw:u.nx.getD i default= -1\/0<=u.nx.getD i default:=by rcases hx with h|h;exact .inl h;exact .inr h.1
     have es:=NT u i hi;rw[es];clear hxv hx es cg ks hO a9;generalize BG u i=o,u.nx.getD i default=x at *;by_cases hx:x= -1
     .rw[show(x== -1)=true by rw[zB8];exact hx,zDd]
      cases o with
      |false=>
       refine WW ?_;rfl
      |true=>
       refine WW ?_;rfl
     .rw[show(x== -1)=false by rw[zBm];exact hx,zCp]
      cases o with
      |false=>
       refine WW ?_;rfl
      |true=>
       refine WW ?_;rfl
    .rw [hO];clear a9 hO ks hxv
     cases bb:gj u with
     | true=>
      have a4:ub j u=vL j (vL j (QB j u ((u.gr+1) % gM j)) 0) 1:=by unfold ub;rw[f5 bb]
      rw[a4];have b3:0<=(u.gr+1) % gM j/\(u.gr+1) % gM j<gM j:=⟨zD0 _ zB,zDj _ zB⟩;have ax:=BO C b3;have b4:(QB j u ((u.gr+1) % gM j)).wt=0:=bs;have ce:=NR j R ((u.gr+1) % gM j) u.gr u.wt (u.li.map xE) (u.nx.map iA) j.ph.length (u.nx.map iA).length
      have bx:([(3000,.box [.ref 1001 0 j.ph.length,iA ((u.gr+1) % gM j),.ref 2001 0 2,iA u.wt]),(1001,.arr 2 (u.li.map xE) false),(1002,.arr 1 (u.nx.map iA) false),(2001,.arr 1 [iA (jH j 0 ((u.gr+1) % gM j) 0),iA (jH j 1 ((u.gr+1) % gM j) 0)] false)]:List (Nat×xW))=aK (QB j u ((u.gr+1) % gM j)) u.nx:=by
       unfold aK;rw[show((QB j u ((u.gr+1) % gM j)).li.map xE).length=j.ph.length from e1];rfl
      rw[bx]at ce;clear bx;rw[<-ba]at ce;rw[ba]at ce;generalize b2:QB j u ((u.gr+1) % gM j)=M at *;rw[<-ba]at ce;have cu:¬gM j=0:=by omega
      generalize gM j=gm at *;have a3:=ax.n;have a5:=ax.m;obtain⟨I,bu⟩:=ZQ J ax b4 (r:=0) zB;have E:=I.n;have G:=I.m
      change CV j (vL j M 0)at I
      change (vL j M 0).li.length=j.ph.length at E
      change (vL j M 0).nx.length=2 at G
      clear a4 b2 C;unfold aK at ce;refine yG (xV cg ce) ?_;refine gY [3000,1001,1002,2001,3,6] [129,3,6,7] (eP j true 0 M u.nx) (eP j true 1 (vL j M 0) u.nx) (eP j true 2 (vL j (vL j M 0) 1) u.nx) Z Z ?_ ?_ ?_
      .unfold eP;rw[show WF true M u.nx=aK M u.nx from Z];unfold aK;have O:=cA j R M a3 0;have av:=zJ iA M.nx 0 zB;have hv:=ax.v 0 zB;have bk:(M.nx.map iA).length=2:=by rw[zAr];exact a5
       cases hd:VG j M 0 with
       |false=>
        rw[hd]at O;rw[show vL j M 0=M by unfold vL;rw[Os QL]];clear hd;refine zS O ?_;rfl
       |true=>
       rw[hd]at O
       have z:vL j M 0=if M.nx.getD 0 default= -1 then M else uC j M (M.nx.getD 0 default).toNat:=by
        unfold vL;rw[hd]
        show(if true=true/\M.nx.getD 0 default≠ -1 then uC j M (M.nx.getD 0 default).toNat else M)=_
        by_cases h:M.nx.getD 0 default= -1
        .rw[f5 h,Os (λk=>k.2 h)]
        .rw[Os h,f5 ⟨rfl,h⟩]
       clear hd;by_cases B:M.nx.getD 0 default= -1
       .rw[f5 B]at z;rw[z];clear z hv;generalize M.nx.getD 0 default=x at *;refine zS O ?_;rfl
       .rw[Os B]at z
        have au:BL j (0:Nat) M.gr (M.nx.getD 0 default):=by
         rcases hv with h|h
         .exact absurd h B
         .exact h
        obtain⟨i1,i2,i3,Y⟩:=au;obtain⟨p,L⟩:∃p:Nat,M.nx.getD 0 default=p:=⟨(M.nx.getD 0 default).toNat,zB⟩;rw[L]at z av B i2 Y;rw[zBf]at z Y;have hp:p<j.ph.length:=by omega
        have cb:=ZO j J R zB M a3 a5 p hp (J.rg p hp) (.inr Y.symm);rw[z];clear z hv i1 i2 i3 Y L;generalize uC j M p=b at *;unfold qW at cb;refine yG (xV O cb) ?_;rfl
      .generalize vL j M 0=A at *;unfold eP;rw[show WF true A u.nx=aK A u.nx from Z];unfold aK;have O:=cA j R A E 1;have av:=zJ iA A.nx 1 zB;have hv:=I.v 1 zB;have bk:(A.nx.map iA).length=2:=by rw[zAr];exact G
       cases hd:VG j A 1 with
       |false=>
        rw[hd]at O;rw[show vL j A 1=A by unfold vL;rw[Os QL]];clear hd;refine zS O ?_;rfl
       |true=>
       rw[hd]at O
       have z:vL j A 1=if A.nx.getD 1 default= -1 then A else uC j A (A.nx.getD 1 default).toNat:=by
        unfold vL;rw[hd]
        show(if true=true/\A.nx.getD 1 default≠ -1 then uC j A (A.nx.getD 1 default).toNat else A)=_
        by_cases h:A.nx.getD 1 default= -1
        .rw[f5 h,Os (λk=>k.2 h)]
        .rw[Os h,f5 ⟨rfl,h⟩]
       clear hd;by_cases B:A.nx.getD 1 default= -1
       .rw[f5 B]at z;rw[z];clear z hv;generalize A.nx.getD 1 default=x at *;refine zS O ?_;rfl
       .rw[Os B]at z
        have au:BL j (1:Nat) A.gr (A.nx.getD 1 default):=by
         rcases hv with h|h
         .exact absurd h B
         .exact h
        obtain⟨i1,i2,i3,Y⟩:=au;obtain⟨p,L⟩:∃p:Nat,A.nx.getD 1 default=p:=⟨(A.nx.getD 1 default).toNat,zB⟩;rw[L]at z av B i2 Y;rw[zBf]at z Y;have hp:p<j.ph.length:=by omega
        have cb:=ZO j J R zB A E G p hp (J.rg p hp) (.inr Y.symm);rw[z];clear z hv i1 i2 i3 Y L;generalize uC j A p=b at *;unfold qW at cb;refine yG (xV O cb) ?_;rfl
      .generalize vL j (vL j M 0) 1=c2 at *;unfold eP;refine WW ?_;exact zH [] Z Z (kZ c2) Z
     | false=>
      have a4:ub j u=vL j (vL j u 0) 1:=by unfold ub;rw[Os (by rw[bb];decide)]
      rw[a4];clear cg ba a4 ch ca b7;have a6:=C;have V:=a8;have W:=a7;obtain⟨I,bu⟩:=ZQ J C bs (r:=0) zB;have E:=I.n;have G:=I.m
      change CV j (vL j u 0)at I
      change (vL j u 0).li.length=j.ph.length at E
      change (vL j u 0).nx.length=2 at G
      clear bb;refine WW ?_;refine gY [3000,1001,1002,2001,3,6] [129,3,6,7] (eP j false 0 u u.nx) (eP j false 1 (vL j u 0) u.nx) (eP j false 2 (vL j (vL j u 0) 1) u.nx) Z (by unfold eP;rw[show WF false u u.nx=qW u 1002 from Z];unfold qW;rw[e1];rfl) ?_ ?_ ?_
      .unfold eP;rw[show WF false u u.nx=qW u 1002 from Z];unfold qW;have O:=cA j R u V 0;have av:=zJ iA u.nx 0 zB;have hv:=a6.v 0 zB;have bk:(u.nx.map iA).length=2:=by rw[zAr];exact W
       cases hd:VG j u 0 with
       |false=>
        rw[hd]at O;rw[show vL j u 0=u by unfold vL;rw[Os QL]];clear hd;refine zS O ?_;rfl
       |true=>
       rw[hd]at O
       have z:vL j u 0=if u.nx.getD 0 default= -1 then u else uC j u (u.nx.getD 0 default).toNat:=by
        unfold vL;rw[hd]
        show(if true=true/\u.nx.getD 0 default≠ -1 then uC j u (u.nx.getD 0 default).toNat else u)=_
        by_cases h:u.nx.getD 0 default= -1
        .rw[f5 h,Os (λk=>k.2 h)]
        .rw[Os h,f5 ⟨rfl,h⟩]
       clear hd;by_cases B:u.nx.getD 0 default= -1
       .rw[f5 B]at z;rw[z];clear z hv;generalize u.nx.getD 0 default=x at *;refine zS O ?_;rfl
       .rw[Os B]at z
        have au:BL j (0:Nat) u.gr (u.nx.getD 0 default):=by
         rcases hv with h|h
         .exact absurd h B
         .exact h
        obtain⟨i1,i2,i3,Y⟩:=au;obtain⟨p,L⟩:∃p:Nat,u.nx.getD 0 default=p:=⟨(u.nx.getD 0 default).toNat,zB⟩;rw[L]at z av B i2 Y;rw[zBf]at z Y;have hp:p<j.ph.length:=by omega
        have cb:=bQ j J R zB u V W p hp (J.rg p hp) (.inr Y.symm);rw[z];clear z hv i1 i2 i3 Y L;generalize uC j u p=b at *;unfold qW at cb;refine yG (xV O cb) ?_;rfl
      .generalize vL j u 0=A at *;unfold eP;rw[show WF false A u.nx=qW A 1002 from Z];unfold qW;have O:=cA j R A E 1;have av:=zJ iA A.nx 1 zB;have hv:=I.v 1 zB;have bk:(A.nx.map iA).length=2:=by rw[zAr];exact G
       cases hd:VG j A 1 with
       |false=>
        rw[hd]at O;rw[show vL j A 1=A by unfold vL;rw[Os QL]];clear hd;refine zS O ?_;rfl
       |true=>
       rw[hd]at O
       have z:vL j A 1=if A.nx.getD 1 default= -1 then A else uC j A (A.nx.getD 1 default).toNat:=by
        unfold vL;rw[hd]
        show(if true=true/\A.nx.getD 1 default≠ -1 then uC j A (A.nx.getD 1 default).toNat else A)=_
        by_cases h:A.nx.getD 1 default= -1
        .rw[f5 h,Os (λk=>k.2 h)]
        .rw[Os h,f5 ⟨rfl,h⟩]
       clear hd;by_cases B:A.nx.getD 1 default= -1
       .rw[f5 B]at z;rw[z];clear z hv;generalize A.nx.getD 1 default=x at *;refine zS O ?_;rfl
       .rw[Os B]at z
        have au:BL j (1:Nat) A.gr (A.nx.getD 1 default):=by
         rcases hv with h|h
         .exact absurd h B
         .exact h
        obtain⟨i1,i2,i3,Y⟩:=au;obtain⟨p,L⟩:∃p:Nat,A.nx.getD 1 default=p:=⟨(A.nx.getD 1 default).toNat,zB⟩;rw[L]at z av B i2 Y;rw[zBf]at z Y;have hp:p<j.ph.length:=by omega
        have cb:=bQ j J R zB A E G p hp (J.rg p hp) (.inr Y.symm);rw[z];clear z hv i1 i2 i3 Y L;generalize uC j A p=b at *;unfold qW at cb;refine yG (xV O cb) ?_;rfl
      .generalize vL j (vL j u 0) 1=c2 at *;unfold eP;refine WW ?_;exact zH [] Z Z (kZ c2) Z
def Xh (j:Jn) (G:ln j.ph<=1000) (g R M:Int) (L:List AV) (I:Nat):zN 214 [wJ j,.ptr 3000 0 0,iA g] [(3000,.box [.ref 1001 0 I,iA R,.s (.slice none 0 0),iA M]),(1001,.arr 2 L false)] (.tup [])
  [(3000,.box [.ref 1001 0 I,iA g,.ref 2001 0 2,iA M]),(1001,.arr 2 L false),(2001,.arr 1 [iA (jH j 0 g 0),iA (jH j 1 g 0)] false)]:=by
 have C:=aJ j G 0 g (-1);have E:=aJ j G 1 g (-1);rw[show(-1:Int)+1=0 by omega]at C E;generalize jH j 0 g 0=u,jH j 1 g 0=z at *;obtain⟨B,A⟩:∃n:Nat,n=2:=⟨2,rfl⟩;refine eM call214 λF hF=>?_
 refine WW ?_;refine zQ 6 2001 1 Z Z Z ?_;refine zO (B) [2001,3,3000,1001] [3,3000,1001] [1,2,3] [6,8,1,2,3] Z (λi T U=>⟨(6,.ref 2001 0 (Nr u z i).length)::(8,iA i)::T,(2001,.arr 1 (Nr u z i) (i != 1))::U⟩) (Lq ?_ ?_)
 .intro i hi;have:i=0\/i=1:=by omega
  rcases this with rfl|rfl
  .have hl:(Nr u z 0).length=0:=rfl;refine zS C ?_;rfl
  .have hl:(Nr u z 1).length=1:=rfl;refine zS E ?_;rfl
 .have O:Nr u z B=[iA u,iA z]:=by rw[A];rfl
  have e3:(B != 1)=true:=by rw[A];rfl
  rw[O,e3]
  (repeat' (first|refine Yf ?_|apply yW|apply xI|intro hc|(apply zG;first|refine SM ?_)|fail))
  refine yD Z (xQ ?_);refine kF 2001 [6] Z Z Z Z Z ?_;refine WW ?_;exact uW [3000,1001,2001] Z Z Z Z
def Lt (j:Jn) (C:ln j.ph<=1000):zN 158 [wJ j] [] (JM (Uh j)) []:=by
 have z:=zA xN j.ph;have u:=Xh j C 0 0 j.st ((pb (ln j.ph) (⟨0,0⟩:Li)).map xE) ((pb (ln j.ph) (⟨0,0⟩:Li)).map xE).length;have A:(pb (ln j.ph) (⟨0,0⟩:Li)).map xE=pb (ln j.ph) (xE ⟨0,0⟩):=zEf;have eN:((pb (ln j.ph) (⟨0,0⟩:Li)).map xE).length=ln j.ph:=by simp
 rw[eN,A]at u;rw[<-z]at u;refine eM call158 λF hF=>?_
 repeat' (first|(apply zG;first|(apply Gl;refine uU (nw:=[3000]) (fJ tok 3000 Z Z) Z Z Z ?_)|refine uL tok Z Z ?_|(apply fP;refine bD 1001 tok Z Z Z Z Z Z Z Z Z Z Z Z Z zB zB Z Z Z ?_)|refine YU tok Z Z Z Z ?_|(apply xP;(first|(refine vG 214 ?_;first|refine wM (zL (u) Z Z Z Z Z) Z ?_|refine uU (zL (u) Z Z Z Z Z) Z Z Z ?_|refine aF (zL (u) Z Z Z Z Z) Z Z Z ?_)))|(apply dX;refine cO tok Z Z Z ?_)|refine WR NA ?_|apply kP)|first|refine SQ ?_|fail)
 have B:AV.agg [.sl false ((pb (j.ph.map xN).length (xE ⟨0,0⟩)).take (j.ph.map xN).length),iA 0,.sl false [iA (jH j 0 0 0),iA (jH j 1 0 0)],iA j.st]=JM (Uh j):=by
  rw[zA1 zV,z,<-A];rfl
 exact zH [] Z Z B Z
structure Sg where
 c:Ct
 lat:Bool
def vE (s:Sg):AV:= .agg [zE xE s.c.li,iA s.c.gr,zE iA s.c.nx,iA s.c.wt,bA s.lat]
def fN (j:Jn):Sg:=⟨Uh j,false⟩
def Ke (j:Jn) (s:Sg) (t k:Int):Sg:=if s.lat=true then s else⟨GH j s.c t,Al j.cf (bP (GH j s.c t).li k)⟩
def Qr (j:Jn) (s:Sg):Sg:=if s.lat=true then fN j else s
def CZ {α:Type} (f:α->AV) (l:List α):AV.sl false ((l.map f).take (l.map f).length)=zE f l:=by rw[zAt];rfl
def JJ (l:List Int) (hl:ln l<=1073741824):zN 111 [zE iA l] [] (zE iA l) []:=by
 have u:=zA iA l;refine eM call111 λF hF=>?_
 refine xH 0 Z (λcap hx=>?_) ?_
 .have:l=[]:=by simpa using hx
  subst this;exact ly
 ·(refine WW ?_)
  refine zH [] Z Z (CZ _ _) Z
def JK (l:List Li) (hl:ln l<=1073741824):zN 172 [zE xE l] [] (zE xE l) []:=by
 have u:=zA xE l;refine eM call172 λF hF=>?_
 refine xH 0 Z (λcap hx=>?_) ?_
 .have:l=[]:=by simpa using hx
  subst this;exact ly
 ·(refine WW ?_)
  refine zH [] Z Z (CZ _ _) Z
def BA (s:Sg) (h1:ln s.c.li<=1073741824) (h2:ln s.c.nx<=1073741824):zN 116 [vE s] [] (vE s) []:=by
 have u:=JK s.c.li h1;have z:=JJ s.c.nx h2;refine eM call116 λF hF=>?_
 exact mx (xV u z)
def Ml (c:Ct) (h1:ln c.li<=1000) (h2:ln c.nx<=1000):zN 188 [JM c] [] (JM c) []:=by
 have hl:=zA xE c.li;have u:=zA iA c.nx;refine eM call188 λF hF=>?_
 exact nl
def PL (s:Sg) (h1:ln s.c.li<=1000) (h2:ln s.c.nx<=1000):zN 126 [vE s] [] (vE s) []:=by
 have u:=Ml s.c h1 h2;refine eM call126 λF hF=>?_
 exact ng u
def Fz (j:Jn) (J:JV j):zN 81 [wJ j] [] (vE (fN j)) []:=by
 have u:=Bz j DX;unfold fN;generalize Uh j=c at *;refine eM call81 λF hF=>?_
 exact ng u
def Je (j:Jn) (J:JV j):zN 86 [wJ j] [] (vE (fN j)) []:=by
 have u:=Lt j DX;unfold fN;generalize Uh j=c at *;refine eM call86 λF hF=>?_
 exact ng u
def Kt (j:Jn) (J:JV j) (s:Sg) (C:CV j s.c) (t k:Int):zN 180 [wJ j,vE s,iA t,iA k] [] (vE (Ke j s t k)) []:=by
 have I:=J.n;have hc:=J.c;have M:=C.n;have L:=C.m;have A:=BA s zB zB;have B:=M0 j J s.c C t;have z:=rm J C t;have E:=o0 (GH j s.c t).li (by have:=z.n;omega) k;have G:=Z0 j.cf (bP (GH j s.c t).li k) zB (by rw[BD];have:=z.n;omega);unfold Ke;generalize Al j.cf (bP (GH j s.c t).li k)=f at *;generalize bP (GH j s.c t).li k=O at *;generalize GH j s.c t=c at *;obtain⟨R,u⟩:=s
 cases u with
 |true=>
  rw[f5 Z];refine eM call180 λF hF=>?_
  exact ng A
 |false=>
  rw[Os zA7];refine eM call180 λF hF=>?_
  exact mx (qM B E G)
def Ll (j:Jn) (J:JV j) (s:Sg) (C:CV j s.c) (t k:Int):zN 135 [wJ j,vE s,iA t,iA k] [] (vE (Ke j s t k)) []:=by
 have I:=J.n;have hc:=J.c;have M:=C.n;have L:=C.m;have A:=PL s zB zB;have B:=Nl j J s.c C t;have z:=rm J C t;have E:=Ft (GH j s.c t).li (by have:=z.n;omega) k;have G:=Et j.cf (bP (GH j s.c t).li k) zB (by rw[BD];have:=z.n;omega);unfold Ke;generalize Al j.cf (bP (GH j s.c t).li k)=f at *;generalize bP (GH j s.c t).li k=O at *;generalize GH j s.c t=c at *;obtain⟨R,u⟩:=s
 cases u with
 |true=>
  rw[f5 Z];refine eM call135 λF hF=>?_
  exact ng A
 |false=>
  rw[Os zA7];refine eM call135 λF hF=>?_
  exact mx (qM B E G)
def Kl (j:Jn) (J:JV j) (s:Sg) (h1:ln s.c.li<=1073741824) (h2:ln s.c.nx<=1073741824):zN 47 [wJ j,vE s] [] (.tup [vE (Qr j s),bA s.lat]) []:=by
 have A:=BA s h1 h2;have B:=Fz j J;unfold Qr;generalize fN j=z at *;obtain⟨C,u⟩:=s
 cases u with
 |true=>
  rw[f5 Z];refine eM call47 λF hF=>?_
  exact ng B
 |false=>
  rw[Os zA7];refine eM call47 λF hF=>?_
  exact ng A
def Wh (j:Jn) (J:JV j) (s:Sg) (h1:ln s.c.li<=1000) (h2:ln s.c.nx<=1000):zN 57 [wJ j,vE s] [] (.tup [vE (Qr j s),bA s.lat]) []:=by
 have A:=PL s h1 h2;have B:=Je j J;unfold Qr;generalize fN j=z at *;obtain⟨C,u⟩:=s
 cases u with
 |true=>
  rw[f5 Z];refine eM call57 λF hF=>?_
  exact ng B
 |false=>
  rw[Os zA7];refine eM call57 λF hF=>?_
  exact ng A
def ph0:Ph:=⟨0,0,2,3,1,1,0,0⟩
def j0:Jn:=⟨[ph0,ph0],[2,1],0⟩
def two {p:Nat} (h:p<ln j0.ph):p=0\/p=1:=by
 have:ln j0.ph=2:=rfl;omega
theorem Ez {j:Jn} (J:JV j) {s:Sg} (C:CV j s.c) (t k:Int):CV j (Ke j s t k).c:=by grind [Ke,rm]
def G9 {j:Jn} (J:JV j) {s:Sg} (C:CV j s.c):CV j (Qr j s).c:=by
 unfold Qr;split
 .exact Hl J
 .exact C
def ph1:Ph:=⟨0,0,2,3,1,0,0,0⟩
def j1:Jn:=⟨[ph1,ph1],[2,1],0⟩
def WG {p q:Prop} (k:q) (h:aV q->p:=by(intro u;(repeat' (first|refine aM ?_|refine yW (λhc=>?_) λhc=>?_|fail));exact u.h)):p:=h ⟨k⟩
def WO {p q:Prop} (k:q) (h:aV q->p:=by(intro u;(repeat' (first|refine aM ?_|refine yW (λhc=>?_) λhc=>?_|fail));exact u.h)):p:=h ⟨k⟩
def ny{p:Prop}(h:p:=by(refine WO ?_;exact zI)):p:=h
def e1 (d:Dk) (f3:Int):Int:=[-1,0,max (-1) (f3-nx d 6)].getD (nx (ad d) 3).toNat 0
def d0 (xs:List Int) (hl:ln xs<=9223372036854775807):Dk:=⟨xs,0,zA9 _,hl⟩
def cK (z:List Int) (u:Int):Int:=if u<0\/(ln z:Int)<=u then -1 else z.getD u.toNat 0
def cI (k:Int):Bool:=k==2||k==3
def jU (u:List Int) (z A:Int):Int:=max A (cK u z)
def PM (s:Sv) (c:Cl):zN 313 [wW s,kE c] [] (iA (cK s.en c.ph)) []:=by
 have hl:(s.en.map iA).length=ln s.en:=by simp
 by_cases h1:c.ph<0
 .rw[show cK s.en c.ph= -1 by simp[cK,h1]];refine eM call313 λF hF=>?_
  exact ny
 .by_cases h2:(ln s.en:Int)<=c.ph
  .rw[show cK s.en c.ph= -1 by simp[cK,h2]];refine eM call313 λF hF=>?_
   exact ny
  .rw[show cK s.en c.ph=s.en.getD c.ph.toNat 0 by unfold cK;rw[Os zB]];have u:=yE iA s.en c.ph zB zB;refine eM call313 λF hF=>?_
   exact ny
def jG (c:Cl):zN 277 [kE c] [] (bA (cI c.k)) []:=by
 unfold cI;by_cases h:c.k=2
 .rw[show(c.k==2||c.k==3)=true by simp[h]];refine eM call277 λF hF=>?_
  exact ny
 .rw[show(c.k==2||c.k==3)=(c.k==3) by simp[h]];refine eM call277 λF hF=>?_
  exact ny
def UT (s:Sv) (c:Cl):zN 315 [wW s,kE c] [] (iA (jU s.en c.ph c.si)) []:=by
 refine eM call315 λF hF=>?_
 (repeat' (first|refine aM ?_|refine yW (λhc=>?_) λhc=>?_|(apply zG;apply xP;refine wM (zL (PM ⟨_,_,_⟩ ⟨_,_,_,_,_⟩) Z Z Z Z Z) Z ?_)|fail))
 exact zI
def uc (n d:Int) (hd:1<=d) (u:n.tmod d=0):n.tdiv d=n/d:=by grind [Int.tmod_add_mul_tdiv,Int.ediv_eq_of_eq_mul_right]
def GE (n d:Int) (G:n<0) (hd:1<=d) (E:n.tmod d≠0):n.tdiv d-1=n/d:=by
 have h1:=Int.tmod_add_mul_tdiv n d;have u:n.tmod d= -((-n).tmod d):=by rw[Int.neg_tmod];omega
 have A: -d<n.tmod d:=by
  have:=zFq (-n) (show 0<d by omega);omega
 have B:n.tmod d<=0:=by
  have:=zF8 d (show 0<= -n by omega);omega
 clear u;have z:n=d*(n.tdiv d-1)+(n.tmod d+d):=by rw[Int.mul_sub];omega
 generalize n.tdiv d=q,n.tmod d=r at *
 have C:n/d=q-1:=by
  rw[z,Int.mul_add_ediv_left _ _ zB,Int.ediv_eq_zero_of_lt zB zB];omega
 omega
def Ie (n d:Int) (hd:1<=d) (h1: -4611686018427387904<=n) (h2:n<=4611686018427387904): -4611686018427387904<=n.tdiv d/\n.tdiv d<=4611686018427387904:=by
 by_cases h:0<=n
 .have:=IntWalk.tdiv_le n d h hd
  grind
 .have u:n.tdiv d= -((-n).tdiv d):=by rw[Int.neg_tdiv];omega
  have:=IntWalk.tdiv_le (-n) d zB hd
  grind
def VC (n d:Int) (hd:1<=d) (h1: -4611686018427387904<=n) (h2:n<=4611686018427387904):zN 358 [iA n,iA d] [] (iA (n/d)) []:=by
 have hb:=Ie n d hd h1 h2;have A:aB .i64 (n.tdiv d):=⟨zB,zB⟩;by_cases u:n.tmod d=0
 .rw[<-uc n d hd u];refine eM call358 λF hF=>?_
  exact ny
 .by_cases z:n<0
  .rw[<-GE n d z hd u];refine eM call358 λF hF=>?_
   exact ny
  .rw[<-zCv (show 0<=n by omega)];refine eM call358 λF hF=>?_
   exact ny
def UU (u cap:Int) (z:List Int) (f3 A k B:Int):Int:=min cap (k+(f3-jU z A B)/u)
structure vj (per f3:Int) (es:List Int) (c:Cl):Prop where
 p:1<=per
 k0: -1000<=c.k
 k1:c.k<=1000
 n0: -1099511627776<=f3
 n1:f3<=1099511627776
 s0: -1099511627776<=jU es c.ph c.si
 s1:jU es c.ph c.si<=1099511627776
 e0: -1099511627776<=cK es c.ph
 e1:cK es c.ph<=1099511627776
def Dz (n d:Int) (hd:1<=d) (h1: -4611686018427387904<=n) (h2:n<=4611686018427387904): -4611686018427387904<=n/d/\n/d<=4611686018427387904:=by
 constructor
 .refine(Int.le_ediv_iff_mul_le zB).2 ?_
  grind
 .have:n/d<=4611686018427387904/1:=by
   rw[Int.ediv_one];refine Int.le_of_lt_add_one ((Int.ediv_lt_iff_lt_mul zB).2 ?_)
   grind
  omega
def Ge (g:Cf) (s:Sv) (c:Cl) (f3:Int) (u:vj g.per f3 s.en c):zN 314 [wE g,wW s,kE c,iA f3] [] (iA (UU g.per g.cap s.en f3 c.ph c.k c.si)) []:=by
 obtain⟨p,A,B,C,E,G,I,_,_⟩:=u;have z:=Dz (f3-jU s.en c.ph c.si) g.per p zB zB;refine eM call314 λF hF=>?_
 (repeat' (first|refine aM ?_|refine yW (λhc=>?_) λhc=>?_|(apply zG;apply xP;(first|(refine vG 315 ?_;first|refine wM (zL (UT s c) Z Z Z Z Z) Z ?_|refine uU (zL (UT s c) Z Z Z Z Z) Z Z Z ?_|refine aF (zL (UT s c) Z Z Z Z Z) Z Z Z ?_)|(refine vG 358 ?_;first|refine wM (zL (VC _ _ zB zB zB) Z Z Z Z Z) Z ?_|refine uU (zL (VC _ _ zB zB zB) Z Z Z Z Z) Z Z Z ?_|refine aF (zL (VC _ _ zB zB zB) Z Z Z Z Z) Z Z Z ?_)))|fail))
 exact zI
def BB (u:Int) (z:List Int) (f3 A k:Int):Bool:=!cI k&&(cK z A != -1&&decide (f3-cK z A<=u))
def Jl (g:Cf) (s:Sv) (c:Cl) (f3:Int) (u:vj g.per f3 s.en c):zN 279 [wE g,wW s,kE c,iA f3] [] (bA (BB g.lock s.en f3 c.ph c.k)) []:=by
 obtain⟨p,A,B,C,E,G,I,z,e1⟩:=u;unfold BB;refine eM call279 λF hF=>?_
 (repeat' (first|refine aM ?_|refine yW (λhc=>?_) λhc=>?_|(apply zG;apply xP;(first|(refine vG 313 ?_;first|refine wM (zL (PM _ _) Z Z Z Z Z) Z ?_|refine uU (zL (PM _ _) Z Z Z Z Z) Z Z Z ?_|refine aF (zL (PM _ _) Z Z Z Z Z) Z Z Z ?_)|(refine vG 277 ?_;first|refine wM (zL (jG _) Z Z Z Z Z) Z ?_|refine uU (zL (jG _) Z Z Z Z Z) Z Z Z ?_|refine aF (zL (jG _) Z Z Z Z Z) Z Z Z ?_)))|fail))
 all_goals refine zH [] Z Z (zBb bA ?_) Z
 all_goals simp_all [uN]
