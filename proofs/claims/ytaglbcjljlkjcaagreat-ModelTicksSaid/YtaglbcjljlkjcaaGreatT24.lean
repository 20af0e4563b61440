/- Part 24. -/
import Derived.Test.YtaglbcjljlkjcaaGreatT23
namespace Go.Proofs.YtaglbcjljlkjcaaGreat.Av
open Tryz
set_option linter.all false
set_option maxRecDepth 4000
set_option maxHeartbeats 1000000
open List renaming length->ln,replicate->oj,getD->pb
open Inhabited renaming default->dd
def cD (j:Jn) (u:ln j.ph<=1000) (c:Ct) (hc:ln c.li=ln j.ph) (r:Int):zM 252 [wK j,uu c,iA r] [] (bA (VJ j c r)) []:=by rw[kY];exact S1 j u c hc r
def Yc (j:Jn) (A:ln j.ph<=1000) (u:ln j.cf<=40) (c:Ct) (z:ln c.nx=2) (r:Int) (B:0<=r/\r<2) (t:Nat) (C:t<ln j.ph) (E:c.nx.getD r.toNat dd= -1\/0<=c.nx.getD r.toNat dd):zM 251 [wK j,uu c,iA r,iA (t:Int)] [] (iA (aY j c r t)) []:=by rw[kY];exact O1 j A u c z r B t C E
def I0 (c:Ct) (u:ln c.li<=25):zM 254 [uu c] [] (iA (LT c)) []:=by rw[kY];exact V1 c u
theorem vy (p:Nat->Bool):∀n,n<=25->(gA p n=0↔∀i,i<n->p i=false)
 |0,_=>⟨λ_ i h=>absurd h (zC0 _),λ_=>rfl⟩
 | n+1,h=>by
  have z:=vy p n zB;have hb:=VQ p n zB;have A:=AL n zB;unfold gA
  cases u:p n with
  |true=>
   rw[zA4 Z];refine⟨λh=>by omega,λh=>?_⟩;have:=h n zB;rw[u]at this;cases this
  |false=>
   rw[Os xA,z];refine⟨λh i hi=>?_,λh i hi=>h i zB⟩;by_cases e:i=n
   .rw[e];exact u
   .exact h i zB
def G0 (c:Ct) (u:ln c.li<=25):Yb c=decide (LT c=0):=by
 rw[zFq,zBb];unfold LT Yb;rw[vy _ _ u,zBi];constructor
 .intro h i hi;have:=h (xT c i) (by simp[xT,pb,hi])
  grind [Yb,LT,RG]
 all_goals grind [Yb,LT,List.getElem_of_mem,RG,xT,pb]
def zC:xW:= .box [.s (.slice none 0 0),iA 0,.s (.slice none 0 0),iA 0]
def Wc (j:Jn) (t:Nat) (e:Bool) (i:Int) (c:Ct) (o:List Int):St:=⟨[(83,iA i),(2,iA t),(3,.ptr 3 0 0),(6,.ptr 6 0 0),(7,.ptr 3000 0 0)],WK e c o++[(3,.box [zE xN j.ph,zE iA j.cf,iA j.st]),(6,zC)]⟩
def eW (j:Jn) (e:Bool) (i:Int) (c:Ct) (o:List Int):St:=⟨[(129,iA i),(3,.ptr 3 0 0),(6,.ptr 6 0 0),(7,.ptr 3000 0 0)],WK e c o++[(3,.box [zE xN j.ph,zE iA j.cf,iA j.st]),(6,zC)]⟩
theorem Il (j:Jn) (J:JV j) (c:Ct) (C:CV j c) (t:Int):zM 197 [wK j,LR c,iA t] [] (LR (GT j c t)) []:=by
 have hn:=J.n;have R:j.ph.length<=1000:=by omega
 have cy:=J.c;have b8:=C.n;have cm:=C.m;have cn:=C.w;have c6:=J.st;have c5:=zA xN j.ph;have cp:(c.li.map xE).length=j.ph.length:=by rw[zA5];exact b8
 have c4:(c.nx.map iA).length=2:=by rw[zA5];exact cm
 have k3:=Jh c zB zB;unfold GT;by_cases hw:0<c.wt
 .rw[zA4 hw];refine eM call197 λF hF=>?_
  repeat' (first|(apply zG;first|(apply GQ;refine uX (nw:=[3000]) (fM tok 3000 Z Z) Z Z Z ?_)|refine uN tok Z Z ?_|(apply xP;(first|(refine vH 188 ?_;first|refine wJ (zL (k3) Z Z Z Z Z) Z ?_|refine uX (zL (k3) Z Z Z Z Z) Z Z Z ?_|refine aK (zL (k3) Z Z Z Z Z) Z Z Z ?_)))|refine YV tok Z Z Z Z ?_|(apply cA;refine cR tok Z Z Z ?_)|refine VA gS ?_|apply kP)|first|refine SQ ?_|fail)
  refine WW ?_;exact zI [] Z Z (kY ⟨c.li,c.gr,c.nx,c.wt-1⟩) Z
 rw[Os hw];have h0:c.wt=0:=by omega
 have CL:=Ym J C h0 t;have b5:=BO b8 t;have b6:=df j c t;rw[cp]at k3;have hN:∀i,((MC j c t i).map xE).length=j.ph.length:=λi=>by rw[zA5];exact PW j c t i
 refine eM call197 λF hF=>?_
 repeat' (first|(apply zG;first|(apply GQ;refine uX (nw:=[3000]) (fM tok 3000 Z Z) Z Z Z ?_)|refine uN tok Z Z ?_|(apply xP;(first|(refine vH 188 ?_;first|refine wJ (zL (k3) Z Z Z Z Z) Z ?_|refine uX (zL (k3) Z Z Z Z Z) Z Z Z ?_|refine aK (zL (k3) Z Z Z Z Z) Z Z Z ?_)))|refine YV tok Z Z Z Z ?_|(apply cA;refine cR tok Z Z Z ?_)|refine VA gS ?_|apply kP)|first|refine SQ ?_|fail)
 (repeat' (first|refine AF ?_|apply yW|apply xG|intro hc|(apply zG;first|refine SM ?_)|fail))
 refine yE Z (xJ ?_);apply xZ;refine gY [3000,1001,1002,3,4,6] [2,3,4,6,7,8] ⟨[(2,iA t),(3,.ptr 3 0 0),(4,.ptr 4 0 0),(6,.ptr 6 0 0),(7,.ptr 3000 0 0),(8,bA (ZS j t))],[(3000,.box [.ref 1001 0 j.ph.length,iA c.gr,.ref 1002 0 (c.nx.map iA).length,iA c.wt]),(1001,.arr 2 (c.li.map xE) false),(1002,.arr 1 (c.nx.map iA) false),(3,.box [zE xN j.ph,zE iA j.cf,iA j.st]),(4,.box [zE xE c.li,iA c.gr,zE iA c.nx,iA c.wt]),(6,zC)]⟩ rfl ?_ ?_
 .clear k3 CL;by_cases a1:0<=t
  .by_cases a2:t<j.ph.length
   .rw[show ZS j t=true from zA7 ⟨a1,a2⟩];refine WW ?_;exact⟨rfl,rfl⟩
   .rw[show ZS j t=false from zA6 (λh=>a2 h.2)];refine WW ?_;exact⟨rfl,rfl⟩
  .rw[show ZS j t=false from zA6 (λh=>a1 h.1)];refine WW ?_;exact⟨rfl,rfl⟩
 clear k3;refine WW ?_;refine zO (j.ph.length) [1001,3,6,3000,1002] [3,6,3000,1002] [2,3,6,7,8,38,39] [40,2,3,6,7,8,38,39] Z (λi T U=>⟨(40,iA i)::T,(1001,.arr 2 ((MC j c t i).map xE) false)::U⟩) ?_;(conv=>whnf);refine⟨by(rw[b5];rfl),?_,?_⟩
 .intro i hi;have hy:=zJ xN j.ph i hi
  change (j.ph.map xN)[i]? =some (xN (yG j i))at hy
  have cw:=zJ xE c.li i zB
  change (c.li.map xE)[i]? =some (xE (xT c i))at cw
  have cj:∃l,((MC j c t i).map xE)[i]? =some (xE l):=⟨_,zJ xE (MC j c t i) i (by rw[PW];exact hi)⟩;obtain⟨lm,cj⟩:=cj;have c7:=J.ti i hi;have c8:=om (C.k i hi) zB zB;have cu:dy (yG j i):=⟨zB,zB,zB,zB⟩;have cx:=hN i;have ls:=λlv=>wu (yG j i) cu zB ⟨zB,zB⟩ (xT c i) (C.k i hi) lv
  have ck:=jA j.cf zB i t;have es:=BP j c t i;have em:(MC j c t (i+1)).map xE=((MC j c t i).map xE).set i (xE (BQ (yG j i) (xT c i) (GR j c t i))):=by rw[es,zCs]
  rw[em];have ac:GR j c t i=_:=rfl
  conv at ac=>rhs;unfold GR
  have bl:=ls (GR j c t i);clear ls es em CL hN b5 b6;generalize BQ (yG j i) (xT c i) (GR j c t i)=ln,(MC j c t i).map xE=xs at *;generalize GR j c t i=lv at *;generalize kK j.cf i t=cq at*
  cases ha:ZS j t with
  |false=>
   rw[ha]at ac;rw[Os xA]at ac;generalize yG j i=ph,xT c i=l at *;by_cases hm:ph.maxg<=l.tk+1
   .rw[zA7 hm]at ac;subst ac;refine zU bl ?_;rfl
   .rw[zA6 hm]at ac;subst ac;refine zU bl ?_;rfl
  | true=>
   rw[ha]at ac;rw[zA4 Z]at ac;generalize yG j i=ph,xT c i=l at *;by_cases ch:(i:Int)=t
   .rw[zA6 (λh=>h ch)]at ac;rw[zB7]at ac;subst ac;by_cases hm:ph.maxg<=l.tk+1
    all_goals
     (refine zU bl ?_)
     rfl
   rw[zA7 ch,zBg]at ac;by_cases hm:ph.maxg<=l.tk+1
   .rw[zA7 hm,zDs]at ac;subst ac;refine zU bl ?_;rfl
   .rw[zA6 hm,zDj]at ac;rw[ac]at bl;clear ac
    cases cq with
    |true=>
     refine yH (xU ck bl) ?_;rfl
    |false=>
     refine yH (xU ck bl) ?_;rfl
 .rw [b6];have e1:((UX j c t).map xE).length=j.ph.length:=by simp[UX]
  have eH:∀x:List Li,x=UX j c t->(x.map xE).length=j.ph.length:=λx h=>by rw[h];exact e1
  clear b6 b5 hN;have a8:=CL.n;have a7:=CL.m
  cases ha:ZS j t with
  | true=>
   rw[zA4 Z];unfold ZS at ha;rw[zBb]at ha;obtain⟨tn,rfl⟩:∃tn:Nat,t=tn:=⟨t.toNat,zB⟩;rw[zBu];generalize da:tn=t at *;have ht:t<j.ph.length:=by omega
   obtain⟨u,ag⟩:∃u:Ct,u=⟨UX j c t,c.gr,c.nx,c.wt⟩:=⟨_,rfl⟩;rw[<-ag]at CL a8 a7;rw[show UX j c t=u.li by rw[ag]]at e1;rw[show UX j c t=u.li by rw[ag],show c.gr=u.gr by rw[ag],show c.nx=u.nx by rw[ag],show c.wt=u.wt by rw[ag]];rw[show(⟨u.li,u.gr,u.nx,u.wt⟩:Ct)=u from Z];have bs:u.wt=0:=by rw[ag];exact h0
   clear ag eH;have V:u.li.length=j.ph.length:=a8;have W:u.nx.length=2:=a7;have a6:=CL;obtain⟨I,bu⟩:=im J a6 bs ht 0;have E:=I.n;have G:=I.m;have b1:=bm J (c:=u) (r:=0) ht;have ap:u.gr=u.gr:=rfl;refine WW ?_;refine fD [3000,1001,1002,2001,3,6] [83,2,3,6,7] (Wc j t false 0 u u.nx) (Wc j t (decide ((jB j t u 0).gr≠u.gr)) 1 (jB j t u 0) u.nx) (Wc j t (decide ((jB j t (jB j t u 0) 1).gr≠u.gr)) 2 (jB j t (jB j t u 0) 1) (if(jB j t u 0).gr=u.gr then(jB j t u 0).nx else u.nx)) Z (by unfold Wc;rw[show WK false u u.nx=qW u 1002 from Z];unfold qW;rw[e1];rfl) ?_ ?_ ?_
   .unfold Wc;clear b1 E G bu I;rw[show WK false u u.nx=qW u 1002 from Z];unfold qW;have hxv:=a6.v 0 zB;have cc:=Yc j R zB u W 0 zB t ht al;have O:=cD j R u V 0;by_cases B:aY j u 0 t= -1
    .rw[B]at cc;rw[show jB j t u 0=u by unfold jB;rw[zA4 B];split<;>rfl];rw[show decide (u.gr≠u.gr)=false from zA6 (λh=>h ap)];clear O hxv B;refine zU cc ?_;rfl
    obtain⟨p,L,hp,b0⟩:=VI J (c:=u) (r:=0) ht B;rw[L]at cc
    cases hd:VJ j u 0 with
    |false=>
     rw[hd]at O;rw[show jB j t u 0=u by unfold jB;rw[Os JL]];rw[show decide (u.gr≠u.gr)=false from zA6 (λh=>h ap)];clear hd B L hxv;refine yH (xU cc O) ?_;rfl
    |true=>
    rw[hd]at O;have z:jB j t u 0=uF j u p:=by unfold jB;rw[zA4 hd,Os B,L,zBu]
    clear B L hxv hd;by_cases hk:dT j u p=true\/u.gr=(yG j p).group
    .have cb:=bU j J R zB u V W p hp (J.rg p hp) hk
     have az:(uF j u p).gr=u.gr:=by
      rcases jW j u p with h|h
      .exact(zBp Ct.gr h.2).trans ap
      .rcases hk with hk|hk
       .rw[hk]at h;cases h.1
       .exact h.2.trans (hk.symm.trans ap)
     rw[z,show decide ((uF j u p).gr≠u.gr)=false from zA6 (λh=>h az)];generalize uF j u p=b at *;clear z az hk;unfold qW at cb;refine yH (qL cc O cb) ?_;rfl
    .have bd:dT j u p=false:=by
      cases h:dT j u p with
      |false=>rfl
      |true=>exact absurd (.inl h) hk
     have bf:u.gr≠(yG j p).group:=λh=>hk (.inr h)
     have cb:=BL j J R zB u V W p hp (J.rg p hp) bd bf
     have az:(uF j u p).gr≠u.gr:=by
      rcases jW j u p with h|h
      .rw[bd]at h;cases h.1
      .rw[h.2,<-ap];exact λh=>bf h.symm
     rw[z,show decide ((uF j u p).gr≠u.gr)=true from zA7 az];generalize uF j u p=b at *;clear z az hk bd bf;unfold qW aP at cb;refine yH (qL cc O cb) ?_;rfl
   .clear V W ap;have co:=b1;generalize jB j t u 0=A at *;unfold Wc;by_cases S:A.gr=u.gr
    .rw [zA4 S,zA6 (λh=>h S)];rw[show WK false A u.nx=qW A 1002 from Z];unfold qW;have hxv:=I.v 1 zB;have cc:=Yc j R zB A G 1 zB t ht al;have O:=cD j R A E 1;by_cases B:aY j A 1 t= -1
     .rw[B]at cc;rw[show jB j t A 1=A by unfold jB;rw[zA4 B];split<;>rfl];rw[show decide (A.gr≠u.gr)=false from zA6 (λh=>h S)];clear O hxv B;refine zU cc ?_;rfl
     obtain⟨p,L,hp,b0⟩:=VI J (c:=A) (r:=1) ht B;rw[L]at cc
     cases hd:VJ j A 1 with
     |false=>
      rw[hd]at O;rw[show jB j t A 1=A by unfold jB;rw[Os JL]];rw[show decide (A.gr≠u.gr)=false from zA6 (λh=>h S)];clear hd B L hxv;refine yH (xU cc O) ?_;rfl
     |true=>
     rw[hd]at O;have z:jB j t A 1=uF j A p:=by unfold jB;rw[zA4 hd,Os B,L,zBu]
     clear B L hxv hd;by_cases hk:dT j A p=true\/A.gr=(yG j p).group
     .have cb:=bU j J R zB A E G p hp (J.rg p hp) hk
      have az:(uF j A p).gr=u.gr:=by
       rcases jW j A p with h|h
       .exact(zBp Ct.gr h.2).trans S
       .rcases hk with hk|hk
        .rw[hk]at h;cases h.1
        .exact h.2.trans (hk.symm.trans S)
      rw[z,show decide ((uF j A p).gr≠u.gr)=false from zA6 (λh=>h az)];generalize uF j A p=b at *;clear z az hk;unfold qW at cb;refine yH (qL cc O cb) ?_;rfl
     .have bd:dT j A p=false:=by
       cases h:dT j A p with
       |false=>rfl
       |true=>exact absurd (.inl h) hk
      have bf:A.gr≠(yG j p).group:=λh=>hk (.inr h)
      have cb:=BL j J R zB A E G p hp (J.rg p hp) bd bf
      have az:(uF j A p).gr≠u.gr:=by
       rcases jW j A p with h|h
       .rw[bd]at h;cases h.1
       .rw[h.2,<-S];exact λh=>bf h.symm
      rw[z,show decide ((uF j A p).gr≠u.gr)=true from zA7 az];generalize uF j A p=b at *;clear z az hk bd bf;unfold qW aP at cb;refine yH (qL cc O cb) ?_;rfl
    .have ar:A.gr≠u.gr:=S
     have br:A.gr=(yG j t).group:=by
      rcases co with h|h
      .exact absurd h ar
      .exact h
     rw[Os S,zA7 ar];rw[show WK true A u.nx=aP A u.nx from Z];unfold aP;have hxv:=I.v 1 zB;have cc:=Yc j R zB A G 1 zB t ht al;have O:=cD j R A E 1;by_cases B:aY j A 1 t= -1
     .rw[B]at cc;rw[show jB j t A 1=A by unfold jB;rw[zA4 B];split<;>rfl];rw[show decide (A.gr≠u.gr)=true from zA7 ar];clear O hxv B;refine zU cc ?_;rfl
     obtain⟨p,L,hp,b0⟩:=VI J (c:=A) (r:=1) ht B;rw[L]at cc
     cases hd:VJ j A 1 with
     |false=>
      rw[hd]at O;rw[show jB j t A 1=A by unfold jB;rw[Os JL]];rw[show decide (A.gr≠u.gr)=true from zA7 ar];clear hd B L hxv;refine yH (xU cc O) ?_;rfl
     |true=>
     rw[hd]at O;have z:jB j t A 1=uF j A p:=by unfold jB;rw[zA4 hd,Os B,L,zBu]
     clear B L hxv hd;have cb:=ZR j J R zB A E G p hp (J.rg p hp) (.inr (br.trans (b0:(yG j p).group=(yG j t).group).symm))
     have az:(uF j A p).gr≠u.gr:=by
      rcases jW j A p with h|h
      .rw[h.2];exact ar
      .rw[h.2,(b0:(yG j p).group=(yG j t).group),<-br];exact ar
     rw[z,show decide ((uF j A p).gr≠u.gr)=true from zA7 az];generalize uF j A p=b at *;clear z az;unfold qW at cb;refine yH (qL cc O cb) ?_;rfl
   .generalize (if(jB j t u 0).gr=u.gr then(jB j t u 0).nx else u.nx)=o at *;generalize jB j t (jB j t u 0) 1=c2 at *;unfold Wc;by_cases he:c2.gr=u.gr
    .rw[zA6 (λh=>h he)];refine WW ?_;exact zI [] Z Z (kY c2) Z
    .rw[zA7 he];refine WW ?_;exact zI [] Z Z (kY c2) Z
  | false=>
   rw[Os xA];obtain⟨u,ag⟩:∃u:Ct,u=⟨UX j c t,c.gr,c.nx,c.wt⟩:=⟨_,rfl⟩;rw[<-ag]at CL a8 a7;rw[show UX j c t=u.li by rw[ag]]at e1;rw[show UX j c t=u.li by rw[ag],show c.gr=u.gr by rw[ag],show c.nx=u.nx by rw[ag],show c.wt=u.wt by rw[ag]];rw[show(⟨u.li,u.gr,u.nx,u.wt⟩:Ct)=u from Z];have bs:u.wt=0:=by rw[ag];exact h0
   clear ag eH;have c3:=zA iA u.nx;have C:=CL;have cg:=Kh j R J.gp;have ca:=PX J
   have b9:gN j<=4:=by
    have:∀n,n<=j.ph.length->Zb j.ph n<=4:=λn=>by
     induction n with
     |zero=>intro _;show(0:Int)<=4;omega
     |succ n ih=>
      intro h;have h1:=ih zB;have h2:=J.gp n zB;unfold yG at h2;unfold Zb;omega
    exact this _ (zBa _)
   have b7:=C.g;have ba:(u.gr+1).tmod (gN j)=(u.gr+1) % gN j:=zCf zB;have hO:BM u u.nx.length=ij u:=by unfold BM ij;rw[zA8]
   have a9:BM u 0=decide (LT u=0):=by rw[<-G0 u zB];unfold BM;simp
   have ks:=I0 u zB;unfold uu at ks;rw[e1]at ks;have hxv:=λ(i:Nat) (hi:i<2)=>C.v i hi
   clear CL cn hw;refine WW ?_;by_cases ci:LT u=0
   .have bz:decide (LT u=0)=true:=zA7 ci;rw[bz]at a9;generalize LT u=se at *;refine zU ks ?_;refine zO (u.nx.length) [3,6,3000,1001,1002] [3,6,3000,1001,1002] [3,6,7,108,109] [14,110,3,6,7,108,109] Z (λi T U=>⟨(14,bA (BM u i))::(110,iA i)::T,U⟩) ?_;(conv=>whnf);refine⟨by(rw[a9];rfl),?_,?_⟩
    .intro i hi;have hy:=zJ iA u.nx i hi;have hx:=hxv i zB
     have cv:u.nx.getD i default= -1\/0<=u.nx.getD i default:=by rcases hx with h|h;exact .inl h;exact .inr h.1
     have es:=MB u i hi;rw[es];clear hxv hx es cg ks hO a9;generalize BM u i=o,u.nx.getD i default=x at *;by_cases hx:x= -1
     .rw[show(x== -1)=true by rw[zCm];exact hx,zDr]
      cases o with
      |false=>
       refine WW ?_;rfl
      |true=>
       refine WW ?_;rfl
     .rw[show(x== -1)=false by rw[zB0];exact hx,zC4]
      cases o with
      |false=>
       refine WW ?_;rfl
      |true=>
       refine WW ?_;rfl
    .rw [hO];clear a9 hO ks hxv
     cases bb:ij u with
     | true=>
      have a4:Xb j u=vM j (vM j (QF j u ((u.gr+1) % gN j)) 0) 1:=by unfold Xb;rw[zA4 bb]
      rw[a4];have b3:0<=(u.gr+1) % gN j/\(u.gr+1) % gN j<gN j:=⟨zD6 _ zB,zDp _ zB⟩;have ax:=BU C b3;have b4:(QF j u ((u.gr+1) % gN j)).wt=0:=bs;have ce:=NZ j R ((u.gr+1) % gN j) u.gr u.wt (u.li.map xE) (u.nx.map iA) j.ph.length (u.nx.map iA).length
      have bx:([(3000,.box [.ref 1001 0 j.ph.length,iA ((u.gr+1) % gN j),.ref 2001 0 2,iA u.wt]),(1001,.arr 2 (u.li.map xE) false),(1002,.arr 1 (u.nx.map iA) false),(2001,.arr 1 [iA (jI j 0 ((u.gr+1) % gN j) 0),iA (jI j 1 ((u.gr+1) % gN j) 0)] false)]:List (Nat×xW))=aP (QF j u ((u.gr+1) % gN j)) u.nx:=by
       unfold aP;rw[show((QF j u ((u.gr+1) % gN j)).li.map xE).length=j.ph.length from e1];rfl
      rw[bx]at ce;clear bx;rw[<-ba]at ce;rw[ba]at ce;generalize b2:QF j u ((u.gr+1) % gN j)=M at *;rw[<-ba]at ce;have cr:¬gN j=0:=by omega
      generalize gN j=gm at *;have a3:=ax.n;have a5:=ax.m;obtain⟨I,bu⟩:=ZT J ax b4 (r:=0) zB;have E:=I.n;have G:=I.m
      change CV j (vM j M 0)at I
      change (vM j M 0).li.length=j.ph.length at E
      change (vM j M 0).nx.length=2 at G
      clear a4 b2 C;unfold aP at ce;refine yH (xU cg ce) ?_;refine fD [3000,1001,1002,2001,3,6] [129,3,6,7] (eW j true 0 M u.nx) (eW j true 1 (vM j M 0) u.nx) (eW j true 2 (vM j (vM j M 0) 1) u.nx) Z Z ?_ ?_ ?_
      .unfold eW;rw[show WK true M u.nx=aP M u.nx from Z];unfold aP;have O:=cD j R M a3 0;have av:=zJ iA M.nx 0 zB;have hv:=ax.v 0 zB;have bk:(M.nx.map iA).length=2:=by rw[zA5];exact a5
       cases hd:VJ j M 0 with
       |false=>
        rw[hd]at O;rw[show vM j M 0=M by unfold vM;rw[Os QR]];clear hd;refine zU O ?_;rfl
       |true=>
       rw[hd]at O
       have z:vM j M 0=if M.nx.getD 0 default= -1 then M else uF j M (M.nx.getD 0 default).toNat:=by
        unfold vM;rw[hd]
        show(if true=true/\M.nx.getD 0 default≠ -1 then uF j M (M.nx.getD 0 default).toNat else M)=_
        by_cases h:M.nx.getD 0 default= -1
        .rw[zA4 h,Os (λk=>k.2 h)]
        .rw[Os h,zA4 ⟨rfl,h⟩]
       clear hd;by_cases B:M.nx.getD 0 default= -1
       .rw[zA4 B]at z;rw[z];clear z hv;generalize M.nx.getD 0 default=x at *;refine zU O ?_;rfl
       .rw[Os B]at z
        have au:BR j (0:Nat) M.gr (M.nx.getD 0 default):=by
         rcases hv with h|h
         .exact absurd h B
         .exact h
        obtain⟨i1,i2,i3,Y⟩:=au;obtain⟨p,L⟩:∃p:Nat,M.nx.getD 0 default=p:=⟨(M.nx.getD 0 default).toNat,zB⟩;rw[L]at z av B i2 Y;rw[zBu]at z Y;have hp:p<j.ph.length:=by omega
        have cb:=ZR j J R zB M a3 a5 p hp (J.rg p hp) (.inr Y.symm);rw[z];clear z hv i1 i2 i3 Y L;generalize uF j M p=b at *;unfold qW at cb;refine yH (xU O cb) ?_;rfl
      .generalize vM j M 0=A at *;unfold eW;rw[show WK true A u.nx=aP A u.nx from Z];unfold aP;have O:=cD j R A E 1;have av:=zJ iA A.nx 1 zB;have hv:=I.v 1 zB;have bk:(A.nx.map iA).length=2:=by rw[zA5];exact G
       cases hd:VJ j A 1 with
       |false=>
        rw[hd]at O;rw[show vM j A 1=A by unfold vM;rw[Os QR]];clear hd;refine zU O ?_;rfl
       |true=>
       rw[hd]at O
       have z:vM j A 1=if A.nx.getD 1 default= -1 then A else uF j A (A.nx.getD 1 default).toNat:=by
        unfold vM;rw[hd]
        show(if true=true/\A.nx.getD 1 default≠ -1 then uF j A (A.nx.getD 1 default).toNat else A)=_
        by_cases h:A.nx.getD 1 default= -1
        .rw[zA4 h,Os (λk=>k.2 h)]
        .rw[Os h,zA4 ⟨rfl,h⟩]
       clear hd;by_cases B:A.nx.getD 1 default= -1
       .rw[zA4 B]at z;rw[z];clear z hv;generalize A.nx.getD 1 default=x at *;refine zU O ?_;rfl
       .rw[Os B]at z
        have au:BR j (1:Nat) A.gr (A.nx.getD 1 default):=by
         rcases hv with h|h
         .exact absurd h B
         .exact h
        obtain⟨i1,i2,i3,Y⟩:=au;obtain⟨p,L⟩:∃p:Nat,A.nx.getD 1 default=p:=⟨(A.nx.getD 1 default).toNat,zB⟩;rw[L]at z av B i2 Y;rw[zBu]at z Y;have hp:p<j.ph.length:=by omega
        have cb:=ZR j J R zB A E G p hp (J.rg p hp) (.inr Y.symm);rw[z];clear z hv i1 i2 i3 Y L;generalize uF j A p=b at *;unfold qW at cb;refine yH (xU O cb) ?_;rfl
      .generalize vM j (vM j M 0) 1=c2 at *;unfold eW;refine WW ?_;exact zI [] Z Z (kY c2) Z
     | false=>
      have a4:Xb j u=vM j (vM j u 0) 1:=by unfold Xb;rw[Os (by rw[bb];decide)]
      rw[a4];clear cg ba a4 ca b9 b7;have a6:=C;have V:=a8;have W:=a7;obtain⟨I,bu⟩:=ZT J C bs (r:=0) zB;have E:=I.n;have G:=I.m
      change CV j (vM j u 0)at I
      change (vM j u 0).li.length=j.ph.length at E
      change (vM j u 0).nx.length=2 at G
      clear bb;refine WW ?_;refine fD [3000,1001,1002,2001,3,6] [129,3,6,7] (eW j false 0 u u.nx) (eW j false 1 (vM j u 0) u.nx) (eW j false 2 (vM j (vM j u 0) 1) u.nx) Z (by unfold eW;rw[show WK false u u.nx=qW u 1002 from Z];unfold qW;rw[e1];rfl) ?_ ?_ ?_
      .unfold eW;rw[show WK false u u.nx=qW u 1002 from Z];unfold qW;have O:=cD j R u V 0;have av:=zJ iA u.nx 0 zB;have hv:=a6.v 0 zB;have bk:(u.nx.map iA).length=2:=by rw[zA5];exact W
       cases hd:VJ j u 0 with
       |false=>
        rw[hd]at O;rw[show vM j u 0=u by unfold vM;rw[Os QR]];clear hd;refine zU O ?_;rfl
       |true=>
       rw[hd]at O
       have z:vM j u 0=if u.nx.getD 0 default= -1 then u else uF j u (u.nx.getD 0 default).toNat:=by
        unfold vM;rw[hd]
        show(if true=true/\u.nx.getD 0 default≠ -1 then uF j u (u.nx.getD 0 default).toNat else u)=_
        by_cases h:u.nx.getD 0 default= -1
        .rw[zA4 h,Os (λk=>k.2 h)]
        .rw[Os h,zA4 ⟨rfl,h⟩]
       clear hd;by_cases B:u.nx.getD 0 default= -1
       .rw[zA4 B]at z;rw[z];clear z hv;generalize u.nx.getD 0 default=x at *;refine zU O ?_;rfl
       .rw[Os B]at z
        have au:BR j (0:Nat) u.gr (u.nx.getD 0 default):=by
         rcases hv with h|h
         .exact absurd h B
         .exact h
        obtain⟨i1,i2,i3,Y⟩:=au;obtain⟨p,L⟩:∃p:Nat,u.nx.getD 0 default=p:=⟨(u.nx.getD 0 default).toNat,zB⟩;rw[L]at z av B i2 Y;rw[zBu]at z Y;have hp:p<j.ph.length:=by omega
        have cb:=bU j J R zB u V W p hp (J.rg p hp) (.inr Y.symm);rw[z];clear z hv i1 i2 i3 Y L;generalize uF j u p=b at *;unfold qW at cb;refine yH (xU O cb) ?_;rfl
      .generalize vM j u 0=A at *;unfold eW;rw[show WK false A u.nx=qW A 1002 from Z];unfold qW;have O:=cD j R A E 1;have av:=zJ iA A.nx 1 zB;have hv:=I.v 1 zB;have bk:(A.nx.map iA).length=2:=by rw[zA5];exact G
       cases hd:VJ j A 1 with
       |false=>
        rw[hd]at O;rw[show vM j A 1=A by unfold vM;rw[Os QR]];clear hd;refine zU O ?_;rfl
       |true=>
       rw[hd]at O
       have z:vM j A 1=if A.nx.getD 1 default= -1 then A else uF j A (A.nx.getD 1 default).toNat:=by
        unfold vM;rw[hd]
        show(if true=true/\A.nx.getD 1 default≠ -1 then uF j A (A.nx.getD 1 default).toNat else A)=_
        by_cases h:A.nx.getD 1 default= -1
        .rw[zA4 h,Os (λk=>k.2 h)]
        .rw[Os h,zA4 ⟨rfl,h⟩]
       clear hd;by_cases B:A.nx.getD 1 default= -1
       .rw[zA4 B]at z;rw[z];clear z hv;generalize A.nx.getD 1 default=x at *;refine zU O ?_;rfl
       .rw[Os B]at z
        have au:BR j (1:Nat) A.gr (A.nx.getD 1 default):=by
         rcases hv with h|h
         .exact absurd h B
         .exact h
        obtain⟨i1,i2,i3,Y⟩:=au;obtain⟨p,L⟩:∃p:Nat,A.nx.getD 1 default=p:=⟨(A.nx.getD 1 default).toNat,zB⟩;rw[L]at z av B i2 Y;rw[zBu]at z Y;have hp:p<j.ph.length:=by omega
        have cb:=bU j J R zB A E G p hp (J.rg p hp) (.inr Y.symm);rw[z];clear z hv i1 i2 i3 Y L;generalize uF j A p=b at *;unfold qW at cb;refine yH (xU O cb) ?_;rfl
      .generalize vM j (vM j u 0) 1=c2 at *;unfold eW;refine WW ?_;exact zI [] Z Z (kY c2) Z
   .have bz:decide (LT u=0)=false:=zA6 ci;rw[bz]at a9;generalize LT u=se at *;refine zU ks ?_;refine zO (u.nx.length) [3,6,3000,1001,1002] [3,6,3000,1001,1002] [3,6,7,108,109] [14,110,3,6,7,108,109] Z (λi T U=>⟨(14,bA (BM u i))::(110,iA i)::T,U⟩) ?_;(conv=>whnf);refine⟨by(rw[a9];rfl),?_,?_⟩
    .intro i hi;have hy:=zJ iA u.nx i hi;have hx:=hxv i zB
     have cv:u.nx.getD i default= -1\/0<=u.nx.getD i default:=by rcases hx with h|h;exact .inl h;exact .inr h.1
     have es:=MB u i hi;rw[es];clear hxv hx es cg ks hO a9;generalize BM u i=o,u.nx.getD i default=x at *;by_cases hx:x= -1
     .rw[show(x== -1)=true by rw[zCm];exact hx,zDr]
      cases o with
      |false=>
       refine WW ?_;rfl
      |true=>
       refine WW ?_;rfl
     .rw[show(x== -1)=false by rw[zB0];exact hx,zC4]
      cases o with
      |false=>
       refine WW ?_;rfl
      |true=>
       refine WW ?_;rfl
    .rw [hO];clear a9 hO ks hxv
     cases bb:ij u with
     | true=>
      have a4:Xb j u=vM j (vM j (QF j u ((u.gr+1) % gN j)) 0) 1:=by unfold Xb;rw[zA4 bb]
      rw[a4];have b3:0<=(u.gr+1) % gN j/\(u.gr+1) % gN j<gN j:=⟨zD6 _ zB,zDp _ zB⟩;have ax:=BU C b3;have b4:(QF j u ((u.gr+1) % gN j)).wt=0:=bs;have ce:=NZ j R ((u.gr+1) % gN j) u.gr u.wt (u.li.map xE) (u.nx.map iA) j.ph.length (u.nx.map iA).length
      have bx:([(3000,.box [.ref 1001 0 j.ph.length,iA ((u.gr+1) % gN j),.ref 2001 0 2,iA u.wt]),(1001,.arr 2 (u.li.map xE) false),(1002,.arr 1 (u.nx.map iA) false),(2001,.arr 1 [iA (jI j 0 ((u.gr+1) % gN j) 0),iA (jI j 1 ((u.gr+1) % gN j) 0)] false)]:List (Nat×xW))=aP (QF j u ((u.gr+1) % gN j)) u.nx:=by
       unfold aP;rw[show((QF j u ((u.gr+1) % gN j)).li.map xE).length=j.ph.length from e1];rfl
      rw[bx]at ce;clear bx;rw[<-ba]at ce;rw[ba]at ce;generalize b2:QF j u ((u.gr+1) % gN j)=M at *;rw[<-ba]at ce;have cr:¬gN j=0:=by omega
      generalize gN j=gm at *;have a3:=ax.n;have a5:=ax.m;obtain⟨I,bu⟩:=ZT J ax b4 (r:=0) zB;have E:=I.n;have G:=I.m
      change CV j (vM j M 0)at I
      change (vM j M 0).li.length=j.ph.length at E
      change (vM j M 0).nx.length=2 at G
      clear a4 b2 C;unfold aP at ce;refine yH (xU cg ce) ?_;refine fD [3000,1001,1002,2001,3,6] [129,3,6,7] (eW j true 0 M u.nx) (eW j true 1 (vM j M 0) u.nx) (eW j true 2 (vM j (vM j M 0) 1) u.nx) Z Z ?_ ?_ ?_
      .unfold eW;rw[show WK true M u.nx=aP M u.nx from Z];unfold aP;have O:=cD j R M a3 0;have av:=zJ iA M.nx 0 zB;have hv:=ax.v 0 zB;have bk:(M.nx.map iA).length=2:=by rw[zA5];exact a5
       cases hd:VJ j M 0 with
       |false=>
        rw[hd]at O;rw[show vM j M 0=M by unfold vM;rw[Os QR]];clear hd;refine zU O ?_;rfl
       |true=>
       rw[hd]at O
       have z:vM j M 0=if M.nx.getD 0 default= -1 then M else uF j M (M.nx.getD 0 default).toNat:=by
        unfold vM;rw[hd]
        show(if true=true/\M.nx.getD 0 default≠ -1 then uF j M (M.nx.getD 0 default).toNat else M)=_
        by_cases h:M.nx.getD 0 default= -1
        .rw[zA4 h,Os (λk=>k.2 h)]
        .rw[Os h,zA4 ⟨rfl,h⟩]
       clear hd;by_cases B:M.nx.getD 0 default= -1
       .rw[zA4 B]at z;rw[z];clear z hv;generalize M.nx.getD 0 default=x at *;refine zU O ?_;rfl
       .rw[Os B]at z
        have au:BR j (0:Nat) M.gr (M.nx.getD 0 default):=by
         rcases hv with h|h
         .exact absurd h B
         .exact h
        obtain⟨i1,i2,i3,Y⟩:=au;obtain⟨p,L⟩:∃p:Nat,M.nx.getD 0 default=p:=⟨(M.nx.getD 0 default).toNat,zB⟩;rw[L]at z av B i2 Y;rw[zBu]at z Y;have hp:p<j.ph.length:=by omega
        have cb:=ZR j J R zB M a3 a5 p hp (J.rg p hp) (.inr Y.symm);rw[z];clear z hv i1 i2 i3 Y L;generalize uF j M p=b at *;unfold qW at cb;refine yH (xU O cb) ?_;rfl
      .generalize vM j M 0=A at *;unfold eW;rw[show WK true A u.nx=aP A u.nx from Z];unfold aP;have O:=cD j R A E 1;have av:=zJ iA A.nx 1 zB;have hv:=I.v 1 zB;have bk:(A.nx.map iA).length=2:=by rw[zA5];exact G
       cases hd:VJ j A 1 with
       |false=>
        rw[hd]at O;rw[show vM j A 1=A by unfold vM;rw[Os QR]];clear hd;refine zU O ?_;rfl
       |true=>
       rw[hd]at O
       have z:vM j A 1=if A.nx.getD 1 default= -1 then A else uF j A (A.nx.getD 1 default).toNat:=by
        unfold vM;rw[hd]
        show(if true=true/\A.nx.getD 1 default≠ -1 then uF j A (A.nx.getD 1 default).toNat else A)=_
        by_cases h:A.nx.getD 1 default= -1
        .rw[zA4 h,Os (λk=>k.2 h)]
        .rw[Os h,zA4 ⟨rfl,h⟩]
       clear hd;by_cases B:A.nx.getD 1 default= -1
       .rw[zA4 B]at z;rw[z];clear z hv;generalize A.nx.getD 1 default=x at *;refine zU O ?_;rfl
       .rw[Os B]at z
        have au:BR j (1:Nat) A.gr (A.nx.getD 1 default):=by
         rcases hv with h|h
         .exact absurd h B
         .exact h
        obtain⟨i1,i2,i3,Y⟩:=au;obtain⟨p,L⟩:∃p:Nat,A.nx.getD 1 default=p:=⟨(A.nx.getD 1 default).toNat,zB⟩;rw[L]at z av B i2 Y;rw[zBu]at z Y;have hp:p<j.ph.length:=by omega
        have cb:=ZR j J R zB A E G p hp (J.rg p hp) (.inr Y.symm);rw[z];clear z hv i1 i2 i3 Y L;generalize uF j A p=b at *;unfold qW at cb;refine yH (xU O cb) ?_;rfl
      .generalize vM j (vM j M 0) 1=c2 at *;unfold eW;refine WW ?_;exact zI [] Z Z (kY c2) Z
     | false=>
      have a4:Xb j u=vM j (vM j u 0) 1:=by unfold Xb;rw[Os (by rw[bb];decide)]
      rw[a4];clear cg ba a4 ca b9 b7;have a6:=C;have V:=a8;have W:=a7;obtain⟨I,bu⟩:=ZT J C bs (r:=0) zB;have E:=I.n;have G:=I.m
      change CV j (vM j u 0)at I
      change (vM j u 0).li.length=j.ph.length at E
      change (vM j u 0).nx.length=2 at G
      clear bb;refine WW ?_;refine fD [3000,1001,1002,2001,3,6] [129,3,6,7] (eW j false 0 u u.nx) (eW j false 1 (vM j u 0) u.nx) (eW j false 2 (vM j (vM j u 0) 1) u.nx) Z (by unfold eW;rw[show WK false u u.nx=qW u 1002 from Z];unfold qW;rw[e1];rfl) ?_ ?_ ?_
      .unfold eW;rw[show WK false u u.nx=qW u 1002 from Z];unfold qW;have O:=cD j R u V 0;have av:=zJ iA u.nx 0 zB;have hv:=a6.v 0 zB;have bk:(u.nx.map iA).length=2:=by rw[zA5];exact W
       cases hd:VJ j u 0 with
       |false=>
        rw[hd]at O;rw[show vM j u 0=u by unfold vM;rw[Os QR]];clear hd;refine zU O ?_;rfl
       |true=>
       rw[hd]at O
       have z:vM j u 0=if u.nx.getD 0 default= -1 then u else uF j u (u.nx.getD 0 default).toNat:=by
        unfold vM;rw[hd]
        show(if true=true/\u.nx.getD 0 default≠ -1 then uF j u (u.nx.getD 0 default).toNat else u)=_
        by_cases h:u.nx.getD 0 default= -1
        .rw[zA4 h,Os (λk=>k.2 h)]
        .rw[Os h,zA4 ⟨rfl,h⟩]
       clear hd;by_cases B:u.nx.getD 0 default= -1
       .rw[zA4 B]at z;rw[z];clear z hv;generalize u.nx.getD 0 default=x at *;refine zU O ?_;rfl
       .rw[Os B]at z
        have au:BR j (0:Nat) u.gr (u.nx.getD 0 default):=by
         rcases hv with h|h
         .exact absurd h B
         .exact h
        obtain⟨i1,i2,i3,Y⟩:=au;obtain⟨p,L⟩:∃p:Nat,u.nx.getD 0 default=p:=⟨(u.nx.getD 0 default).toNat,zB⟩;rw[L]at z av B i2 Y;rw[zBu]at z Y;have hp:p<j.ph.length:=by omega
        have cb:=bU j J R zB u V W p hp (J.rg p hp) (.inr Y.symm);rw[z];clear z hv i1 i2 i3 Y L;generalize uF j u p=b at *;unfold qW at cb;refine yH (xU O cb) ?_;rfl
      .generalize vM j u 0=A at *;unfold eW;rw[show WK false A u.nx=qW A 1002 from Z];unfold qW;have O:=cD j R A E 1;have av:=zJ iA A.nx 1 zB;have hv:=I.v 1 zB;have bk:(A.nx.map iA).length=2:=by rw[zA5];exact G
       cases hd:VJ j A 1 with
       |false=>
        rw[hd]at O;rw[show vM j A 1=A by unfold vM;rw[Os QR]];clear hd;refine zU O ?_;rfl
       |true=>
       rw[hd]at O
       have z:vM j A 1=if A.nx.getD 1 default= -1 then A else uF j A (A.nx.getD 1 default).toNat:=by
        unfold vM;rw[hd]
        show(if true=true/\A.nx.getD 1 default≠ -1 then uF j A (A.nx.getD 1 default).toNat else A)=_
        by_cases h:A.nx.getD 1 default= -1
        .rw[zA4 h,Os (λk=>k.2 h)]
        .rw[Os h,zA4 ⟨rfl,h⟩]
       clear hd;by_cases B:A.nx.getD 1 default= -1
       .rw[zA4 B]at z;rw[z];clear z hv;generalize A.nx.getD 1 default=x at *;refine zU O ?_;rfl
       .rw[Os B]at z
        have au:BR j (1:Nat) A.gr (A.nx.getD 1 default):=by
         rcases hv with h|h
         .exact absurd h B
         .exact h
        obtain⟨i1,i2,i3,Y⟩:=au;obtain⟨p,L⟩:∃p:Nat,A.nx.getD 1 default=p:=⟨(A.nx.getD 1 default).toNat,zB⟩;rw[L]at z av B i2 Y;rw[zBu]at z Y;have hp:p<j.ph.length:=by omega
        have cb:=bU j J R zB A E G p hp (J.rg p hp) (.inr Y.symm);rw[z];clear z hv i1 i2 i3 Y L;generalize uF j A p=b at *;unfold qW at cb;refine yH (xU O cb) ?_;rfl
      .generalize vM j (vM j u 0) 1=c2 at *;unfold eW;refine WW ?_;exact zI [] Z Z (kY c2) Z
def Kt (c:Ct) (h1:ln c.li<=1000000) (h2:ln c.nx<=1000000):zM 140 [LR c,LR c] [] (bA true) []:=by
 have hl:=zA xE c.li;have B:=zA iA c.nx;refine eM call140 λF hF=>?_
 refine WW ?_;refine zQ (c.li) [2,3] [2,3] [2,3,40,41] [42,2,3,40,41] Z (λi f4 T U=>⟨(42,iA i)::T,U⟩) (Lq ?_ ?_)
 .intro i f4 x post u hi;have A:=zZ xE u hi;have z:=zV u hi;clear u
  (repeat' (first|refine uQ ?_|apply yW|apply xG|intro hc|(apply zG;first|refine SE ?_)|fail))
  all_goals (first|rfl|(exfalso;first|(simp[xS]at hc;done)|(revert hc;simp[xS];done)))
 ·(refine WW ?_)
  refine zQ (c.nx) [3] [3] [3,56,57] [58,3,56,57] Z (λi f4 T U=>⟨(58,iA i)::T,U⟩) (Lq ?_ ?_)
  .intro i f4 x post u hi;have A:=zZ iA u hi;have z:=zV u hi;clear u;refine WW ?_
   all_goals (first|rfl|(exfalso;first|(simp[xS]at hc;done)|(revert hc;simp[xS];done)))
  .exact ly
def Nh (j:Jn) (G:ln j.ph<=1000) (g R M:Int) (L:List AV) (I:Nat):zM 214 [wK j,.ptr 3000 0 0,iA g] [(3000,.box [.ref 1001 0 I,iA R,.s (.slice none 0 0),iA M]),(1001,.arr 2 L false)] (.tup [])
  [(3000,.box [.ref 1001 0 I,iA g,.ref 2001 0 2,iA M]),(1001,.arr 2 L false),(2001,.arr 1 [iA (jI j 0 g 0),iA (jI j 1 g 0)] false)]:=by
 have C:=aO j G 0 g (-1);have E:=aO j G 1 g (-1);rw[show(-1:Int)+1=0 by omega]at C E;generalize jI j 0 g 0=u,jI j 1 g 0=z at *;obtain⟨B,A⟩:∃n:Nat,n=2:=⟨2,rfl⟩;refine eM call214 λF hF=>?_
 refine WW ?_;refine zS 6 2001 1 Z Z Z ?_;refine zO (B) [2001,3,3000,1001] [3,3000,1001] [1,2,3] [6,8,1,2,3] Z (λi T U=>⟨(6,.ref 2001 0 (Nr u z i).length)::(8,iA i)::T,(2001,.arr 1 (Nr u z i) (i != 1))::U⟩) (Lq ?_ ?_)
 .intro i hi;have:i=0\/i=1:=by omega
  rcases this with rfl|rfl
  .have hl:(Nr u z 0).length=0:=rfl;refine zU C ?_;rfl
  .have hl:(Nr u z 1).length=1:=rfl;refine zU E ?_;rfl
 .have O:Nr u z B=[iA u,iA z]:=by rw[A];rfl
  have e3:(B != 1)=true:=by rw[A];rfl
  rw[O,e3]
  (repeat' (first|refine AF ?_|apply yW|apply xG|intro hc|(apply zG;first|refine SM ?_)|fail))
  refine yE Z (xQ ?_);refine kE 2001 [6] Z Z Z Z Z ?_;refine WW ?_;exact uZ [3000,1001,2001] Z Z Z Z
def Jt (j:Jn) (C:ln j.ph<=1000):zM 158 [wK j] [] (LR (Lh j)) []:=by
 have z:=zA xN j.ph;have u:=Nh j C 0 0 j.st ((oj (ln j.ph) (⟨0,0⟩:Li)).map xE) ((oj (ln j.ph) (⟨0,0⟩:Li)).map xE).length;have A:(oj (ln j.ph) (⟨0,0⟩:Li)).map xE=oj (ln j.ph) (xE ⟨0,0⟩):=zEt;have eN:((oj (ln j.ph) (⟨0,0⟩:Li)).map xE).length=ln j.ph:=by simp
 rw[eN,A]at u;rw[<-z]at u;refine eM call158 λF hF=>?_
 repeat' (first|(apply zG;first|(apply zm;refine uX (nw:=[3000]) (fM tok 3000 Z Z) Z Z Z ?_)|refine uN tok Z Z ?_|(apply fS;refine bG 1001 tok Z Z Z Z Z Z Z Z Z Z Z Z Z zB zB Z Z Z ?_)|refine YV tok Z Z Z Z ?_|(apply xP;(first|(refine vH 214 ?_;first|refine wJ (zL (u) Z Z Z Z Z) Z ?_|refine uX (zL (u) Z Z Z Z Z) Z Z Z ?_|refine aK (zL (u) Z Z Z Z Z) Z Z Z ?_)))|(apply cA;refine cR tok Z Z Z ?_)|refine VA gS ?_|apply kP)|first|refine SQ ?_|fail)
 have B:AV.agg [.sl false ((oj (j.ph.map xN).length (xE ⟨0,0⟩)).take (j.ph.map xN).length),iA 0,.sl false [iA (jI j 0 0 0),iA (jI j 1 0 0)],iA j.st]=LR (Lh j):=by
  rw[zBf zW,z,<-A];rfl
 exact zI [] Z Z B Z
structure Sg where
 c:Ct
 lat:Bool
def wZ (s:Sg):AV:= .agg [zE xE s.c.li,iA s.c.gr,zE iA s.c.nx,iA s.c.wt,bA s.lat]
def fQ (j:Jn):Sg:=⟨Lh j,false⟩
def Ae (j:Jn) (s:Sg) (t k:Int):Sg:=if s.lat=true then s else⟨GT j s.c t,vm j.cf (bT (GT j s.c t).li k)⟩
def Qr (j:Jn) (s:Sg):Sg:=if s.lat=true then fQ j else s
def BF {α:Type} (f:α->AV) (l:List α):AV.sl false ((l.map f).take (l.map f).length)=zE f l:=by rw[zA8];rfl
def JT (l:List Int) (hl:ln l<=1073741824):zM 111 [zE iA l] [] (zE iA l) []:=by
 have u:=zA iA l;refine eM call111 λF hF=>?_
 refine xI 0 Z (λcap z=>?_) ?_
 .have:l=[]:=by simpa using z
  subst this;exact ly
 ·(refine WW ?_)
  refine zI [] Z Z (BF _ _) Z
def JU (l:List Li) (hl:ln l<=1073741824):zM 172 [zE xE l] [] (zE xE l) []:=by
 have u:=zA xE l;refine eM call172 λF hF=>?_
 refine xI 0 Z (λcap z=>?_) ?_
 .have:l=[]:=by simpa using z
  subst this;exact ly
 ·(refine WW ?_)
  refine zI [] Z Z (BF _ _) Z
def BG (s:Sg) (h1:ln s.c.li<=1073741824) (h2:ln s.c.nx<=1073741824):zM 116 [wZ s] [] (wZ s) []:=by
 have u:=JU s.c.li h1;have z:=JT s.c.nx h2;refine eM call116 λF hF=>?_
 exact mt (xU u z)
def Hl (c:Ct) (h1:ln c.li<=1000) (h2:ln c.nx<=1000):zM 188 [LR c] [] (LR c) []:=by
 have hl:=zA xE c.li;have u:=zA iA c.nx;refine eM call188 λF hF=>?_
 exact ng
def PQ (s:Sg) (h1:ln s.c.li<=1000) (h2:ln s.c.nx<=1000):zM 126 [wZ s] [] (wZ s) []:=by
 have u:=Hl s.c h1 h2;refine eM call126 λF hF=>?_
 exact mx u
def F0 (j:Jn) (J:JV j):zM 81 [wK j] [] (wZ (fQ j)) []:=by
 have u:=B0 j CG;unfold fQ;generalize Lh j=c at *;refine eM call81 λF hF=>?_
 exact mx u
def yf (j:Jn) (J:JV j):zM 86 [wK j] [] (wZ (fQ j)) []:=by
 have u:=Jt j CG;unfold fQ;generalize Lh j=c at *;refine eM call86 λF hF=>?_
 exact mx u
def Gt (j:Jn) (J:JV j) (s:Sg) (C:CV j s.c) (t k:Int):zM 180 [wK j,wZ s,iA t,iA k] [] (wZ (Ae j s t k)) []:=by
 have I:=J.n;have hc:=J.c;have M:=C.n;have L:=C.m;have A:=BG s zB zB;have B:=L1 j J s.c C t;have z:=Xm J C t;have E:=Z1 (GT j s.c t).li (by have:=z.n;omega) k;have G:=Y1 j.cf (bT (GT j s.c t).li k) zB (by rw[BJ];have:=z.n;omega);unfold Ae;generalize vm j.cf (bT (GT j s.c t).li k)=f at *;generalize bT (GT j s.c t).li k=O at *;generalize GT j s.c t=c at *;obtain⟨R,u⟩:=s
 cases u with
 |true=>
  rw[zA4 Z];refine eM call180 λF hF=>?_
  exact mx A
 |false=>
  rw[Os zBl];refine eM call180 λF hF=>?_
  exact mt (qL B E G)
def Gl (j:Jn) (J:JV j) (s:Sg) (C:CV j s.c) (t k:Int):zM 135 [wK j,wZ s,iA t,iA k] [] (wZ (Ae j s t k)) []:=by
 have I:=J.n;have hc:=J.c;have M:=C.n;have L:=C.m;have A:=PQ s zB zB;have B:=Il j J s.c C t;have z:=Xm J C t;have E:=zu (GT j s.c t).li (by have:=z.n;omega) k;have G:=yu j.cf (bT (GT j s.c t).li k) zB (by rw[BJ];have:=z.n;omega);unfold Ae;generalize vm j.cf (bT (GT j s.c t).li k)=f at *;generalize bT (GT j s.c t).li k=O at *;generalize GT j s.c t=c at *;obtain⟨R,u⟩:=s
 cases u with
 |true=>
  rw[zA4 Z];refine eM call135 λF hF=>?_
  exact mx A
 |false=>
  rw[Os zBl];refine eM call135 λF hF=>?_
  exact mt (qL B E G)
def El (j:Jn) (J:JV j) (s:Sg) (h1:ln s.c.li<=1073741824) (h2:ln s.c.nx<=1073741824):zM 47 [wK j,wZ s] [] (.tup [wZ (Qr j s),bA s.lat]) []:=by
 have A:=BG s h1 h2;have B:=F0 j J;unfold Qr;generalize fQ j=z at *;obtain⟨C,u⟩:=s
 cases u with
 |true=>
  rw[zA4 Z];refine eM call47 λF hF=>?_
  exact mx B
 |false=>
  rw[Os zBl];refine eM call47 λF hF=>?_
  exact mx A
def Mh (j:Jn) (J:JV j) (s:Sg) (h1:ln s.c.li<=1000) (h2:ln s.c.nx<=1000):zM 57 [wK j,wZ s] [] (.tup [wZ (Qr j s),bA s.lat]) []:=by
 have A:=PQ s h1 h2;have B:=yf j J;unfold Qr;generalize fQ j=z at *;obtain⟨C,u⟩:=s
 cases u with
 |true=>
  rw[zA4 Z];refine eM call57 λF hF=>?_
  exact mx B
 |false=>
  rw[Os zBl];refine eM call57 λF hF=>?_
  exact mx A
def Ft (s:Sg) (h1:ln s.c.li<=1000000) (h2:ln s.c.nx<=1000000):zM 63 [wZ s,wZ s] [] (bA true) []:=by
 have z:=Kt s.c h1 h2;obtain⟨A,u⟩:=s
 cases u with
 |true=>
  refine eM call63 λF hF=>?_
  exact mx z
 |false=>
  refine eM call63 λF hF=>?_
  exact mx z
def ph0:Ph:=⟨0,0,2,3,1,1,0,0⟩
def j0:Jn:=⟨[ph0,ph0],[2,1],0⟩
def two {p:Nat} (h:p<ln j0.ph):p=0\/p=1:=by
 have:ln j0.ph=2:=rfl;omega
theorem E0 {j:Jn} (J:JV j) {s:Sg} (C:CV j s.c) (t k:Int):CV j (Ae j s t k).c:=by grind [Ae,Xm]
def zAg {j:Jn} (J:JV j) {s:Sg} (C:CV j s.c):CV j (Qr j s).c:=by
 unfold Qr;split
 .exact Al J
 .exact C
def ph1:Ph:=⟨0,0,2,3,1,0,0,0⟩
def j1:Jn:=⟨[ph1,ph1],[2,1],0⟩
def WG {p q:Prop} (k:q) (h:aF q->p:=by(intro u;(repeat' (first|refine aQ ?_|refine yW (λhc=>?_) λhc=>?_|fail));exact u.h)):p:=h ⟨k⟩
def WO {p q:Prop} (k:q) (h:aF q->p:=by(intro u;(repeat' (first|refine aQ ?_|refine yW (λhc=>?_) λhc=>?_|fail));exact u.h)):p:=h ⟨k⟩
def nm{p:Prop}(h:p:=by(refine WO ?_;exact zH)):p:=h
def e1 (d:Dk) (f3:Int):Int:=[-1,0,max (-1) (f3-nx d 6)].getD (nx (ad d) 3).toNat 0
def d0 (xs:List Int) (hl:ln xs<=9223372036854775807):Dk:=⟨xs,0,zBn _,hl⟩
def cN (z:List Int) (u:Int):Int:=if u<0\/(ln z:Int)<=u then -1 else z.getD u.toNat 0
def cK (k:Int):Bool:=k==2||k==3
def jV (u:List Int) (z A:Int):Int:=max A (cN u z)
def PR (s:Sv) (c:Cl):zM 313 [wU s,kD c] [] (iA (cN s.en c.ph)) []:=by
 have hl:(s.en.map iA).length=ln s.en:=by simp
 by_cases h1:c.ph<0
 .rw[show cN s.en c.ph= -1 by simp[cN,h1]];refine eM call313 λF hF=>?_
  exact nm
 .by_cases h2:(ln s.en:Int)<=c.ph
  .rw[show cN s.en c.ph= -1 by simp[cN,h2]];refine eM call313 λF hF=>?_
   exact nm
  .rw[show cN s.en c.ph=s.en.getD c.ph.toNat 0 by unfold cN;rw[Os zB]];have u:=yF iA s.en c.ph zB zB;refine eM call313 λF hF=>?_
   exact nm
def jH (c:Cl):zM 277 [kD c] [] (bA (cK c.k)) []:=by
 unfold cK;by_cases h:c.k=2
 .rw[show(c.k==2||c.k==3)=true by simp[h]];refine eM call277 λF hF=>?_
  exact nm
 .rw[show(c.k==2||c.k==3)=(c.k==3) by simp[h]];refine eM call277 λF hF=>?_
  exact nm
def UV (s:Sv) (c:Cl):zM 315 [wU s,kD c] [] (iA (jV s.en c.ph c.si)) []:=by
 refine eM call315 λF hF=>?_
 (repeat' (first|refine aQ ?_|refine yW (λhc=>?_) λhc=>?_|(apply zG;apply xP;refine wJ (zL (PR ⟨_,_,_⟩ ⟨_,_,_,_,_⟩) Z Z Z Z Z) Z ?_)|fail))
 exact zH
def Vc (n d:Int) (hd:1<=d) (u:n.tmod d=0):n.tdiv d=n/d:=by grind [Int.tmod_add_mul_tdiv,Int.ediv_eq_of_eq_mul_right]
def GP (n d:Int) (G:n<0) (hd:1<=d) (E:n.tmod d≠0):n.tdiv d-1=n/d:=by
 have h1:=Int.tmod_add_mul_tdiv n d;have u:n.tmod d= -((-n).tmod d):=by rw[Int.neg_tmod];omega
 have A: -d<n.tmod d:=by
  have:=zF7 (-n) (show 0<d by omega);omega
 have B:n.tmod d<=0:=by
  have:=zGn d (show 0<= -n by omega);omega
 clear u;have z:n=d*(n.tdiv d-1)+(n.tmod d+d):=by rw[Int.mul_sub];omega
 generalize n.tdiv d=q,n.tmod d=r at *
 have C:n/d=q-1:=by
  rw[z,Int.mul_add_ediv_left _ _ zB,Int.ediv_eq_zero_of_lt zB zB];omega
 omega
def xf (n d:Int) (hd:1<=d) (h1: -4611686018427387904<=n) (h2:n<=4611686018427387904): -4611686018427387904<=n.tdiv d/\n.tdiv d<=4611686018427387904:=by
 by_cases h:0<=n
 .have:=IntWalk.tdiv_le n d h hd
  grind
 .have u:n.tdiv d= -((-n).tdiv d):=by rw[Int.neg_tdiv];omega
  have:=IntWalk.tdiv_le (-n) d zB hd
  grind
def VF (n d:Int) (hd:1<=d) (h1: -4611686018427387904<=n) (h2:n<=4611686018427387904):zM 358 [iA n,iA d] [] (iA (n/d)) []:=by
 have hb:=xf n d hd h1 h2;have A:bI .i64 (n.tdiv d):=⟨zB,zB⟩;by_cases u:n.tmod d=0
 .rw[<-Vc n d hd u];refine eM call358 λF hF=>?_
  exact nm
 .by_cases z:n<0
  .rw[<-GP n d z hd u];refine eM call358 λF hF=>?_
   exact nm
  .rw[<-zC2 (show 0<=n by omega)];refine eM call358 λF hF=>?_
   exact nm
def UW (u cap:Int) (z:List Int) (f3 A k B:Int):Int:=min cap (k+(f3-jV z A B)/u)
structure rj (per f3:Int) (es:List Int) (c:Cl):Prop where
 p:1<=per
 k0: -1000<=c.k
 k1:c.k<=1000
 n0: -1099511627776<=f3
 n1:f3<=1099511627776
 s0: -1099511627776<=jV es c.ph c.si
 s1:jV es c.ph c.si<=1099511627776
 e0: -1099511627776<=cN es c.ph
 e1:cN es c.ph<=1099511627776
def D0 (n d:Int) (hd:1<=d) (h1: -4611686018427387904<=n) (h2:n<=4611686018427387904): -4611686018427387904<=n/d/\n/d<=4611686018427387904:=by
 constructor
 .refine(Int.le_ediv_iff_mul_le zB).2 ?_
  grind
 .have:n/d<=4611686018427387904/1:=by
   rw[Int.ediv_one];refine Int.le_of_lt_add_one ((Int.ediv_lt_iff_lt_mul zB).2 ?_)
   grind
  omega
def vf (g:Cf) (s:Sv) (c:Cl) (f3:Int) (u:rj g.per f3 s.en c):zM 314 [wH g,wU s,kD c,iA f3] [] (iA (UW g.per g.cap s.en f3 c.ph c.k c.si)) []:=by
 obtain⟨p,A,B,C,E,G,I,_,_⟩:=u;have z:=D0 (f3-jV s.en c.ph c.si) g.per p zB zB;refine eM call314 λF hF=>?_
 (repeat' (first|refine aQ ?_|refine yW (λhc=>?_) λhc=>?_|(apply zG;apply xP;(first|(refine vH 315 ?_;first|refine wJ (zL (UV s c) Z Z Z Z Z) Z ?_|refine uX (zL (UV s c) Z Z Z Z Z) Z Z Z ?_|refine aK (zL (UV s c) Z Z Z Z Z) Z Z Z ?_)|(refine vH 358 ?_;first|refine wJ (zL (VF _ _ zB zB zB) Z Z Z Z Z) Z ?_|refine uX (zL (VF _ _ zB zB zB) Z Z Z Z Z) Z Z Z ?_|refine aK (zL (VF _ _ zB zB zB) Z Z Z Z Z) Z Z Z ?_)))|fail))
 exact zH
def BH (u:Int) (z:List Int) (f3 A k:Int):Bool:=!cK k&&(cN z A != -1&&decide (f3-cN z A<=u))
def Dl (g:Cf) (s:Sv) (c:Cl) (f3:Int) (u:rj g.per f3 s.en c):zM 279 [wH g,wU s,kD c,iA f3] [] (bA (BH g.lock s.en f3 c.ph c.k)) []:=by
 obtain⟨p,A,B,C,E,G,I,z,e1⟩:=u;unfold BH;refine eM call279 λF hF=>?_
 (repeat' (first|refine aQ ?_|refine yW (λhc=>?_) λhc=>?_|(apply zG;apply xP;(first|(refine vH 313 ?_;first|refine wJ (zL (PR _ _) Z Z Z Z Z) Z ?_|refine uX (zL (PR _ _) Z Z Z Z Z) Z Z Z ?_|refine aK (zL (PR _ _) Z Z Z Z Z) Z Z Z ?_)|(refine vH 277 ?_;first|refine wJ (zL (jH _) Z Z Z Z Z) Z ?_|refine uX (zL (jH _) Z Z Z Z Z) Z Z Z ?_|refine aK (zL (jH _) Z Z Z Z Z) Z Z Z ?_)))|fail))
 all_goals refine zI [] Z Z (zBp bA ?_) Z
 all_goals simp_all [vW]
