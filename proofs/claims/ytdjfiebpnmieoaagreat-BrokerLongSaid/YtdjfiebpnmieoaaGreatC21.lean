/- Part 21. -/
import Derived.Test.YtdjfiebpnmieoaaGreatC20
namespace Go.Proofs.YtdjfiebpnmieoaaGreat.Av
open Tryz
set_option linter.all false
set_option maxRecDepth 4000
set_option maxHeartbeats 1000000
open List renaming length->ln,replicate->nm,getD->ny
open Inhabited renaming default->dd
def bH (j:Jn) (u:ln j.ph<=1000) (c:Ct) (hc:ln c.li=ln j.ph) (r:Int):zO 293 [wD j,Jt c,iA r] [] (bA (TK j c r)) []:=by rw[jM];exact Dz j u c hc r
def Ic (j:Jn) (A:ln j.ph<=1000) (u:ln j.cf<=40) (c:Ct) (z:ln c.nx=2) (r:Int) (B:0<=r/\r<2) (t:Nat) (C:t<ln j.ph) (hx:c.nx.getD r.toNat dd= -1\/0<=c.nx.getD r.toNat dd):zO 292 [wD j,Jt c,iA r,iA (t:Int)] [] (iA (YV j c r t)) []:=by rw[jM];exact Cz j A u c z r B t C hx
def Oz (c:Ct) (u:ln c.li<=25):zO 295 [Jt c] [] (iA (IM c)) []:=by rw[jM];exact Fz c u
theorem Xx (p:Nat->Bool):∀n,n<=25->(fA p n=0↔∀i,i<n->p i=false)
 |0,_=>⟨λ_ i h=>absurd h (zB7 _),λ_=>rfl⟩
 | n+1,h=>by
  have z:=Xx p n zB;have hb:=SJ p n zB;have A:=Za n zB;unfold fA
  cases u:p n with
  |true=>
   rw[Os Z];refine⟨λh=>by omega,λh=>?_⟩;have:=h n zB;rw[u]at this;cases this
  |false=>
   rw[Of yX,z];refine⟨λh i hi=>?_,λh i hi=>h i zB⟩;by_cases e:i=n
   .rw[e];exact u
   .exact h i zB
def Nz (c:Ct) (u:ln c.li<=25):qc c=decide (IM c=0):=by
 rw[zEz,zAe];unfold IM qc;rw[Xx _ _ u,zAq];constructor
 .intro h i hi;have:=h (xT c i) (by simp[xT,ny,hi])
  grind [qc,IM,PR]
 all_goals grind [qc,IM,List.getElem_of_mem,PR,xT,ny]
def zC:wB:= .box [.s (.slice none 0 0),iA 0,.s (.slice none 0 0),iA 0]
def Gc (j:Jn) (t:Nat) (e:Bool) (i:Int) (c:Ct) (o:List Int):St:=⟨[(83,iA i),(2,iA t),(3,.ptr 3 0 0),(6,.ptr 6 0 0),(7,.ptr 3000 0 0)],UR e c o++[(3,.box [zD xQ j.ph,zD iA j.cf,iA j.st]),(6,zC)]⟩
def dY (j:Jn) (e:Bool) (i:Int) (c:Ct) (o:List Int):St:=⟨[(129,iA i),(3,.ptr 3 0 0),(6,.ptr 6 0 0),(7,.ptr 3000 0 0)],UR e c o++[(3,.box [zD xQ j.ph,zD iA j.cf,iA j.st]),(6,zC)]⟩
theorem Ll (j:Jn) (J:JV j) (c:Ct) (C:CV j c) (t:Int):zO 243 [wD j,HX c,iA t] [] (HX (EB j c t)) []:=by
 have hn:=J.n;have R:j.ph.length<=1000:=by omega
 have c5:=J.c;have ca:=C.n;have co:=C.m;have cp:=C.w;have da:=J.st;have c8:=zA xQ j.ph;have cu:(c.li.map xH).length=j.ph.length:=by rw[zAa];exact ca
 have c7:(c.nx.map iA).length=2:=by rw[zAa];exact co
 have k3:=zi c zB zB;unfold EB;by_cases hw:0<c.wt
 .rw[Os hw];refine eM call243 λF hF=>?_
  repeat' (first|(apply zG;first|(apply FZ;refine qB (nw:=[3000]) (dJ tok 3000 Z Z) Z Z Z ?_)|refine wX tok Z Z ?_|(apply xO;(first|(refine vG 171 ?_;first|refine yE (zL (k3) Z Z Z Z Z) Z ?_|refine qB (zL (k3) Z Z Z Z Z) Z Z Z ?_|refine ZR (zL (k3) Z Z Z Z Z) Z Z Z ?_)))|refine gD tok Z Z Z Z ?_|(apply gA;refine jR tok Z Z Z ?_)|refine dH UH ?_|apply uT)|first|refine SQ ?_|fail)
  refine WW ?_;exact zH [] Z Z (jM ⟨c.li,c.gr,c.nx,c.wt-1⟩) Z
 rw[Of hw];have h0:c.wt=0:=by omega
 have CL:=sm J C h0 t;have b6:=AI ca t;have b7:=Mf j c t;rw[cu]at k3;have hN:∀i,((KB j c t i).map xH).length=j.ph.length:=λi=>by rw[zAa];exact MH j c t i
 refine eM call243 λF hF=>?_
 repeat' (first|(apply zG;first|(apply FZ;refine qB (nw:=[3000]) (dJ tok 3000 Z Z) Z Z Z ?_)|refine wX tok Z Z ?_|(apply xO;(first|(refine vG 171 ?_;first|refine yE (zL (k3) Z Z Z Z Z) Z ?_|refine qB (zL (k3) Z Z Z Z Z) Z Z Z ?_|refine ZR (zL (k3) Z Z Z Z Z) Z Z Z ?_)))|refine gD tok Z Z Z Z ?_|(apply gA;refine jR tok Z Z Z ?_)|refine dH UH ?_|apply uT)|first|refine SQ ?_|fail)
 (repeat' (first|refine Xu ?_|apply yZ|apply xM|intro hc|(apply zG;first|refine SM ?_)|fail))
 refine yB Z (xB ?_);apply xK;refine WA [3000,1001,1002,3,4,6] [2,3,4,6,7,8] ⟨[(2,iA t),(3,.ptr 3 0 0),(4,.ptr 4 0 0),(6,.ptr 6 0 0),(7,.ptr 3000 0 0),(8,bA (XQ j t))],[(3000,.box [.ref 1001 0 j.ph.length,iA c.gr,.ref 1002 0 (c.nx.map iA).length,iA c.wt]),(1001,.arr 2 (c.li.map xH) false),(1002,.arr 1 (c.nx.map iA) false),(3,.box [zD xQ j.ph,zD iA j.cf,iA j.st]),(4,.box [zD xH c.li,iA c.gr,zD iA c.nx,iA c.wt]),(6,zC)]⟩ rfl ?_ ?_
 .clear k3 CL;by_cases a1:0<=t
  .by_cases a2:t<j.ph.length
   .rw[show XQ j t=true from zAd ⟨a1,a2⟩];refine WW ?_;exact⟨rfl,rfl⟩
   .rw[show XQ j t=false from zAc (λh=>a2 h.2)];refine WW ?_;exact⟨rfl,rfl⟩
  .rw[show XQ j t=false from zAc (λh=>a1 h.1)];refine WW ?_;exact⟨rfl,rfl⟩
 clear k3;refine WW ?_;refine zN (j.ph.length) [1001,3,6,3000,1002] [3,6,3000,1002] [2,3,6,7,8,38,39] [40,2,3,6,7,8,38,39] Z (λi T U=>⟨(40,iA i)::T,(1001,.arr 2 ((KB j c t i).map xH) false)::U⟩) ?_;(conv=>whnf);refine⟨by(rw[b6];rfl),?_,?_⟩
 .intro i hi;have hy:=zJ xQ j.ph i hi
  change (j.ph.map xQ)[i]? =some (xQ (yH j i))at hy
  have c3:=zJ xH c.li i zB
  change (c.li.map xH)[i]? =some (xH (xT c i))at c3
  have cn:∃l,((KB j c t i).map xH)[i]? =some (xH l):=⟨_,zJ xH (KB j c t i) i (by rw[MH];exact hi)⟩;obtain⟨lm,cn⟩:=cn;have db:=J.ti i hi;have dc:=bm (C.k i hi) zB zB;have cw:Tx (yH j i):=⟨zB,zB,zB,zB⟩;have c4:=hN i;have ls:=λlv=>Lt (yH j i) cw zB ⟨zB,zB⟩ (xT c i) (C.k i hi) lv
  have ck:=jP j.cf zB i t;have es:=AJ j c t i;have em:(KB j c t (i+1)).map xH=((KB j c t i).map xH).set i (xH (AK (yH j i) (xT c i) (EA j c t i))):=by rw[es,zBs]
  rw[em];have ac:EA j c t i=_:=rfl
  conv at ac=>rhs;unfold EA
  have bl:=ls (EA j c t i);clear ls es em CL hN b6 b7;generalize AK (yH j i) (xT c i) (EA j c t i)=ln,(KB j c t i).map xH=xs at *;generalize EA j c t i=lv at *;generalize kX j.cf i t=cq at*
  cases ha:XQ j t with
  |false=>
   rw[ha]at ac;rw[Of yX]at ac;generalize yH j i=ph,xT c i=l at *;by_cases hm:ph.maxg<=l.tk+1
   .rw[zAd hm]at ac;subst ac;refine zQ bl ?_;rfl
   .rw[zAc hm]at ac;subst ac;refine zQ bl ?_;rfl
  | true=>
   rw[ha]at ac;rw[Os Z]at ac;generalize yH j i=ph,xT c i=l at *;by_cases cj:(i:Int)=t
   .rw[zAc (λh=>h cj)]at ac;rw[zA7]at ac;subst ac;by_cases hm:ph.maxg<=l.tk+1
    all_goals
     (refine zQ bl ?_)
     rfl
   rw[zAd cj,zAo]at ac;by_cases hm:ph.maxg<=l.tk+1
   .rw[zAd hm,zC6]at ac;subst ac;refine zQ bl ?_;rfl
   .rw[zAc hm,zCp]at ac;rw[ac]at bl;clear ac
    cases cq with
    |true=>
     refine yJ (xV ck bl) ?_;rfl
    |false=>
     refine yJ (xV ck bl) ?_;rfl
 .rw [b7];have e1:((RQ j c t).map xH).length=j.ph.length:=by simp[RQ]
  have eH:∀x:List Li,x=RQ j c t->(x.map xH).length=j.ph.length:=λx h=>by rw[h];exact e1
  clear b7 b6 hN;have a8:=CL.n;have a7:=CL.m
  cases ha:XQ j t with
  | true=>
   rw[Os Z];unfold XQ at ha;rw[zAe]at ha;obtain⟨tn,rfl⟩:∃tn:Nat,t=tn:=⟨t.toNat,zB⟩;rw[zAx];generalize dg:tn=t at *;have ht:t<j.ph.length:=by omega
   obtain⟨u,ag⟩:∃u:Ct,u=⟨RQ j c t,c.gr,c.nx,c.wt⟩:=⟨_,rfl⟩;rw[<-ag]at CL a8 a7;rw[show RQ j c t=u.li by rw[ag]]at e1;rw[show RQ j c t=u.li by rw[ag],show c.gr=u.gr by rw[ag],show c.nx=u.nx by rw[ag],show c.wt=u.wt by rw[ag]];rw[show(⟨u.li,u.gr,u.nx,u.wt⟩:Ct)=u from Z];have bs:u.wt=0:=by rw[ag];exact h0
   clear ag eH;have V:u.li.length=j.ph.length:=a8;have W:u.nx.length=2:=a7;have a6:=CL;obtain⟨I,bu⟩:=om J a6 bs ht 0;have E:=I.n;have G:=I.m;have b2:=qm J (c:=u) (r:=0) ht;have ap:u.gr=u.gr:=rfl;refine WW ?_;refine eK [3000,1001,1002,2001,3,6] [83,2,3,6,7] (Gc j t false 0 u u.nx) (Gc j t (decide ((jQ j t u 0).gr≠u.gr)) 1 (jQ j t u 0) u.nx) (Gc j t (decide ((jQ j t (jQ j t u 0) 1).gr≠u.gr)) 2 (jQ j t (jQ j t u 0) 1) (if(jQ j t u 0).gr=u.gr then(jQ j t u 0).nx else u.nx)) Z (by unfold Gc;rw[show UR false u u.nx=kP u 1002 from Z];unfold kP;rw[e1];rfl) ?_ ?_ ?_
   .unfold Gc;clear b2 E G bu I;rw[show UR false u u.nx=kP u 1002 from Z];unfold kP;have hxv:=a6.v 0 zB;have cc:=Ic j R zB u W 0 zB t ht Wo;have O:=bH j R u V 0;by_cases B:YV j u 0 t= -1
    .rw[B]at cc;rw[show jQ j t u 0=u by unfold jQ;rw[Os B];split<;>rfl];rw[show decide (u.gr≠u.gr)=false from zAc (λh=>h ap)];clear O hxv B;refine zQ cc ?_;rfl
    obtain⟨p,L,hp,b1⟩:=TJ J (c:=u) (r:=0) ht B;rw[L]at cc
    cases hd:TK j u 0 with
    |false=>
     rw[hd]at O;rw[show jQ j t u 0=u by unfold jQ;rw[Of GO]];rw[show decide (u.gr≠u.gr)=false from zAc (λh=>h ap)];clear hd B L hxv;refine yJ (xV cc O) ?_;rfl
    |true=>
    rw[hd]at O;have z:jQ j t u 0=uM j u p:=by unfold jQ;rw[Os hd,Of B,L,zAx]
    clear B L hxv hd;by_cases hk:cW j u p=true\/u.gr=(yH j p).group
    .have cb:=aZ j J R zB u V W p hp (J.rg p hp) hk
     have az:(uM j u p).gr=u.gr:=by
      rcases gT j u p with h|h
      .exact(zAv Ct.gr h.2).trans ap
      .rcases hk with hk|hk
       .rw[hk]at h;cases h.1
       .exact h.2.trans (hk.symm.trans ap)
     rw[z,show decide ((uM j u p).gr≠u.gr)=false from zAc (λh=>h az)];generalize uM j u p=b at *;clear z az hk;unfold kP at cb;refine yJ (kC cc O cb) ?_;rfl
    .have bd:cW j u p=false:=by
      cases h:cW j u p with
      |false=>rfl
      |true=>exact absurd (.inl h) hk
     have bf:u.gr≠(yH j p).group:=λh=>hk (.inr h)
     have cb:=AF j J R zB u V W p hp (J.rg p hp) bd bf
     have az:(uM j u p).gr≠u.gr:=by
      rcases gT j u p with h|h
      .rw[bd]at h;cases h.1
      .rw[h.2,<-ap];exact λh=>bf h.symm
     rw[z,show decide ((uM j u p).gr≠u.gr)=true from zAd az];generalize uM j u p=b at *;clear z az hk bd bf;unfold kP ZV at cb;refine yJ (kC cc O cb) ?_;rfl
   .clear V W ap;have cr:=b2;generalize jQ j t u 0=A at *;unfold Gc;by_cases S:A.gr=u.gr
    .rw [Os S,zAc (λh=>h S)];rw[show UR false A u.nx=kP A 1002 from Z];unfold kP;have hxv:=I.v 1 zB;have cc:=Ic j R zB A G 1 zB t ht Wo;have O:=bH j R A E 1;by_cases B:YV j A 1 t= -1
     .rw[B]at cc;rw[show jQ j t A 1=A by unfold jQ;rw[Os B];split<;>rfl];rw[show decide (A.gr≠u.gr)=false from zAc (λh=>h S)];clear O hxv B;refine zQ cc ?_;rfl
     obtain⟨p,L,hp,b1⟩:=TJ J (c:=A) (r:=1) ht B;rw[L]at cc
     cases hd:TK j A 1 with
     |false=>
      rw[hd]at O;rw[show jQ j t A 1=A by unfold jQ;rw[Of GO]];rw[show decide (A.gr≠u.gr)=false from zAc (λh=>h S)];clear hd B L hxv;refine yJ (xV cc O) ?_;rfl
     |true=>
     rw[hd]at O;have z:jQ j t A 1=uM j A p:=by unfold jQ;rw[Os hd,Of B,L,zAx]
     clear B L hxv hd;by_cases hk:cW j A p=true\/A.gr=(yH j p).group
     .have cb:=aZ j J R zB A E G p hp (J.rg p hp) hk
      have az:(uM j A p).gr=u.gr:=by
       rcases gT j A p with h|h
       .exact(zAv Ct.gr h.2).trans S
       .rcases hk with hk|hk
        .rw[hk]at h;cases h.1
        .exact h.2.trans (hk.symm.trans S)
      rw[z,show decide ((uM j A p).gr≠u.gr)=false from zAc (λh=>h az)];generalize uM j A p=b at *;clear z az hk;unfold kP at cb;refine yJ (kC cc O cb) ?_;rfl
     .have bd:cW j A p=false:=by
       cases h:cW j A p with
       |false=>rfl
       |true=>exact absurd (.inl h) hk
      have bf:A.gr≠(yH j p).group:=λh=>hk (.inr h)
      have cb:=AF j J R zB A E G p hp (J.rg p hp) bd bf
      have az:(uM j A p).gr≠u.gr:=by
       rcases gT j A p with h|h
       .rw[bd]at h;cases h.1
       .rw[h.2,<-S];exact λh=>bf h.symm
      rw[z,show decide ((uM j A p).gr≠u.gr)=true from zAd az];generalize uM j A p=b at *;clear z az hk bd bf;unfold kP ZV at cb;refine yJ (kC cc O cb) ?_;rfl
    .have ar:A.gr≠u.gr:=S
     have br:A.gr=(yH j t).group:=by
      rcases cr with h|h
      .exact absurd h ar
      .exact h
     rw[Of S,zAd ar];rw[show UR true A u.nx=ZV A u.nx from Z];unfold ZV;have hxv:=I.v 1 zB;have cc:=Ic j R zB A G 1 zB t ht Wo;have O:=bH j R A E 1;by_cases B:YV j A 1 t= -1
     .rw[B]at cc;rw[show jQ j t A 1=A by unfold jQ;rw[Os B];split<;>rfl];rw[show decide (A.gr≠u.gr)=true from zAd ar];clear O hxv B;refine zQ cc ?_;rfl
     obtain⟨p,L,hp,b1⟩:=TJ J (c:=A) (r:=1) ht B;rw[L]at cc
     cases hd:TK j A 1 with
     |false=>
      rw[hd]at O;rw[show jQ j t A 1=A by unfold jQ;rw[Of GO]];rw[show decide (A.gr≠u.gr)=true from zAd ar];clear hd B L hxv;refine yJ (xV cc O) ?_;rfl
     |true=>
     rw[hd]at O;have z:jQ j t A 1=uM j A p:=by unfold jQ;rw[Os hd,Of B,L,zAx]
     clear B L hxv hd;have cb:=XP j J R zB A E G p hp (J.rg p hp) (.inr (br.trans (b1:(yH j p).group=(yH j t).group).symm))
     have az:(uM j A p).gr≠u.gr:=by
      rcases gT j A p with h|h
      .rw[h.2];exact ar
      .rw[h.2,(b1:(yH j p).group=(yH j t).group),<-br];exact ar
     rw[z,show decide ((uM j A p).gr≠u.gr)=true from zAd az];generalize uM j A p=b at *;clear z az;unfold kP at cb;refine yJ (kC cc O cb) ?_;rfl
   .generalize (if(jQ j t u 0).gr=u.gr then(jQ j t u 0).nx else u.nx)=o at *;generalize jQ j t (jQ j t u 0) 1=c2 at *;unfold Gc;by_cases he:c2.gr=u.gr
    .rw[zAc (λh=>h he)];refine WW ?_;exact zH [] Z Z (jM c2) Z
    .rw[zAd he];refine WW ?_;exact zH [] Z Z (jM c2) Z
  | false=>
   rw[Of yX];obtain⟨u,ag⟩:∃u:Ct,u=⟨RQ j c t,c.gr,c.nx,c.wt⟩:=⟨_,rfl⟩;rw[<-ag]at CL a8 a7;rw[show RQ j c t=u.li by rw[ag]]at e1;rw[show RQ j c t=u.li by rw[ag],show c.gr=u.gr by rw[ag],show c.nx=u.nx by rw[ag],show c.wt=u.wt by rw[ag]];rw[show(⟨u.li,u.gr,u.nx,u.wt⟩:Ct)=u from Z];have bs:u.wt=0:=by rw[ag];exact h0
   clear ag eH;have c6:=zA iA u.nx;have C:=CL;have cg:=Ah j R J.gp;have ci:=MI J
   have ch:fT j<=4:=by
    have:∀n,n<=j.ph.length->uc j.ph n<=4:=λn=>by
     induction n with
     |zero=>intro _;show(0:Int)<=4;omega
     |succ n ih=>
      intro h;have h1:=ih zB;have h2:=J.gp n zB;unfold yH at h2;unfold uc;omega
    exact this _ (zAg _)
   have b9:=C.g;have ba:(u.gr+1).tmod (fT j)=(u.gr+1) % fT j:=zBm zB;have hO:AG u u.nx.length=Wj u:=by unfold AG Wj;rw[zAb]
   have a9:AG u 0=decide (IM u=0):=by rw[<-Nz u zB];unfold AG;simp
   have ks:=Oz u zB;unfold Jt at ks;rw[e1]at ks;have hxv:=λ(i:Nat) (hi:i<2)=>C.v i hi
   clear CL cp hw;refine WW ?_;by_cases cm:IM u=0
   .have b0:decide (IM u=0)=true:=zAd cm;rw[b0]at a9;generalize IM u=se at *;refine zQ ks ?_;refine zN (u.nx.length) [3,6,3000,1001,1002] [3,6,3000,1001,1002] [3,6,7,108,109] [14,110,3,6,7,108,109] Z (λi T U=>⟨(14,bA (AG u i))::(110,iA i)::T,U⟩) ?_;(conv=>whnf);refine⟨by(rw[a9];rfl),?_,?_⟩
    .intro i hi;have hy:=zJ iA u.nx i hi;have hx:=hxv i zB
     have cx:u.nx.getD i default= -1\/0<=u.nx.getD i default:=by rcases hx with h|h;exact .inl h;exact .inr h.1
     have es:=KA u i hi;rw[es];clear hxv hx es cg ks hO a9;generalize AG u i=o,u.nx.getD i default=x at *;by_cases hx:x= -1
     .rw[show(x== -1)=true by rw[zBl];exact hx,zC3]
      cases o with
      |false=>
       refine WW ?_;rfl
      |true=>
       refine WW ?_;rfl
     .rw[show(x== -1)=false by rw[zAy];exact hx,zCa]
      cases o with
      |false=>
       refine WW ?_;rfl
      |true=>
       refine WW ?_;rfl
    .rw [hO];clear a9 hO ks hxv
     cases bb:Wj u with
     | true=>
      have a4:bc j u=vM j (vM j (OQ j u ((u.gr+1) % fT j)) 0) 1:=by unfold bc;rw[Os bb]
      rw[a4];have b4:0<=(u.gr+1) % fT j/\(u.gr+1) % fT j<fT j:=⟨zD4 _ zB,zDq _ zB⟩;have ax:=AO C b4;have b5:(OQ j u ((u.gr+1) % fT j)).wt=0:=bs;have ce:=LY j R ((u.gr+1) % fT j) u.gr u.wt (u.li.map xH) (u.nx.map iA) j.ph.length (u.nx.map iA).length
      have bx:([(3000,.box [.ref 1001 0 j.ph.length,iA ((u.gr+1) % fT j),.ref 2001 0 2,iA u.wt]),(1001,.arr 2 (u.li.map xH) false),(1002,.arr 1 (u.nx.map iA) false),(2001,.arr 1 [iA (jV j 0 ((u.gr+1) % fT j) 0),iA (jV j 1 ((u.gr+1) % fT j) 0)] false)]:List (Nat×wB))=ZV (OQ j u ((u.gr+1) % fT j)) u.nx:=by
       unfold ZV;rw[show((OQ j u ((u.gr+1) % fT j)).li.map xH).length=j.ph.length from e1];rfl
      rw[bx]at ce;clear bx;rw[<-ba]at ce;rw[ba]at ce;generalize b3:OQ j u ((u.gr+1) % fT j)=M at *;rw[<-ba]at ce;have cv:¬fT j=0:=by omega
      generalize fT j=gm at *;have a3:=ax.n;have a5:=ax.m;obtain⟨I,bu⟩:=XR J ax b5 (r:=0) zB;have E:=I.n;have G:=I.m
      change CV j (vM j M 0)at I
      change (vM j M 0).li.length=j.ph.length at E
      change (vM j M 0).nx.length=2 at G
      clear a4 b3 C;unfold ZV at ce;refine yJ (xV cg ce) ?_;refine eK [3000,1001,1002,2001,3,6] [129,3,6,7] (dY j true 0 M u.nx) (dY j true 1 (vM j M 0) u.nx) (dY j true 2 (vM j (vM j M 0) 1) u.nx) Z Z ?_ ?_ ?_
      .unfold dY;rw[show UR true M u.nx=ZV M u.nx from Z];unfold ZV;have O:=bH j R M a3 0;have av:=zJ iA M.nx 0 zB;have hv:=ax.v 0 zB;have bk:(M.nx.map iA).length=2:=by rw[zAa];exact a5
       cases hd:TK j M 0 with
       |false=>
        rw[hd]at O;rw[show vM j M 0=M by unfold vM;rw[Of YZ]];clear hd;refine zQ O ?_;rfl
       |true=>
       rw[hd]at O
       have z:vM j M 0=if M.nx.getD 0 default= -1 then M else uM j M (M.nx.getD 0 default).toNat:=by
        unfold vM;rw[hd]
        show(if true=true/\M.nx.getD 0 default≠ -1 then uM j M (M.nx.getD 0 default).toNat else M)=_
        by_cases h:M.nx.getD 0 default= -1
        .rw[Os h,Of (λk=>k.2 h)]
        .rw[Of h,Os ⟨rfl,h⟩]
       clear hd;by_cases B:M.nx.getD 0 default= -1
       .rw[Os B]at z;rw[z];clear z hv;generalize M.nx.getD 0 default=x at *;refine zQ O ?_;rfl
       .rw[Of B]at z
        have au:AL j (0:Nat) M.gr (M.nx.getD 0 default):=by
         rcases hv with h|h
         .exact absurd h B
         .exact h
        obtain⟨i1,i2,i3,Y⟩:=au;obtain⟨p,L⟩:∃p:Nat,M.nx.getD 0 default=p:=⟨(M.nx.getD 0 default).toNat,zB⟩;rw[L]at z av B i2 Y;rw[zAx]at z Y;have hp:p<j.ph.length:=by omega
        have cb:=XP j J R zB M a3 a5 p hp (J.rg p hp) (.inr Y.symm);rw[z];clear z hv i1 i2 i3 Y L;generalize uM j M p=b at *;unfold kP at cb;refine yJ (xV O cb) ?_;rfl
      .generalize vM j M 0=A at *;unfold dY;rw[show UR true A u.nx=ZV A u.nx from Z];unfold ZV;have O:=bH j R A E 1;have av:=zJ iA A.nx 1 zB;have hv:=I.v 1 zB;have bk:(A.nx.map iA).length=2:=by rw[zAa];exact G
       cases hd:TK j A 1 with
       |false=>
        rw[hd]at O;rw[show vM j A 1=A by unfold vM;rw[Of YZ]];clear hd;refine zQ O ?_;rfl
       |true=>
       rw[hd]at O
       have z:vM j A 1=if A.nx.getD 1 default= -1 then A else uM j A (A.nx.getD 1 default).toNat:=by
        unfold vM;rw[hd]
        show(if true=true/\A.nx.getD 1 default≠ -1 then uM j A (A.nx.getD 1 default).toNat else A)=_
        by_cases h:A.nx.getD 1 default= -1
        .rw[Os h,Of (λk=>k.2 h)]
        .rw[Of h,Os ⟨rfl,h⟩]
       clear hd;by_cases B:A.nx.getD 1 default= -1
       .rw[Os B]at z;rw[z];clear z hv;generalize A.nx.getD 1 default=x at *;refine zQ O ?_;rfl
       .rw[Of B]at z
        have au:AL j (1:Nat) A.gr (A.nx.getD 1 default):=by
         rcases hv with h|h
         .exact absurd h B
         .exact h
        obtain⟨i1,i2,i3,Y⟩:=au;obtain⟨p,L⟩:∃p:Nat,A.nx.getD 1 default=p:=⟨(A.nx.getD 1 default).toNat,zB⟩;rw[L]at z av B i2 Y;rw[zAx]at z Y;have hp:p<j.ph.length:=by omega
        have cb:=XP j J R zB A E G p hp (J.rg p hp) (.inr Y.symm);rw[z];clear z hv i1 i2 i3 Y L;generalize uM j A p=b at *;unfold kP at cb;refine yJ (xV O cb) ?_;rfl
      .generalize vM j (vM j M 0) 1=c2 at *;unfold dY;refine WW ?_;exact zH [] Z Z (jM c2) Z
     | false=>
      have a4:bc j u=vM j (vM j u 0) 1:=by unfold bc;rw[Of (by rw[bb];decide)]
      rw[a4];clear cg ba a4 ci ch b9;have a6:=C;have V:=a8;have W:=a7;obtain⟨I,bu⟩:=XR J C bs (r:=0) zB;have E:=I.n;have G:=I.m
      change CV j (vM j u 0)at I
      change (vM j u 0).li.length=j.ph.length at E
      change (vM j u 0).nx.length=2 at G
      clear bb;refine WW ?_;refine eK [3000,1001,1002,2001,3,6] [129,3,6,7] (dY j false 0 u u.nx) (dY j false 1 (vM j u 0) u.nx) (dY j false 2 (vM j (vM j u 0) 1) u.nx) Z (by unfold dY;rw[show UR false u u.nx=kP u 1002 from Z];unfold kP;rw[e1];rfl) ?_ ?_ ?_
      .unfold dY;rw[show UR false u u.nx=kP u 1002 from Z];unfold kP;have O:=bH j R u V 0;have av:=zJ iA u.nx 0 zB;have hv:=a6.v 0 zB;have bk:(u.nx.map iA).length=2:=by rw[zAa];exact W
       cases hd:TK j u 0 with
       |false=>
        rw[hd]at O;rw[show vM j u 0=u by unfold vM;rw[Of YZ]];clear hd;refine zQ O ?_;rfl
       |true=>
       rw[hd]at O
       have z:vM j u 0=if u.nx.getD 0 default= -1 then u else uM j u (u.nx.getD 0 default).toNat:=by
        unfold vM;rw[hd]
        show(if true=true/\u.nx.getD 0 default≠ -1 then uM j u (u.nx.getD 0 default).toNat else u)=_
        by_cases h:u.nx.getD 0 default= -1
        .rw[Os h,Of (λk=>k.2 h)]
        .rw[Of h,Os ⟨rfl,h⟩]
       clear hd;by_cases B:u.nx.getD 0 default= -1
       .rw[Os B]at z;rw[z];clear z hv;generalize u.nx.getD 0 default=x at *;refine zQ O ?_;rfl
       .rw[Of B]at z
        have au:AL j (0:Nat) u.gr (u.nx.getD 0 default):=by
         rcases hv with h|h
         .exact absurd h B
         .exact h
        obtain⟨i1,i2,i3,Y⟩:=au;obtain⟨p,L⟩:∃p:Nat,u.nx.getD 0 default=p:=⟨(u.nx.getD 0 default).toNat,zB⟩;rw[L]at z av B i2 Y;rw[zAx]at z Y;have hp:p<j.ph.length:=by omega
        have cb:=aZ j J R zB u V W p hp (J.rg p hp) (.inr Y.symm);rw[z];clear z hv i1 i2 i3 Y L;generalize uM j u p=b at *;unfold kP at cb;refine yJ (xV O cb) ?_;rfl
      .generalize vM j u 0=A at *;unfold dY;rw[show UR false A u.nx=kP A 1002 from Z];unfold kP;have O:=bH j R A E 1;have av:=zJ iA A.nx 1 zB;have hv:=I.v 1 zB;have bk:(A.nx.map iA).length=2:=by rw[zAa];exact G
       cases hd:TK j A 1 with
       |false=>
        rw[hd]at O;rw[show vM j A 1=A by unfold vM;rw[Of YZ]];clear hd;refine zQ O ?_;rfl
       |true=>
       rw[hd]at O
       have z:vM j A 1=if A.nx.getD 1 default= -1 then A else uM j A (A.nx.getD 1 default).toNat:=by
        unfold vM;rw[hd]
        show(if true=true/\A.nx.getD 1 default≠ -1 then uM j A (A.nx.getD 1 default).toNat else A)=_
        by_cases h:A.nx.getD 1 default= -1
        .rw[Os h,Of (λk=>k.2 h)]
        .rw[Of h,Os ⟨rfl,h⟩]
       clear hd;by_cases B:A.nx.getD 1 default= -1
       .rw[Os B]at z;rw[z];clear z hv;generalize A.nx.getD 1 default=x at *;refine zQ O ?_;rfl
       .rw[Of B]at z
        have au:AL j (1:Nat) A.gr (A.nx.getD 1 default):=by
         rcases hv with h|h
         .exact absurd h B
         .exact h
        obtain⟨i1,i2,i3,Y⟩:=au;obtain⟨p,L⟩:∃p:Nat,A.nx.getD 1 default=p:=⟨(A.nx.getD 1 default).toNat,zB⟩;rw[L]at z av B i2 Y;rw[zAx]at z Y;have hp:p<j.ph.length:=by omega
        have cb:=aZ j J R zB A E G p hp (J.rg p hp) (.inr Y.symm);rw[z];clear z hv i1 i2 i3 Y L;generalize uM j A p=b at *;unfold kP at cb;refine yJ (xV O cb) ?_;rfl
      .generalize vM j (vM j u 0) 1=c2 at *;unfold dY;refine WW ?_;exact zH [] Z Z (jM c2) Z
   .have b0:decide (IM u=0)=false:=zAc cm;rw[b0]at a9;generalize IM u=se at *;refine zQ ks ?_;refine zN (u.nx.length) [3,6,3000,1001,1002] [3,6,3000,1001,1002] [3,6,7,108,109] [14,110,3,6,7,108,109] Z (λi T U=>⟨(14,bA (AG u i))::(110,iA i)::T,U⟩) ?_;(conv=>whnf);refine⟨by(rw[a9];rfl),?_,?_⟩
    .intro i hi;have hy:=zJ iA u.nx i hi;have hx:=hxv i zB
     have cx:u.nx.getD i default= -1\/0<=u.nx.getD i default:=by rcases hx with h|h;exact .inl h;exact .inr h.1
     have es:=KA u i hi;rw[es];clear hxv hx es cg ks hO a9;generalize AG u i=o,u.nx.getD i default=x at *;by_cases hx:x= -1
     .rw[show(x== -1)=true by rw[zBl];exact hx,zC3]
      cases o with
      |false=>
       refine WW ?_;rfl
      |true=>
       refine WW ?_;rfl
     .rw[show(x== -1)=false by rw[zAy];exact hx,zCa]
      cases o with
      |false=>
       refine WW ?_;rfl
      |true=>
       refine WW ?_;rfl
    .rw [hO];clear a9 hO ks hxv
     cases bb:Wj u with
     | true=>
      have a4:bc j u=vM j (vM j (OQ j u ((u.gr+1) % fT j)) 0) 1:=by unfold bc;rw[Os bb]
      rw[a4];have b4:0<=(u.gr+1) % fT j/\(u.gr+1) % fT j<fT j:=⟨zD4 _ zB,zDq _ zB⟩;have ax:=AO C b4;have b5:(OQ j u ((u.gr+1) % fT j)).wt=0:=bs;have ce:=LY j R ((u.gr+1) % fT j) u.gr u.wt (u.li.map xH) (u.nx.map iA) j.ph.length (u.nx.map iA).length
      have bx:([(3000,.box [.ref 1001 0 j.ph.length,iA ((u.gr+1) % fT j),.ref 2001 0 2,iA u.wt]),(1001,.arr 2 (u.li.map xH) false),(1002,.arr 1 (u.nx.map iA) false),(2001,.arr 1 [iA (jV j 0 ((u.gr+1) % fT j) 0),iA (jV j 1 ((u.gr+1) % fT j) 0)] false)]:List (Nat×wB))=ZV (OQ j u ((u.gr+1) % fT j)) u.nx:=by
       unfold ZV;rw[show((OQ j u ((u.gr+1) % fT j)).li.map xH).length=j.ph.length from e1];rfl
      rw[bx]at ce;clear bx;rw[<-ba]at ce;rw[ba]at ce;generalize b3:OQ j u ((u.gr+1) % fT j)=M at *;rw[<-ba]at ce;have cv:¬fT j=0:=by omega
      generalize fT j=gm at *;have a3:=ax.n;have a5:=ax.m;obtain⟨I,bu⟩:=XR J ax b5 (r:=0) zB;have E:=I.n;have G:=I.m
      change CV j (vM j M 0)at I
      change (vM j M 0).li.length=j.ph.length at E
      change (vM j M 0).nx.length=2 at G
      clear a4 b3 C;unfold ZV at ce;refine yJ (xV cg ce) ?_;refine eK [3000,1001,1002,2001,3,6] [129,3,6,7] (dY j true 0 M u.nx) (dY j true 1 (vM j M 0) u.nx) (dY j true 2 (vM j (vM j M 0) 1) u.nx) Z Z ?_ ?_ ?_
      .unfold dY;rw[show UR true M u.nx=ZV M u.nx from Z];unfold ZV;have O:=bH j R M a3 0;have av:=zJ iA M.nx 0 zB;have hv:=ax.v 0 zB;have bk:(M.nx.map iA).length=2:=by rw[zAa];exact a5
       cases hd:TK j M 0 with
       |false=>
        rw[hd]at O;rw[show vM j M 0=M by unfold vM;rw[Of YZ]];clear hd;refine zQ O ?_;rfl
       |true=>
       rw[hd]at O
       have z:vM j M 0=if M.nx.getD 0 default= -1 then M else uM j M (M.nx.getD 0 default).toNat:=by
        unfold vM;rw[hd]
        show(if true=true/\M.nx.getD 0 default≠ -1 then uM j M (M.nx.getD 0 default).toNat else M)=_
        by_cases h:M.nx.getD 0 default= -1
        .rw[Os h,Of (λk=>k.2 h)]
        .rw[Of h,Os ⟨rfl,h⟩]
       clear hd;by_cases B:M.nx.getD 0 default= -1
       .rw[Os B]at z;rw[z];clear z hv;generalize M.nx.getD 0 default=x at *;refine zQ O ?_;rfl
       .rw[Of B]at z
        have au:AL j (0:Nat) M.gr (M.nx.getD 0 default):=by
         rcases hv with h|h
         .exact absurd h B
         .exact h
        obtain⟨i1,i2,i3,Y⟩:=au;obtain⟨p,L⟩:∃p:Nat,M.nx.getD 0 default=p:=⟨(M.nx.getD 0 default).toNat,zB⟩;rw[L]at z av B i2 Y;rw[zAx]at z Y;have hp:p<j.ph.length:=by omega
        have cb:=XP j J R zB M a3 a5 p hp (J.rg p hp) (.inr Y.symm);rw[z];clear z hv i1 i2 i3 Y L;generalize uM j M p=b at *;unfold kP at cb;refine yJ (xV O cb) ?_;rfl
      .generalize vM j M 0=A at *;unfold dY;rw[show UR true A u.nx=ZV A u.nx from Z];unfold ZV;have O:=bH j R A E 1;have av:=zJ iA A.nx 1 zB;have hv:=I.v 1 zB;have bk:(A.nx.map iA).length=2:=by rw[zAa];exact G
       cases hd:TK j A 1 with
       |false=>
        rw[hd]at O;rw[show vM j A 1=A by unfold vM;rw[Of YZ]];clear hd;refine zQ O ?_;rfl
       |true=>
       rw[hd]at O
       have z:vM j A 1=if A.nx.getD 1 default= -1 then A else uM j A (A.nx.getD 1 default).toNat:=by
        unfold vM;rw[hd]
        show(if true=true/\A.nx.getD 1 default≠ -1 then uM j A (A.nx.getD 1 default).toNat else A)=_
        by_cases h:A.nx.getD 1 default= -1
        .rw[Os h,Of (λk=>k.2 h)]
        .rw[Of h,Os ⟨rfl,h⟩]
       clear hd;by_cases B:A.nx.getD 1 default= -1
       .rw[Os B]at z;rw[z];clear z hv;generalize A.nx.getD 1 default=x at *;refine zQ O ?_;rfl
       .rw[Of B]at z
        have au:AL j (1:Nat) A.gr (A.nx.getD 1 default):=by
         rcases hv with h|h
         .exact absurd h B
         .exact h
        obtain⟨i1,i2,i3,Y⟩:=au;obtain⟨p,L⟩:∃p:Nat,A.nx.getD 1 default=p:=⟨(A.nx.getD 1 default).toNat,zB⟩;rw[L]at z av B i2 Y;rw[zAx]at z Y;have hp:p<j.ph.length:=by omega
        have cb:=XP j J R zB A E G p hp (J.rg p hp) (.inr Y.symm);rw[z];clear z hv i1 i2 i3 Y L;generalize uM j A p=b at *;unfold kP at cb;refine yJ (xV O cb) ?_;rfl
      .generalize vM j (vM j M 0) 1=c2 at *;unfold dY;refine WW ?_;exact zH [] Z Z (jM c2) Z
     | false=>
      have a4:bc j u=vM j (vM j u 0) 1:=by unfold bc;rw[Of (by rw[bb];decide)]
      rw[a4];clear cg ba a4 ci ch b9;have a6:=C;have V:=a8;have W:=a7;obtain⟨I,bu⟩:=XR J C bs (r:=0) zB;have E:=I.n;have G:=I.m
      change CV j (vM j u 0)at I
      change (vM j u 0).li.length=j.ph.length at E
      change (vM j u 0).nx.length=2 at G
      clear bb;refine WW ?_;refine eK [3000,1001,1002,2001,3,6] [129,3,6,7] (dY j false 0 u u.nx) (dY j false 1 (vM j u 0) u.nx) (dY j false 2 (vM j (vM j u 0) 1) u.nx) Z (by unfold dY;rw[show UR false u u.nx=kP u 1002 from Z];unfold kP;rw[e1];rfl) ?_ ?_ ?_
      .unfold dY;rw[show UR false u u.nx=kP u 1002 from Z];unfold kP;have O:=bH j R u V 0;have av:=zJ iA u.nx 0 zB;have hv:=a6.v 0 zB;have bk:(u.nx.map iA).length=2:=by rw[zAa];exact W
       cases hd:TK j u 0 with
       |false=>
        rw[hd]at O;rw[show vM j u 0=u by unfold vM;rw[Of YZ]];clear hd;refine zQ O ?_;rfl
       |true=>
       rw[hd]at O
       have z:vM j u 0=if u.nx.getD 0 default= -1 then u else uM j u (u.nx.getD 0 default).toNat:=by
        unfold vM;rw[hd]
        show(if true=true/\u.nx.getD 0 default≠ -1 then uM j u (u.nx.getD 0 default).toNat else u)=_
        by_cases h:u.nx.getD 0 default= -1
        .rw[Os h,Of (λk=>k.2 h)]
        .rw[Of h,Os ⟨rfl,h⟩]
       clear hd;by_cases B:u.nx.getD 0 default= -1
       .rw[Os B]at z;rw[z];clear z hv;generalize u.nx.getD 0 default=x at *;refine zQ O ?_;rfl
       .rw[Of B]at z
        have au:AL j (0:Nat) u.gr (u.nx.getD 0 default):=by
         rcases hv with h|h
         .exact absurd h B
         .exact h
        obtain⟨i1,i2,i3,Y⟩:=au;obtain⟨p,L⟩:∃p:Nat,u.nx.getD 0 default=p:=⟨(u.nx.getD 0 default).toNat,zB⟩;rw[L]at z av B i2 Y;rw[zAx]at z Y;have hp:p<j.ph.length:=by omega
        have cb:=aZ j J R zB u V W p hp (J.rg p hp) (.inr Y.symm);rw[z];clear z hv i1 i2 i3 Y L;generalize uM j u p=b at *;unfold kP at cb;refine yJ (xV O cb) ?_;rfl
      .generalize vM j u 0=A at *;unfold dY;rw[show UR false A u.nx=kP A 1002 from Z];unfold kP;have O:=bH j R A E 1;have av:=zJ iA A.nx 1 zB;have hv:=I.v 1 zB;have bk:(A.nx.map iA).length=2:=by rw[zAa];exact G
       cases hd:TK j A 1 with
       |false=>
        rw[hd]at O;rw[show vM j A 1=A by unfold vM;rw[Of YZ]];clear hd;refine zQ O ?_;rfl
       |true=>
       rw[hd]at O
       have z:vM j A 1=if A.nx.getD 1 default= -1 then A else uM j A (A.nx.getD 1 default).toNat:=by
        unfold vM;rw[hd]
        show(if true=true/\A.nx.getD 1 default≠ -1 then uM j A (A.nx.getD 1 default).toNat else A)=_
        by_cases h:A.nx.getD 1 default= -1
        .rw[Os h,Of (λk=>k.2 h)]
        .rw[Of h,Os ⟨rfl,h⟩]
       clear hd;by_cases B:A.nx.getD 1 default= -1
       .rw[Os B]at z;rw[z];clear z hv;generalize A.nx.getD 1 default=x at *;refine zQ O ?_;rfl
       .rw[Of B]at z
        have au:AL j (1:Nat) A.gr (A.nx.getD 1 default):=by
         rcases hv with h|h
         .exact absurd h B
         .exact h
        obtain⟨i1,i2,i3,Y⟩:=au;obtain⟨p,L⟩:∃p:Nat,A.nx.getD 1 default=p:=⟨(A.nx.getD 1 default).toNat,zB⟩;rw[L]at z av B i2 Y;rw[zAx]at z Y;have hp:p<j.ph.length:=by omega
        have cb:=aZ j J R zB A E G p hp (J.rg p hp) (.inr Y.symm);rw[z];clear z hv i1 i2 i3 Y L;generalize uM j A p=b at *;unfold kP at cb;refine yJ (xV O cb) ?_;rfl
      .generalize vM j (vM j u 0) 1=c2 at *;unfold dY;refine WW ?_;exact zH [] Z Z (jM c2) Z
def Dh (j:Jn) (G:ln j.ph<=1000) (g R M:Int) (L:List AV) (I:Nat):zO 146 [wD j,.ptr 3000 0 0,iA g] [(3000,.box [.ref 1001 0 I,iA R,.s (.slice none 0 0),iA M]),(1001,.arr 2 L false)] (.tup [])
  [(3000,.box [.ref 1001 0 I,iA g,.ref 2001 0 2,iA M]),(1001,.arr 2 L false),(2001,.arr 1 [iA (jV j 0 g 0),iA (jV j 1 g 0)] false)]:=by
 have C:=ZU j G 0 g (-1);have E:=ZU j G 1 g (-1);rw[show(-1:Int)+1=0 by omega]at C E;generalize jV j 0 g 0=u,jV j 1 g 0=z at *;obtain⟨B,A⟩:∃n:Nat,n=2:=⟨2,rfl⟩;refine eM call146 λF hF=>?_
 refine WW ?_;refine zS 6 2001 1 Z Z Z ?_;refine zN (B) [2001,3,3000,1001] [3,3000,1001] [1,2,3] [6,8,1,2,3] Z (λi T U=>⟨(6,.ref 2001 0 (Mr u z i).length)::(8,iA i)::T,(2001,.arr 1 (Mr u z i) (i != 1))::U⟩) (Lq ?_ ?_)
 .intro i hi;have:i=0\/i=1:=by omega
  rcases this with rfl|rfl
  .have hl:(Mr u z 0).length=0:=rfl;refine zQ C ?_;rfl
  .have hl:(Mr u z 1).length=1:=rfl;refine zQ E ?_;rfl
 .have O:Mr u z B=[iA u,iA z]:=by rw[A];rfl
  have e3:(B != 1)=true:=by rw[A];rfl
  rw[O,e3]
  (repeat' (first|refine Xu ?_|apply yZ|apply xM|intro hc|(apply zG;first|refine SM ?_)|fail))
  refine yB Z (xJ ?_);refine kV 2001 [6] Z Z Z Z Z ?_;refine WW ?_;exact qM [3000,1001,2001] Z Z Z Z
def Rt (j:Jn) (C:ln j.ph<=1000):zO 79 [wD j] [] (HX (Bh j)) []:=by
 have z:=zA xQ j.ph;have u:=Dh j C 0 0 j.st ((nm (ln j.ph) (⟨0,0⟩:Li)).map xH) ((nm (ln j.ph) (⟨0,0⟩:Li)).map xH).length;have A:(nm (ln j.ph) (⟨0,0⟩:Li)).map xH=nm (ln j.ph) (xH ⟨0,0⟩):=zDr;have eN:((nm (ln j.ph) (⟨0,0⟩:Li)).map xH).length=ln j.ph:=by simp
 rw[eN,A]at u;rw[<-z]at u;refine eM call79 λF hF=>?_
 repeat' (first|(apply zG;first|(apply Dl;refine qB (nw:=[3000]) (dJ tok 3000 Z Z) Z Z Z ?_)|refine wX tok Z Z ?_|(apply eJ;refine cJ 1001 tok Z Z Z Z Z Z Z Z Z Z Z Z Z zB zB Z Z Z ?_)|refine gD tok Z Z Z Z ?_|(apply xO;(first|(refine vG 146 ?_;first|refine yE (zL (u) Z Z Z Z Z) Z ?_|refine qB (zL (u) Z Z Z Z Z) Z Z Z ?_|refine ZR (zL (u) Z Z Z Z Z) Z Z Z ?_)))|(apply gA;refine jR tok Z Z Z ?_)|refine dH UH ?_|apply uT)|first|refine SQ ?_|fail)
 have B:AV.agg [.sl false ((nm (j.ph.map xQ).length (xH ⟨0,0⟩)).take (j.ph.map xQ).length),iA 0,.sl false [iA (jV j 0 0 0),iA (jV j 1 0 0)],iA j.st]=HX (Bh j):=by
  rw[zAj zW,z,<-A];rfl
 exact zH [] Z Z B Z
structure Sg where
 c:Ct
 lat:Bool
def wC (s:Sg):AV:= .agg [zD xH s.c.li,iA s.c.gr,zD iA s.c.nx,iA s.c.wt,bA s.lat]
def qZ (j:Jn):Sg:=⟨Bh j,false⟩
def Vf (j:Jn) (s:Sg) (t k:Int):Sg:=if s.lat=true then s else⟨EB j s.c t,ym j.cf (aY (EB j s.c t).li k)⟩
def Nr (j:Jn) (s:Sg):Sg:=if s.lat=true then qZ j else s
def BZ {α:Type} (f:α->AV) (l:List α):AV.sl false ((l.map f).take (l.map f).length)=zD f l:=by rw[zAb];rfl
def HU (l:List Int) (hl:ln l<=1073741824):zO 103 [zD iA l] [] (zD iA l) []:=by
 have u:=zA iA l;refine eM call103 λF hF=>?_
 refine xI 0 Z (λcap hx=>?_) ?_
 .have:l=[]:=by simpa using hx
  subst this;exact lc
 ·(refine WW ?_)
  refine zH [] Z Z (BZ _ _) Z
def HV (l:List Li) (hl:ln l<=1073741824):zO 168 [zD xH l] [] (zD xH l) []:=by
 have u:=zA xH l;refine eM call168 λF hF=>?_
 refine xI 0 Z (λcap hx=>?_) ?_
 .have:l=[]:=by simpa using hx
  subst this;exact lc
 ·(refine WW ?_)
  refine zH [] Z Z (BZ _ _) Z
def AA (s:Sg) (h1:ln s.c.li<=1073741824) (h2:ln s.c.nx<=1073741824):zO 120 [wC s] [] (wC s) []:=by
 have u:=HV s.c.li h1;have z:=HU s.c.nx h2;refine eM call120 λF hF=>?_
 exact ld (xV u z)
def Kl (c:Ct) (h1:ln c.li<=1000) (h2:ln c.nx<=1000):zO 171 [HX c] [] (HX c) []:=by
 have hl:=zA xH c.li;have u:=zA iA c.nx;refine eM call171 λF hF=>?_
 exact lp
def MC (s:Sg) (h1:ln s.c.li<=1000) (h2:ln s.c.nx<=1000):zO 106 [wC s] [] (wC s) []:=by
 have u:=Kl s.c h1 h2;refine eM call106 λF hF=>?_
 exact lk u
def Jl (j:Jn) (J:JV j):zO 34 [wD j] [] (wC (qZ j)) []:=by
 have u:=Kz j GN;unfold qZ;generalize Bh j=c at *;refine eM call34 λF hF=>?_
 exact lk u
def Uf (j:Jn) (J:JV j):zO 40 [wD j] [] (wC (qZ j)) []:=by
 have u:=Rt j GN;unfold qZ;generalize Bh j=c at *;refine eM call40 λF hF=>?_
 exact lk u
def Qt (j:Jn) (J:JV j) (s:Sg) (C:CV j s.c) (t k:Int):zO 182 [wD j,wC s,iA t,iA k] [] (wC (Vf j s t k)) []:=by
 have I:=J.n;have hc:=J.c;have M:=C.n;have L:=C.m;have A:=AA s zB zB;have B:=o0 j J s.c C t;have z:=im J C t;have E:=Iz (EB j s.c t).li (by have:=z.n;omega) k;have G:=Hz j.cf (aY (EB j s.c t).li k) zB (by rw[AD];have:=z.n;omega);unfold Vf;generalize ym j.cf (aY (EB j s.c t).li k)=f at *;generalize aY (EB j s.c t).li k=O at *;generalize EB j s.c t=c at *;obtain⟨R,u⟩:=s
 cases u with
 |true=>
  rw[Os Z];refine eM call182 λF hF=>?_
  exact lk A
 |false=>
  rw[Of zAp];refine eM call182 λF hF=>?_
  exact ld (kC B E G)
def Il (j:Jn) (J:JV j) (s:Sg) (C:CV j s.c) (t k:Int):zO 203 [wD j,wC s,iA t,iA k] [] (wC (Vf j s t k)) []:=by
 have I:=J.n;have hc:=J.c;have M:=C.n;have L:=C.m;have A:=MC s zB zB;have B:=Ll j J s.c C t;have z:=im J C t;have E:=Nt (EB j s.c t).li (by have:=z.n;omega) k;have G:=Mt j.cf (aY (EB j s.c t).li k) zB (by rw[AD];have:=z.n;omega);unfold Vf;generalize ym j.cf (aY (EB j s.c t).li k)=f at *;generalize aY (EB j s.c t).li k=O at *;generalize EB j s.c t=c at *;obtain⟨R,u⟩:=s
 cases u with
 |true=>
  rw[Os Z];refine eM call203 λF hF=>?_
  exact lk A
 |false=>
  rw[Of zAp];refine eM call203 λF hF=>?_
  exact ld (kC B E G)
def Hl (j:Jn) (J:JV j) (s:Sg) (h1:ln s.c.li<=1073741824) (h2:ln s.c.nx<=1073741824):zO 59 [wD j,wC s] [] (.tup [wC (Nr j s),bA s.lat]) []:=by
 have A:=AA s h1 h2;have B:=Jl j J;unfold Nr;generalize qZ j=z at *;obtain⟨C,u⟩:=s
 cases u with
 |true=>
  rw[Os Z];refine eM call59 λF hF=>?_
  exact lk B
 |false=>
  rw[Of zAp];refine eM call59 λF hF=>?_
  exact lk A
def Ch (j:Jn) (J:JV j) (s:Sg) (h1:ln s.c.li<=1000) (h2:ln s.c.nx<=1000):zO 157 [wD j,wC s] [] (.tup [wC (Nr j s),bA s.lat]) []:=by
 have A:=MC s h1 h2;have B:=Uf j J;unfold Nr;generalize qZ j=z at *;obtain⟨C,u⟩:=s
 cases u with
 |true=>
  rw[Os Z];refine eM call157 λF hF=>?_
  exact lk B
 |false=>
  rw[Of zAp];refine eM call157 λF hF=>?_
  exact lk A
def U9:Ph:=⟨0,0,2,3,1,1,0,0⟩
def j0:Jn:=⟨[U9,U9],[2,1],0⟩
def two {p:Nat} (h:p<ln j0.ph):p=0\/p=1:=by
 have:ln j0.ph=2:=rfl;omega
theorem Mz {j:Jn} (J:JV j) {s:Sg} (C:CV j s.c) (t k:Int):CV j (Vf j s t k).c:=by grind [Vf,im]
def X8 {j:Jn} (J:JV j) {s:Sg} (C:CV j s.c):CV j (Nr j s).c:=by
 unfold Nr;split
 .exact Rf J
 .exact C
def T9:Ph:=⟨0,0,2,3,1,0,0,0⟩
def j1:Jn:=⟨[T9,T9],[2,1],0⟩
def WG {p q:Prop} (k:q) (h:YW q->p:=by(intro u;(repeat' (first|refine XC ?_|refine yZ (λhc=>?_) λhc=>?_|fail));exact u.h)):p:=h ⟨k⟩
def WO {p q:Prop} (k:q) (h:YW q->p:=by(intro u;(repeat' (first|refine XC ?_|refine yZ (λhc=>?_) λhc=>?_|fail));exact u.h)):p:=h ⟨k⟩
def mt{p:Prop}(h:p:=by(refine WO ?_;exact zI)):p:=h
def e1 (d:Dk) (f4:Int):Int:=[-1,0,max (-1) (f4-nx d 6)].getD (nx (ad d) 3).toNat 0
def d0 (xs:List Int) (hl:ln xs<=9223372036854775807):Dk:=⟨xs,0,zAr _,hl⟩
def bX (z:List Int) (u:Int):Int:=if u<0\/(ln z:Int)<=u then -1 else z.getD u.toNat 0
def bV (k:Int):Bool:=k==2||k==3
def gS (u:List Int) (z A:Int):Int:=max A (bX u z)
def MD (s:Sv) (c:Cl):zO 312 [xY s,kS c] [] (iA (bX s.en c.ph)) []:=by
 have hl:(s.en.map iA).length=ln s.en:=by simp
 by_cases h1:c.ph<0
 .rw[show bX s.en c.ph= -1 by simp[bX,h1]];refine eM call312 λF hF=>?_
  exact mt
 .by_cases h2:(ln s.en:Int)<=c.ph
  .rw[show bX s.en c.ph= -1 by simp[bX,h2]];refine eM call312 λF hF=>?_
   exact mt
  .rw[show bX s.en c.ph=s.en.getD c.ph.toNat 0 by unfold bX;rw[Of zB]];have u:=yF iA s.en c.ph zB zB;refine eM call312 λF hF=>?_
   exact mt
def jU (c:Cl):zO 266 [kS c] [] (bA (bV c.k)) []:=by
 unfold bV;by_cases h:c.k=2
 .rw[show(c.k==2||c.k==3)=true by simp[h]];refine eM call266 λF hF=>?_
  exact mt
 .rw[show(c.k==2||c.k==3)=(c.k==3) by simp[h]];refine eM call266 λF hF=>?_
  exact mt
def RO (s:Sv) (c:Cl):zO 314 [xY s,kS c] [] (iA (gS s.en c.ph c.si)) []:=by
 refine eM call314 λF hF=>?_
 (repeat' (first|refine XC ?_|refine yZ (λhc=>?_) λhc=>?_|(apply zG;apply xO;refine yE (zL (MD ⟨_,_,_⟩ ⟨_,_,_,_,_⟩) Z Z Z Z Z) Z ?_)|fail))
 exact zI
def Fc (n d:Int) (hd:1<=d) (u:n.tmod d=0):n.tdiv d=n/d:=by grind [Int.tmod_add_mul_tdiv,Int.ediv_eq_of_eq_mul_right]
def FY (n d:Int) (G:n<0) (hd:1<=d) (E:n.tmod d≠0):n.tdiv d-1=n/d:=by
 have h1:=Int.tmod_add_mul_tdiv n d;have u:n.tmod d= -((-n).tmod d):=by rw[Int.neg_tmod];omega
 have A: -d<n.tmod d:=by
  have:=Int.tmod_lt_of_pos (-n) (show 0<d by omega);omega
 have B:n.tmod d<=0:=by
  have:=Int.tmod_nonneg d (show 0<= -n by omega);omega
 clear u;have z:n=d*(n.tdiv d-1)+(n.tmod d+d):=by rw[Int.mul_sub];omega
 generalize n.tdiv d=q,n.tmod d=r at *
 have C:n/d=q-1:=by
  rw[z,Int.mul_add_ediv_left _ _ zB,Int.ediv_eq_zero_of_lt zB zB];omega
 omega
def Tf (n d:Int) (hd:1<=d) (h1: -4611686018427387904<=n) (h2:n<=4611686018427387904): -4611686018427387904<=n.tdiv d/\n.tdiv d<=4611686018427387904:=by
 by_cases h:0<=n
 .have:=IntWalk.tdiv_le n d h hd
  grind
 .have u:n.tdiv d= -((-n).tdiv d):=by rw[Int.neg_tdiv];omega
  have:=IntWalk.tdiv_le (-n) d zB hd
  grind
def TF (n d:Int) (hd:1<=d) (h1: -4611686018427387904<=n) (h2:n<=4611686018427387904):zO 360 [iA n,iA d] [] (iA (n/d)) []:=by
 have hb:=Tf n d hd h1 h2;have A:UJ .i64 (n.tdiv d):=⟨zB,zB⟩;by_cases u:n.tmod d=0
 .rw[<-Fc n d hd u];refine eM call360 λF hF=>?_
  exact mt
 .by_cases z:n<0
  .rw[<-FY n d z hd u];refine eM call360 λF hF=>?_
   exact mt
  .rw[<-zCe (show 0<=n by omega)];refine eM call360 λF hF=>?_
   exact mt
def RP (u cap:Int) (z:List Int) (f4 A k B:Int):Int:=min cap (k+(f4-gS z A B)/u)
structure Zj (per f4:Int) (es:List Int) (c:Cl):Prop where
 p:1<=per
 k0: -1000<=c.k
 k1:c.k<=1000
 n0: -1099511627776<=f4
 n1:f4<=1099511627776
 s0: -1099511627776<=gS es c.ph c.si
 s1:gS es c.ph c.si<=1099511627776
 e0: -1099511627776<=bX es c.ph
 e1:bX es c.ph<=1099511627776
def Lz (n d:Int) (hd:1<=d) (h1: -4611686018427387904<=n) (h2:n<=4611686018427387904): -4611686018427387904<=n/d/\n/d<=4611686018427387904:=by
 constructor
 .refine(Int.le_ediv_iff_mul_le zB).2 ?_
  grind
 .have:n/d<=4611686018427387904/1:=by
   rw[Int.ediv_one];refine Int.le_of_lt_add_one ((Int.ediv_lt_iff_lt_mul zB).2 ?_)
   grind
  omega
def Sf (g:Cf) (s:Sv) (c:Cl) (f4:Int) (u:Zj g.per f4 s.en c):zO 313 [wO g,xY s,kS c,iA f4] [] (iA (RP g.per g.cap s.en f4 c.ph c.k c.si)) []:=by
 obtain⟨p,A,B,C,E,G,I,_,_⟩:=u;have z:=Lz (f4-gS s.en c.ph c.si) g.per p zB zB;refine eM call313 λF hF=>?_
 (repeat' (first|refine XC ?_|refine yZ (λhc=>?_) λhc=>?_|(apply zG;apply xO;(first|(refine vG 314 ?_;first|refine yE (zL (RO s c) Z Z Z Z Z) Z ?_|refine qB (zL (RO s c) Z Z Z Z Z) Z Z Z ?_|refine ZR (zL (RO s c) Z Z Z Z Z) Z Z Z ?_)|(refine vG 360 ?_;first|refine yE (zL (TF _ _ zB zB zB) Z Z Z Z Z) Z ?_|refine qB (zL (TF _ _ zB zB zB) Z Z Z Z Z) Z Z Z ?_|refine ZR (zL (TF _ _ zB zB zB) Z Z Z Z Z) Z Z Z ?_)))|fail))
 exact zI
def AB (u:Int) (z:List Int) (f4 A k:Int):Bool:=!bV k&&(bX z A != -1&&decide (f4-bX z A<=u))
def Gl (g:Cf) (s:Sv) (c:Cl) (f4:Int) (u:Zj g.per f4 s.en c):zO 268 [wO g,xY s,kS c,iA f4] [] (bA (AB g.lock s.en f4 c.ph c.k)) []:=by
 obtain⟨p,A,B,C,E,G,I,z,e1⟩:=u;unfold AB;refine eM call268 λF hF=>?_
 (repeat' (first|refine XC ?_|refine yZ (λhc=>?_) λhc=>?_|(apply zG;apply xO;(first|(refine vG 312 ?_;first|refine yE (zL (MD _ _) Z Z Z Z Z) Z ?_|refine qB (zL (MD _ _) Z Z Z Z Z) Z Z Z ?_|refine ZR (zL (MD _ _) Z Z Z Z Z) Z Z Z ?_)|(refine vG 266 ?_;first|refine yE (zL (jU _) Z Z Z Z Z) Z ?_|refine qB (zL (jU _) Z Z Z Z Z) Z Z Z ?_|refine ZR (zL (jU _) Z Z Z Z Z) Z Z Z ?_)))|fail))
 all_goals refine zH [] Z Z (zAv bA ?_) Z
 all_goals simp_all [uE]
