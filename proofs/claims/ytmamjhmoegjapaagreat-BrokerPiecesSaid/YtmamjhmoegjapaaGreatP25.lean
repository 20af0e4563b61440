/- Part 25. -/
import Derived.Test.YtmamjhmoegjapaaGreatP24
import Derived.Test.YtmamjhmoegjapaaGreatP16
namespace Go.Proofs.YtmamjhmoegjapaaGreat
namespace Av
open Tryz
set_option linter.unusedSimpArgs false
set_option linter.unusedVariables false
set_option maxRecDepth 4000
set_option maxHeartbeats 1000000
theorem zR3 {j:Jn} (J:JV j) {c:Ct} {r:Int} {t:Nat} (ht:t<j.ph.length):(dP j t c r).gr=c.gr∨(dP j t c r).gr=(yW j t).group:=by
 unfold dP;split
 ·split
  ·exact .inl rfl
  ·rename_i h;obtain⟨p,hpe,hp,hpg⟩:=JF J (c:=c) (r:=r) ht h;rw[hpe,zZh]
   rcases fQ j c p with h|h
   ·rw[h.2];exact .inl rfl
   ·rw[h.2,hpg];exact .inr rfl
 ·exact .inl rfl
theorem zGs (e:Bool) (c:Ct) (o:List Int):vX (BA e c o)=true:=by cases e<;>rfl
def zDn (j:Jn) (t:Nat) (e:Bool) (i:Int) (c:Ct) (o:List Int):St:=⟨[(8,iA i),(1,.ptr 3000 0 0),(2,iA t),(3,.ptr 3 0 0)],BA e c o++[(3,.box [zD wU j.ph,zD iA j.cf,iA j.st])]⟩
theorem zMh (j:Jn) (J:JV j) (c:Ct) (C:CV j c) (h0:c.wt=0) (t:Nat) (ht:t<j.ph.length):zN 228 [wH j,.ptr 3000 0 0,iA (t:Int)] (cL c 1002) (.tup []) (BA (decide ((dP j t (dP j t c 0) 1).gr≠c.gr)) (dP j t (dP j t c 0) 1) (if(dP j t c 0).gr=c.gr then(dP j t c 0).nx else c.nx)):=by
 have hn:=J.n;have hn8:j.ph.length<=1000:=by omega
 have hjc:=J.c;have hlp:=zA wU j.ph;have hyt:=zM wU j.ph t ht
 change (j.ph.map wU)[t]? =some (wU (yW j t))at hyt
 have hc_c:=C.n;have hm_c:=C.m;obtain⟨C1,h01⟩:=zBy J C h0 ht 0;have hc_c1:=C1.n;have hm_c1:=C1.m;have hgr1:=zR3 J (c:=c) (r:=0) ht;have heq_c:c.gr=c.gr:=rfl;refine WK tok func228 rfl (λargs w=>call228 args w) rfl rfl (zGs _ _ _) (λF hF=>?_);refine WW ?_;refine ZY [3000,1001,1002,2001,3] [8,1,2,3] (zDn j t false 0 c c.nx) (zDn j t (decide ((dP j t c 0).gr≠c.gr)) 1 (dP j t c 0) c.nx) (zDn j t (decide ((dP j t (dP j t c 0) 1).gr≠c.gr)) 2 (dP j t (dP j t c 0) 1) (if(dP j t c 0).gr=c.gr then(dP j t c 0).nx else c.nx)) rfl rfl ?_ ?_ ?_
 ·unfold zDn;clear C1 hgr1 hc_c1 hm_c1 h01;rw[show BA false c c.nx=cL c 1002 from rfl];unfold cL;have cd:=XO j hn8 c hc_c 0
  cases hd:BC j c 0 with
  |false=>
   rw[hd]at cd;rw[show dP j t c 0=c by unfold dP;rw[zX0 (by rw[hd];decide)]];rw[show decide (c.gr≠c.gr)=false from zYa (λh=>h heq_c)];clear hd;refine zU cd ?_;rfl
  |true=>
  rw[hd]at cd
  have hsv:dP j t c 0=if YY j c 0 t= -1 then c else jD j c (YY j c 0 t).toNat:=by unfold dP;rw[zX1 hd]
  by_cases hrt:0=(yW j t).ring
  ·
   have hP:YY j c 0 t=t:=by unfold YY;rw[zX1 hrt]
   rw[hP]at hsv;rw[zX0 zB,zZh]at hsv;by_cases hk:WX j c t=true∨c.gr=(yW j t).group
   ·have cb:=ZX j hn8 zB c hc_c hm_c t ht (J.rg t ht) hk
    have hg2:(jD j c t).gr=c.gr:=by
     rcases fQ j c t with h|h
     ·exact(zY0 Ct.gr h.2).trans heq_c
     ·rcases hk with hk|hk
      ·rw[hk]at h;cases h.1
      ·exact h.2.trans (hk.symm.trans heq_c)
    rw[hsv,show decide ((jD j c t).gr≠c.gr)=false from zYa (λh=>h hg2)];generalize jD j c t=b at *;clear hd hsv hg2 hk;unfold cL at cb;refine yQ (wZ cd cb) ?_;rfl
   ·have hk1:WX j c t=false:=by
     cases h:WX j c t with
     |false=>rfl
     |true=>exact absurd (.inl h) hk
    have hk2:c.gr≠(yW j t).group:=λh=>hk (.inr h)
    have cb:=RR j hn8 zB c hc_c hm_c t ht (J.rg t ht) hk1 hk2
    have hg2:(jD j c t).gr≠c.gr:=by
     rcases fQ j c t with h|h
     ·rw[hk1]at h;cases h.1
     ·rw[h.2,<-heq_c];exact λh=>hk2 h.symm
    rw[hsv,show decide ((jD j c t).gr≠c.gr)=true from zX8 hg2];generalize jD j c t=b at *;clear hd hsv hg2 hk hk1 hk2;unfold cL JE at cb;refine yQ (wZ cd cb) ?_;rfl
  ·
   have cm:=AB j hn8 zB c hm_c 0 t zB;have hP:YY j c 0 t=cmF j (c.nx.getD (0:Int).toNat default) 0 t:=by unfold YY;rw[zX0 hrt]
   rw[<-hP]at cm;by_cases hm1:YY j c 0 t= -1
   ·rw[zX1 hm1]at hsv;rw[hsv];rw[show decide (c.gr≠c.gr)=false from zYa (λh=>h heq_c)];generalize YY j c 0 t=pp at *;clear hP hd hsv;refine yQ (wZ cd cm) ?_;rfl
   obtain⟨p,hpe,hp,hpg⟩:=JF J (c:=c) (r:=0) ht hm1;rw[zX0 hm1,hpe,zZh]at hsv;rw[hpe]at cm;clear hP hm1 hpe;by_cases hk:WX j c p=true∨c.gr=(yW j p).group
   ·have cb:=ZX j hn8 zB c hc_c hm_c p hp (J.rg p hp) hk
    have hg2:(jD j c p).gr=c.gr:=by
     rcases fQ j c p with h|h
     ·exact(zY0 Ct.gr h.2).trans heq_c
     ·rcases hk with hk|hk
      ·rw[hk]at h;cases h.1
      ·exact h.2.trans (hk.symm.trans heq_c)
    rw[hsv,show decide ((jD j c p).gr≠c.gr)=false from zYa (λh=>h hg2)];generalize jD j c p=b at *;clear hd hsv hg2 hk;unfold cL at cb;refine yQ (fB cd cm cb) ?_;rfl
   ·have hk1:WX j c p=false:=by
     cases h:WX j c p with
     |false=>rfl
     |true=>exact absurd (.inl h) hk
    have hk2:c.gr≠(yW j p).group:=λh=>hk (.inr h)
    have cb:=RR j hn8 zB c hc_c hm_c p hp (J.rg p hp) hk1 hk2
    have hg2:(jD j c p).gr≠c.gr:=by
     rcases fQ j c p with h|h
     ·rw[hk1]at h;cases h.1
     ·rw[h.2,<-heq_c];exact λh=>hk2 h.symm
    rw[hsv,show decide ((jD j c p).gr≠c.gr)=true from zX8 hg2];generalize jD j c p=b at *;clear hd hsv hg2 hk hk1 hk2;unfold cL JE at cb;refine yQ (fB cd cm cb) ?_;rfl
 ·clear hc_c hm_c heq_c;have he1:=hgr1;generalize dP j t c 0=c1 at *;unfold zDn;by_cases heq_c1:c1.gr=c.gr
  ·rw [zX1 heq_c1,zYa (λh=>h heq_c1)];rw[show BA false c1 c.nx=cL c1 1002 from rfl];unfold cL;have cd:=XO j hn8 c1 hc_c1 1
   cases hd:BC j c1 1 with
   |false=>
    rw[hd]at cd;rw[show dP j t c1 1=c1 by unfold dP;rw[zX0 (by rw[hd];decide)]];rw[show decide (c1.gr≠c.gr)=false from zYa (λh=>h heq_c1)];clear hd;refine zU cd ?_;rfl
   |true=>
   rw[hd]at cd
   have hsv:dP j t c1 1=if YY j c1 1 t= -1 then c1 else jD j c1 (YY j c1 1 t).toNat:=by unfold dP;rw[zX1 hd]
   by_cases hrt:1=(yW j t).ring
   ·
    have hP:YY j c1 1 t=t:=by unfold YY;rw[zX1 hrt]
    rw[hP]at hsv;rw[zX0 zB,zZh]at hsv;by_cases hk:WX j c1 t=true∨c1.gr=(yW j t).group
    ·have cb:=ZX j hn8 zB c1 hc_c1 hm_c1 t ht (J.rg t ht) hk
     have hg2:(jD j c1 t).gr=c.gr:=by
      rcases fQ j c1 t with h|h
      ·exact(zY0 Ct.gr h.2).trans heq_c1
      ·rcases hk with hk|hk
       ·rw[hk]at h;cases h.1
       ·exact h.2.trans (hk.symm.trans heq_c1)
     rw[hsv,show decide ((jD j c1 t).gr≠c.gr)=false from zYa (λh=>h hg2)];generalize jD j c1 t=b at *;clear hd hsv hg2 hk;unfold cL at cb;refine yQ (wZ cd cb) ?_;rfl
    ·have hk1:WX j c1 t=false:=by
      cases h:WX j c1 t with
      |false=>rfl
      |true=>exact absurd (.inl h) hk
     have hk2:c1.gr≠(yW j t).group:=λh=>hk (.inr h)
     have cb:=RR j hn8 zB c1 hc_c1 hm_c1 t ht (J.rg t ht) hk1 hk2
     have hg2:(jD j c1 t).gr≠c.gr:=by
      rcases fQ j c1 t with h|h
      ·rw[hk1]at h;cases h.1
      ·rw[h.2,<-heq_c1];exact λh=>hk2 h.symm
     rw[hsv,show decide ((jD j c1 t).gr≠c.gr)=true from zX8 hg2];generalize jD j c1 t=b at *;clear hd hsv hg2 hk hk1 hk2;unfold cL JE at cb;refine yQ (wZ cd cb) ?_;rfl
   ·
    have cm:=AB j hn8 zB c1 hm_c1 1 t zB;have hP:YY j c1 1 t=cmF j (c1.nx.getD (1:Int).toNat default) 1 t:=by unfold YY;rw[zX0 hrt]
    rw[<-hP]at cm;by_cases hm1:YY j c1 1 t= -1
    ·rw[zX1 hm1]at hsv;rw[hsv];rw[show decide (c1.gr≠c.gr)=false from zYa (λh=>h heq_c1)];generalize YY j c1 1 t=pp at *;clear hP hd hsv;refine yQ (wZ cd cm) ?_;rfl
    obtain⟨p,hpe,hp,hpg⟩:=JF J (c:=c1) (r:=1) ht hm1;rw[zX0 hm1,hpe,zZh]at hsv;rw[hpe]at cm;clear hP hm1 hpe;by_cases hk:WX j c1 p=true∨c1.gr=(yW j p).group
    ·have cb:=ZX j hn8 zB c1 hc_c1 hm_c1 p hp (J.rg p hp) hk
     have hg2:(jD j c1 p).gr=c.gr:=by
      rcases fQ j c1 p with h|h
      ·exact(zY0 Ct.gr h.2).trans heq_c1
      ·rcases hk with hk|hk
       ·rw[hk]at h;cases h.1
       ·exact h.2.trans (hk.symm.trans heq_c1)
     rw[hsv,show decide ((jD j c1 p).gr≠c.gr)=false from zYa (λh=>h hg2)];generalize jD j c1 p=b at *;clear hd hsv hg2 hk;unfold cL at cb;refine yQ (fB cd cm cb) ?_;rfl
    ·have hk1:WX j c1 p=false:=by
      cases h:WX j c1 p with
      |false=>rfl
      |true=>exact absurd (.inl h) hk
     have hk2:c1.gr≠(yW j p).group:=λh=>hk (.inr h)
     have cb:=RR j hn8 zB c1 hc_c1 hm_c1 p hp (J.rg p hp) hk1 hk2
     have hg2:(jD j c1 p).gr≠c.gr:=by
      rcases fQ j c1 p with h|h
      ·rw[hk1]at h;cases h.1
      ·rw[h.2,<-heq_c1];exact λh=>hk2 h.symm
     rw[hsv,show decide ((jD j c1 p).gr≠c.gr)=true from zX8 hg2];generalize jD j c1 p=b at *;clear hd hsv hg2 hk hk1 hk2;unfold cL JE at cb;refine yQ (fB cd cm cb) ?_;rfl
  ·have hne_c1:c1.gr≠c.gr:=heq_c1
   have hgt_c1:c1.gr=(yW j t).group:=by
    rcases he1 with h|h
    ·exact absurd h hne_c1
    ·exact h
   rw[zX0 heq_c1,zX8 hne_c1];rw[show BA true c1 c.nx=JE c1 c.nx from rfl];unfold JE;have cd:=XO j hn8 c1 hc_c1 1
   cases hd:BC j c1 1 with
   |false=>
    rw[hd]at cd;rw[show dP j t c1 1=c1 by unfold dP;rw[zX0 (by rw[hd];decide)]];rw[show decide (c1.gr≠c.gr)=true from zX8 hne_c1];clear hd;refine zU cd ?_;rfl
   |true=>
   rw[hd]at cd
   have hsv:dP j t c1 1=if YY j c1 1 t= -1 then c1 else jD j c1 (YY j c1 1 t).toNat:=by unfold dP;rw[zX1 hd]
   by_cases hrt:1=(yW j t).ring
   ·
    have hP:YY j c1 1 t=t:=by unfold YY;rw[zX1 hrt]
    rw[hP]at hsv;rw[zX0 zB,zZh]at hsv;have cb:=RQ j hn8 zB c1 hc_c1 hm_c1 t ht (J.rg t ht) (.inr (hgt_c1.trans (rfl:(yW j t).group=(yW j t).group).symm))
    have hg2:(jD j c1 t).gr≠c.gr:=by
     rcases fQ j c1 t with h|h
     ·rw[h.2];exact hne_c1
     ·rw[h.2,(rfl:(yW j t).group=(yW j t).group),<-hgt_c1];exact hne_c1
    rw[hsv,show decide ((jD j c1 t).gr≠c.gr)=true from zX8 hg2];generalize jD j c1 t=b at *;clear hd hsv hg2;unfold cL at cb;refine yQ (wZ cd cb) ?_;rfl
   ·
    have cm:=AB j hn8 zB c1 hm_c1 1 t zB;have hP:YY j c1 1 t=cmF j (c1.nx.getD (1:Int).toNat default) 1 t:=by unfold YY;rw[zX0 hrt]
    rw[<-hP]at cm;by_cases hm1:YY j c1 1 t= -1
    ·rw[zX1 hm1]at hsv;rw[hsv];rw[show decide (c1.gr≠c.gr)=true from zX8 hne_c1];generalize YY j c1 1 t=pp at *;clear hP hd hsv;refine yQ (wZ cd cm) ?_;rfl
    obtain⟨p,hpe,hp,hpg⟩:=JF J (c:=c1) (r:=1) ht hm1;rw[zX0 hm1,hpe,zZh]at hsv;rw[hpe]at cm;clear hP hm1 hpe;have cb:=RQ j hn8 zB c1 hc_c1 hm_c1 p hp (J.rg p hp) (.inr (hgt_c1.trans (hpg:(yW j p).group=(yW j t).group).symm))
    have hg2:(jD j c1 p).gr≠c.gr:=by
     rcases fQ j c1 p with h|h
     ·rw[h.2];exact hne_c1
     ·rw[h.2,(hpg:(yW j p).group=(yW j t).group),<-hgt_c1];exact hne_c1
    rw[hsv,show decide ((jD j c1 p).gr≠c.gr)=true from zX8 hg2];generalize jD j c1 p=b at *;clear hd hsv hg2;unfold cL at cb;refine yQ (fB cd cm cb) ?_;rfl
 ·generalize (if(dP j t c 0).gr=c.gr then(dP j t c 0).nx else c.nx)=o at *;generalize dP j t (dP j t c 0) 1=c2 at *;unfold zDn;by_cases he:c2.gr=c.gr
  ·rw[zYa (λh=>h he)];refine WW ?_;exact jA [3000,1001,1002] rfl rfl rfl rfl
  ·rw[zX8 he];refine WW ?_;exact jA [3000,1001,1002,2001] rfl rfl rfl rfl
theorem zGt (c:Ct) (hn:c.li.length<=1000):zN 251 [ctT c] [] (bA (arF c)) []:=by rw[aY];exact FS c hn
def ovN (c:Ct) (i:Nat):Bool:=arF c&&(c.nx.take i).all λp=>p== -1
theorem zGu (c:Ct) (i:Nat) (hi:i<c.nx.length):ovN c (i+1)=(ovN c i&&(c.nx.getD i default== -1)):=by
 unfold ovN;rw[<-yB2 hi,List.all_append];simp[List.getD,hi,Bool.and_assoc]
def SZ (j:Jn) (e:Bool) (i:Int) (c:Ct) (o:List Int):St:=⟨[(36,iA i),(1,.ptr 3000 0 0),(2,.ptr 2 0 0)],BA e c o++[(2,.box [zD wU j.ph,zD iA j.cf,iA j.st])]⟩
theorem zMi (j:Jn) (J:JV j) (c:Ct) (C:CV j c) (h0:c.wt=0):zN 229 [wH j,.ptr 3000 0 0] (cL c 1002) (.tup []) (BA (cyO c) (cyF j c) c.nx):=by
 have hn:=J.n;have hn8:j.ph.length<=1000:=by omega
 have hjc:=J.c;have hlp:=zA wU j.ph;have hll:=zA vF c.li;have hln:=zA iA c.nx;have hcn:=C.n;have hcm:=C.m;have ca:=zGt c zB;have cg:=FR j hn8 J.gp;have hgp:=RT J
 have hgl:YX j<=4:=by
  have:∀n,n<=j.ph.length->grN j.ph n<=4:=λn=>by
   induction n with
   |zero=>intro _;show(0:Int)<=4;omega
   |succ n ih=>
    intro h;have h1:=ih zB;have h2:=J.gp n zB;unfold yW at h2;unfold grN;omega
  exact this _ (zX6 _)
 have hcg:=C.g;have htm:(c.gr+1).tmod (YX j)=(c.gr+1) % YX j:=zZu zB;have hO:ovN c c.nx.length=cyO c:=by unfold ovN cyO;rw[zX7]
 refine WK tok func229 rfl (λargs w=>call229 args w) rfl rfl (zGs _ _ _) (λF hF=>?_);unfold cL;have ho0:ovN c 0=arF c:=by unfold ovN;simp
 rw[<-ho0]at ca;refine zU ca ?_;refine zP (c.nx.length) [2,3000,1001,1002] [2,3000,1001,1002] [1,2,15,16] [4,17,1,2,15,16] rfl (λi T U=>⟨(4,bA (ovN c i))::(17,iA i)::T,U⟩) ?_;(conv=>whnf);refine⟨by rfl,?_,?_⟩
 ·intro i hi;have hy:=zM iA c.nx i hi;have es:=zGu c i hi;rw[es];generalize ovN c i=o at *;generalize c.nx.getD i default=x at *;by_cases hx:x= -1
  ·rw[show(x== -1)=true by rw[zZg];exact hx,yB5];clear ca cg;refine WW ?_;rfl
  ·rw[show(x== -1)=false by rw[zY9];exact hx,yBz];clear ca cg;refine WW ?_;rfl
 ·rw [hO];clear hO ho0 ca
  cases hco:cyO c with
  | true=>
   have hcy:cyF j c=dQ j (dQ j (BB j c ((c.gr+1) % YX j)) 0) 1:=by unfold cyF;rw[zX1 hco]
   rw[hcy];have hgm:0<=(c.gr+1) % YX j/\(c.gr+1) % YX j<YX j:=⟨yBd _ zB,yA2 _ zB⟩;have C_c0:=zBw C hgm;have hw0:(BB j c ((c.gr+1) % YX j)).wt=0:=h0;have ce:=zBu j hn8 ((c.gr+1) % YX j) c.gr c.wt (c.li.map vF) (c.nx.map iA) (c.li.map vF).length (c.nx.map iA).length;rw[show([(3000,.box [.ref 1001 0 (c.li.map vF).length,iA ((c.gr+1) % YX j),.ref 2001 0 2,iA c.wt]),(1001,.arr 2 (c.li.map vF) false),(1002,.arr 1 (c.nx.map iA) false),(2001,.arr 1 [iA (bC j 0 ((c.gr+1) % YX j) 0),iA (bC j 1 ((c.gr+1) % YX j) 0)] false)]:List (Nat×xN))=JE (BB j c ((c.gr+1) % YX j)) c.nx from rfl]at ce;rw[<-htm]at ce;rw[htm]at ce;generalize hc0:BB j c ((c.gr+1) % YX j)=c0 at *;rw[<-htm]at ce;have hne:¬YX j=0:=by omega
   generalize YX j=gm at *;have hc_c0:=C_c0.n;have hm_c0:=C_c0.m;obtain⟨C_c1,h01⟩:=PF J C_c0 hw0 (r:=0) zB;have hc_c1:=C_c1.n;have hm_c1:=C_c1.m
   change CV j (dQ j c0 0)at C_c1
   change (dQ j c0 0).li.length=j.ph.length at hc_c1
   change (dQ j c0 0).nx.length=2 at hm_c1
   clear hcy hc0 C;unfold JE at ce;refine yQ (wZ cg ce) ?_;refine ZY [3000,1001,1002,2001,2] [36,1,2] (SZ j true 0 c0 c.nx) (SZ j true 1 (dQ j c0 0) c.nx) (SZ j true 2 (dQ j (dQ j c0 0) 1) c.nx) rfl rfl ?_ ?_ ?_
   ·unfold SZ;rw[show BA true c0 c.nx=JE c0 c.nx from rfl];unfold JE;have cd:=XO j hn8 c0 hc_c0 0;have hyn:=zM iA c0.nx 0 zB;have hv:=C_c0.v 0 zB;have hnl:(c0.nx.map iA).length=2:=by rw[zX2];exact hm_c0
    cases hd:BC j c0 0 with
    |false=>
     rw[hd]at cd;rw[show dQ j c0 0=c0 by unfold dQ;rw[zX0 (by rw[hd];simp)]];clear hd;refine zU cd ?_;rfl
    |true=>
    rw[hd]at cd
    have hsv:dQ j c0 0=if c0.nx.getD 0 default= -1 then c0 else jD j c0 (c0.nx.getD 0 default).toNat:=by
     unfold dQ;rw[hd]
     show(if true=true/\c0.nx.getD 0 default≠ -1 then jD j c0 (c0.nx.getD 0 default).toNat else c0)=_
     by_cases h:c0.nx.getD 0 default= -1
     ·rw[zX1 h,zX0 (λk=>k.2 h)]
     ·rw[zX0 h,zX1 ⟨rfl,h⟩]
    clear hd;by_cases hm1:c0.nx.getD 0 default= -1
    ·rw[zX1 hm1]at hsv;rw[hsv];clear hsv hv;generalize c0.nx.getD 0 default=x at *;refine zU cd ?_;rfl
    ·rw[zX0 hm1]at hsv
     have hin:InO j (0:Nat) c0.gr (c0.nx.getD 0 default):=by
      rcases hv with h|h
      ·exact absurd h hm1
      ·exact h
     obtain⟨i1,i2,i3,i4⟩:=hin;obtain⟨p,hpe⟩:∃p:Nat,c0.nx.getD 0 default=p:=⟨(c0.nx.getD 0 default).toNat,zB⟩;rw[hpe]at hsv hyn hm1 i2 i4;rw[zZh]at hsv i4;have hp:p<j.ph.length:=by omega
     have cb:=RQ j hn8 zB c0 hc_c0 hm_c0 p hp (J.rg p hp) (.inr i4.symm);rw[hsv];clear hsv hv i1 i2 i3 i4 hpe;generalize jD j c0 p=b at *;unfold cL at cb;refine yQ (wZ cd cb) ?_;rfl
   ·generalize dQ j c0 0=c1 at *;unfold SZ;rw[show BA true c1 c.nx=JE c1 c.nx from rfl];unfold JE;have cd:=XO j hn8 c1 hc_c1 1;have hyn:=zM iA c1.nx 1 zB;have hv:=C_c1.v 1 zB;have hnl:(c1.nx.map iA).length=2:=by rw[zX2];exact hm_c1
    cases hd:BC j c1 1 with
    |false=>
     rw[hd]at cd;rw[show dQ j c1 1=c1 by unfold dQ;rw[zX0 (by rw[hd];simp)]];clear hd;refine zU cd ?_;rfl
    |true=>
    rw[hd]at cd
    have hsv:dQ j c1 1=if c1.nx.getD 1 default= -1 then c1 else jD j c1 (c1.nx.getD 1 default).toNat:=by
     unfold dQ;rw[hd]
     show(if true=true/\c1.nx.getD 1 default≠ -1 then jD j c1 (c1.nx.getD 1 default).toNat else c1)=_
     by_cases h:c1.nx.getD 1 default= -1
     ·rw[zX1 h,zX0 (λk=>k.2 h)]
     ·rw[zX0 h,zX1 ⟨rfl,h⟩]
    clear hd;by_cases hm1:c1.nx.getD 1 default= -1
    ·rw[zX1 hm1]at hsv;rw[hsv];clear hsv hv;generalize c1.nx.getD 1 default=x at *;refine zU cd ?_;rfl
    ·rw[zX0 hm1]at hsv
     have hin:InO j (1:Nat) c1.gr (c1.nx.getD 1 default):=by
      rcases hv with h|h
      ·exact absurd h hm1
      ·exact h
     obtain⟨i1,i2,i3,i4⟩:=hin;obtain⟨p,hpe⟩:∃p:Nat,c1.nx.getD 1 default=p:=⟨(c1.nx.getD 1 default).toNat,zB⟩;rw[hpe]at hsv hyn hm1 i2 i4;rw[zZh]at hsv i4;have hp:p<j.ph.length:=by omega
     have cb:=RQ j hn8 zB c1 hc_c1 hm_c1 p hp (J.rg p hp) (.inr i4.symm);rw[hsv];clear hsv hv i1 i2 i3 i4 hpe;generalize jD j c1 p=b at *;unfold cL at cb;refine yQ (wZ cd cb) ?_;rfl
   ·generalize dQ j (dQ j c0 0) 1=c2 at *;unfold SZ;refine WW ?_;exact jA [3000,1001,1002,2001] rfl rfl rfl rfl
  | false=>
   have hcy:cyF j c=dQ j (dQ j c 0) 1:=by unfold cyF;rw[zX0 (by rw[hco];decide)]
   rw[hcy];clear cg htm hcy hgp hgl hcg;have C_c:=C;have hc_c:=hcn;have hm_c:=hcm;obtain⟨C_c1,h01⟩:=PF J C h0 (r:=0) zB;have hc_c1:=C_c1.n;have hm_c1:=C_c1.m
   change CV j (dQ j c 0)at C_c1
   change (dQ j c 0).li.length=j.ph.length at hc_c1
   change (dQ j c 0).nx.length=2 at hm_c1
   refine WW ?_;clear hco;refine ZY [3000,1001,1002,2001,2] [36,1,2] (SZ j false 0 c c.nx) (SZ j false 1 (dQ j c 0) c.nx) (SZ j false 2 (dQ j (dQ j c 0) 1) c.nx) rfl rfl ?_ ?_ ?_
   ·unfold SZ;rw[show BA false c c.nx=cL c 1002 from rfl];unfold cL;have cd:=XO j hn8 c hc_c 0;have hyn:=zM iA c.nx 0 zB;have hv:=C_c.v 0 zB;have hnl:(c.nx.map iA).length=2:=by rw[zX2];exact hm_c
    cases hd:BC j c 0 with
    |false=>
     rw[hd]at cd;rw[show dQ j c 0=c by unfold dQ;rw[zX0 (by rw[hd];simp)]];clear hd;refine zU cd ?_;rfl
    |true=>
    rw[hd]at cd
    have hsv:dQ j c 0=if c.nx.getD 0 default= -1 then c else jD j c (c.nx.getD 0 default).toNat:=by
     unfold dQ;rw[hd]
     show(if true=true/\c.nx.getD 0 default≠ -1 then jD j c (c.nx.getD 0 default).toNat else c)=_
     by_cases h:c.nx.getD 0 default= -1
     ·rw[zX1 h,zX0 (λk=>k.2 h)]
     ·rw[zX0 h,zX1 ⟨rfl,h⟩]
    clear hd;by_cases hm1:c.nx.getD 0 default= -1
    ·rw[zX1 hm1]at hsv;rw[hsv];clear hsv hv;generalize c.nx.getD 0 default=x at *;refine zU cd ?_;rfl
    ·rw[zX0 hm1]at hsv
     have hin:InO j (0:Nat) c.gr (c.nx.getD 0 default):=by
      rcases hv with h|h
      ·exact absurd h hm1
      ·exact h
     obtain⟨i1,i2,i3,i4⟩:=hin;obtain⟨p,hpe⟩:∃p:Nat,c.nx.getD 0 default=p:=⟨(c.nx.getD 0 default).toNat,zB⟩;rw[hpe]at hsv hyn hm1 i2 i4;rw[zZh]at hsv i4;have hp:p<j.ph.length:=by omega
     have cb:=ZX j hn8 zB c hc_c hm_c p hp (J.rg p hp) (.inr i4.symm);rw[hsv];clear hsv hv i1 i2 i3 i4 hpe;generalize jD j c p=b at *;unfold cL at cb;refine yQ (wZ cd cb) ?_;rfl
   ·generalize dQ j c 0=c1 at *;unfold SZ;rw[show BA false c1 c.nx=cL c1 1002 from rfl];unfold cL;have cd:=XO j hn8 c1 hc_c1 1;have hyn:=zM iA c1.nx 1 zB;have hv:=C_c1.v 1 zB;have hnl:(c1.nx.map iA).length=2:=by rw[zX2];exact hm_c1
    cases hd:BC j c1 1 with
    |false=>
     rw[hd]at cd;rw[show dQ j c1 1=c1 by unfold dQ;rw[zX0 (by rw[hd];simp)]];clear hd;refine zU cd ?_;rfl
    |true=>
    rw[hd]at cd
    have hsv:dQ j c1 1=if c1.nx.getD 1 default= -1 then c1 else jD j c1 (c1.nx.getD 1 default).toNat:=by
     unfold dQ;rw[hd]
     show(if true=true/\c1.nx.getD 1 default≠ -1 then jD j c1 (c1.nx.getD 1 default).toNat else c1)=_
     by_cases h:c1.nx.getD 1 default= -1
     ·rw[zX1 h,zX0 (λk=>k.2 h)]
     ·rw[zX0 h,zX1 ⟨rfl,h⟩]
    clear hd;by_cases hm1:c1.nx.getD 1 default= -1
    ·rw[zX1 hm1]at hsv;rw[hsv];clear hsv hv;generalize c1.nx.getD 1 default=x at *;refine zU cd ?_;rfl
    ·rw[zX0 hm1]at hsv
     have hin:InO j (1:Nat) c1.gr (c1.nx.getD 1 default):=by
      rcases hv with h|h
      ·exact absurd h hm1
      ·exact h
     obtain⟨i1,i2,i3,i4⟩:=hin;obtain⟨p,hpe⟩:∃p:Nat,c1.nx.getD 1 default=p:=⟨(c1.nx.getD 1 default).toNat,zB⟩;rw[hpe]at hsv hyn hm1 i2 i4;rw[zZh]at hsv i4;have hp:p<j.ph.length:=by omega
     have cb:=ZX j hn8 zB c1 hc_c1 hm_c1 p hp (J.rg p hp) (.inr i4.symm);rw[hsv];clear hsv hv i1 i2 i3 i4 hpe;generalize jD j c1 p=b at *;unfold cL at cb;refine yQ (wZ cd cb) ?_;rfl
   ·generalize dQ j (dQ j c 0) 1=c2 at *;unfold SZ;refine WW ?_;exact jA [3000,1001,1002] rfl rfl rfl rfl
theorem BZ (l:List Li) (hl:l.length<=1073741824):zN 155 [zD vF l] [] (.ref 1001 0 (l.map vF).length) [(1001,.arr 2 (l.map vF) false)]:=by
 have hll:=zA vF l;refine eM call155 λF hF=>?_
 refine xA 0 rfl (λcap hx=>?_) ?_
 ·have:l=[]:=by simpa using hx
  subst this
  (repeat' (first|refine WZN ?_|refine xO (λhc=>?_) (λhc=>?_)|refine wB (λhc=>?_)|fail))
  refine uM 2 1001 2 rfl rfl rfl (yU ?_);exact zL [1001] rfl rfl rfl rfl
 ·repeat' (first|(refine zE ?_;first|refine vN tok rfl rfl ?_|(refine wW ?_;refine xI (yX tok (.inl ⟨rfl,rfl⟩) rfl rfl rfl rfl) rfl ?_)|(refine yS ?_;refine uN (nw:=[1001]) (yL tok 1001 (xs:=[]) rfl rfl rfl rfl rfl rfl rfl rfl rfl) rfl rfl rfl ?_)|(refine yV ?_;refine wO tok rfl rfl rfl rfl rfl rfl rfl (xT _ _ (λ_=>rfl)) rfl rfl rfl zB rfl ?_)|refine qF ?_)|(first|refine xS ?_|refine xD ?_|refine vD rfl ?_|refine zX rfl ?_|refine zQ rfl ?_|refine xK rfl (λhc=>?_) (λhc=>?_)|refine yY ?_|refine yU ?_|refine xE ?_|refine yT ?_))
  exact zL [1001] rfl rfl rfl rfl
theorem FM (l:List Int) (hl:l.length<=1073741824):zN 107 [zD iA l] [] (.ref 1002 0 (l.map iA).length) [(1002,.arr 1 (l.map iA) false)]:=by
 have hll:=zA iA l;refine eM call107 λF hF=>?_
 refine xA 0 rfl (λcap hx=>?_) ?_
 ·have:l=[]:=by simpa using hx
  subst this
  (repeat' (first|refine WZN ?_|refine xO (λhc=>?_) (λhc=>?_)|refine wB (λhc=>?_)|fail))
  refine uM 2 1002 1 rfl rfl rfl (yU ?_);exact zL [1002] rfl rfl rfl rfl
 ·repeat' (first|(refine zE ?_;first|refine vN tok rfl rfl ?_|(refine wW ?_;refine xI (yX tok (.inl ⟨rfl,rfl⟩) rfl rfl rfl rfl) rfl ?_)|(refine yS ?_;refine uN (nw:=[1002]) (yL tok 1002 (xs:=[]) rfl rfl rfl rfl rfl rfl rfl rfl rfl) rfl rfl rfl ?_)|(refine yV ?_;refine wO tok rfl rfl rfl rfl rfl rfl rfl (xT _ _ (λ_=>rfl)) rfl rfl rfl zB rfl ?_)|refine qF ?_)|(first|refine xS ?_|refine xD ?_|refine vD rfl ?_|refine zX rfl ?_|refine zQ rfl ?_|refine xK rfl (λhc=>?_) (λhc=>?_)|refine yY ?_|refine yU ?_|refine xE ?_|refine yT ?_))
  exact zL [1002] rfl rfl rfl rfl
def CZ (j:Jn) (c:Ct) (t:Int) (i:Nat):List Li:=(List.range j.ph.length).map λp=>if p<i then LD (yW j p) (xY c p) (AD j c t p)else xY c p
theorem zBr (j:Jn) (c:Ct) (t:Int) (i:Nat):(CZ j c t i).length=j.ph.length:=by simp[CZ]
theorem zGv {j:Jn} {c:Ct} (hc:c.li.length=j.ph.length) (t:Int):CZ j c t 0=c.li:=by
 unfold CZ;apply zZf;intro p;rw[zX4];by_cases h:p<j.ph.length
 ·rw[zYx h];simp[xY,List.getD,hc,h]
 ·rw[zYt wQ,zYt zB];rfl
theorem zMj (j:Jn) (c:Ct) (t:Int):CZ j c t j.ph.length=XR j c t:=by
 unfold CZ XR;apply yBf;intro p hp;rw[zYr]at hp;rw[zX1 hp]
theorem zGw (j:Jn) (c:Ct) (t:Int) (i:Nat):CZ j c t (i+1)=(CZ j c t i).set i (LD (yW j i) (xY c i) (AD j c t i)):=by
 unfold CZ;apply zZf;intro p;rw[zZ7,zX4,zX4];by_cases h:p<j.ph.length
 ·rw[zYx h];by_cases hs:i=p
  ·subst hs;simp[h]
  ·rw[zX0 hs];by_cases hp:p<i
   ·simp[hp,show p<i+1 by omega]
   ·simp[hp,show¬p<i+1 by omega]
 ·rw[zYt wQ]
  split<;>simp;omega
theorem zVc {p:Ph} {l:Li} (h:RS p l=true) (hy:p.yel<=60) (hr:p.red<=60):0<=l.tk/\l.tk<=1073741824:=by
 unfold RS at h;split at h
 ·rw[zX9]at h;omega
 split at h
 ·rw[zX9]at h;omega
 split at h
 ·rw[zX9]at h;omega
 split at h
 ·rw[zX9]at h;omega
 ·cases h
theorem zGx {P:Program} {K0:List Nat} {F:Fr K0} {m:Nat} {ops:Array Oper} {rest:List Oper} {Q:List FP->St->Prop} {dr:Bool} {fs:List FP} {ty T:Nat} {pos:String} {after:Array Edge} {st:St} (hk:yC P F m ops dr (⟨some 7,.alloc T,ty,pos,after,none⟩::rest) st fs Q):yC P F m ops dr (⟨some 7,.alloc T,ty,pos,after,none⟩::rest) st fs Q:=hk
theorem zR4 (j:Jn) (J:JV j) (c:Ct) (C:CV j c) (t:Int):zN 197 [wH j,ctA c,iA t] [] (ctA (NS j c t)) []:=by
 have hn:=J.n;have hjc:=J.c;have hcn:=C.n;have hcm:=C.m;have hcw:=C.w;have hst:=J.st;have hlp:=zA wU j.ph;have hll:(c.li.map vF).length=j.ph.length:=by rw[zX2];exact hcn
 have hln:(c.nx.map iA).length=2:=by rw[zX2];exact hcm
 have k1:=TX j J;have k2:=zMn j J.b c;rw[zSa J C]at k2;have k3:=BZ c.li zB;have k4:=FM c.nx zB;unfold NS;by_cases hw:0<c.wt
 ·rw[zX1 hw];refine eM call197 λF hF=>?_
  refine yQ (wZ k1 k2) ?_
  repeat' (first|(refine zE ?_;first|(refine zGx ?_;refine uN (nw:=[3000]) (YJ tok 3000 rfl rfl) rfl rfl rfl ?_)|refine vN tok rfl rfl ?_|(refine wD ?_;(first|(refine uQ 155 ?_;first|refine xI (zH (k3) rfl rfl rfl rfl rfl) rfl ?_|refine uN (zH (k3) rfl rfl rfl rfl rfl) rfl rfl rfl ?_|refine aN (zH (k3) rfl rfl rfl rfl rfl) rfl rfl rfl ?_)|(refine uQ 107 ?_;first|refine xI (zH (k4) rfl rfl rfl rfl rfl) rfl ?_|refine uN (zH (k4) rfl rfl rfl rfl rfl) rfl rfl rfl ?_|refine aN (zH (k4) rfl rfl rfl rfl rfl) rfl rfl rfl ?_)))|(refine bR ?_;refine bQ tok rfl rfl rfl ?_)|refine TO gS ?_|refine qF ?_)|first|refine SQ ?_|fail)
  refine WW ?_;exact zI [] rfl rfl (aY ⟨c.li,c.gr,c.nx,c.wt-1⟩) rfl
 rw[zX0 hw];have h0:c.wt=0:=by omega
 have CL:=zHl J C h0 t;have ls0:=zGv hcn t;have lsE:=zMj j c t;rw[hll]at k3;have hN:∀i,((CZ j c t i).map vF).length=j.ph.length:=λi=>by rw[zX2];exact zBr j c t i
 refine eM call197 λF hF=>?_
 refine yQ (wZ k1 k2) ?_
 repeat' (first|(refine zE ?_;first|(refine zGx ?_;refine uN (nw:=[3000]) (YJ tok 3000 rfl rfl) rfl rfl rfl ?_)|refine vN tok rfl rfl ?_|(refine wD ?_;(first|(refine uQ 155 ?_;first|refine xI (zH (k3) rfl rfl rfl rfl rfl) rfl ?_|refine uN (zH (k3) rfl rfl rfl rfl rfl) rfl rfl rfl ?_|refine aN (zH (k3) rfl rfl rfl rfl rfl) rfl rfl rfl ?_)|(refine uQ 107 ?_;first|refine xI (zH (k4) rfl rfl rfl rfl rfl) rfl ?_|refine uN (zH (k4) rfl rfl rfl rfl rfl) rfl rfl rfl ?_|refine aN (zH (k4) rfl rfl rfl rfl rfl) rfl rfl rfl ?_)))|(refine bR ?_;refine bQ tok rfl rfl rfl ?_)|refine TO gS ?_|refine qF ?_)|first|refine SQ ?_|fail)
 (repeat' (first|refine WZB ?_|refine xO (λhc=>?_) (λhc=>?_)|refine wB (λhc=>?_)|(refine zE ?_;first|refine SM ?_)|fail))
 refine zQ rfl (yY ?_);refine xS ?_;refine UJ [3000,1001,1002,3,4,6] [2,3,4,6,7,8] ⟨[(2,iA t),(3,.ptr 3 0 0),(4,.ptr 4 0 0),(6,.ptr 6 0 0),(7,.ptr 3000 0 0),(8,bA (PE j t))],[(3000,.box [.ref 1001 0 j.ph.length,iA c.gr,.ref 1002 0 (c.nx.map iA).length,iA c.wt]),(1001,.arr 2 (c.li.map vF) false),(1002,.arr 1 (c.nx.map iA) false),(3,.box [zD wU j.ph,zD iA j.cf,iA j.st]),(4,.box [zD vF c.li,iA c.gr,zD iA c.nx,iA c.wt]),(6,.box [.s (.slice none 0 0),iA 0,.s (.slice none 0 0),iA 0])]⟩ rfl ?_ ?_
 ·clear k1 k2 k3 k4 CL;by_cases a1:0<=t
  ·by_cases a2:t<j.ph.length
   ·rw[show PE j t=true from zX8 ⟨a1,a2⟩];refine WW ?_;exact⟨rfl,rfl⟩
   ·rw[show PE j t=false from zYa (λh=>a2 h.2)];refine WW ?_;exact⟨rfl,rfl⟩
  ·rw[show PE j t=false from zYa (λh=>a1 h.1)];refine WW ?_;exact⟨rfl,rfl⟩
 clear k1 k2 k3 k4;refine WW ?_;refine zP (j.ph.length) [1001,3,4,6,3000,1002] [3,4,6,3000,1002] [2,3,4,6,7,8,51,52] [53,2,3,4,6,7,8,51,52] rfl (λi T U=>⟨(53,iA i)::T,(1001,.arr 2 ((CZ j c t i).map vF) false)::U⟩) ?_;(conv=>whnf);refine⟨by(rw[ls0];rfl),?_,?_⟩
 ·intro i hi;have hy:=zM wU j.ph i hi
  change (j.ph.map wU)[i]? =some (wU (yW j i))at hy
  have hyl:=zM vF c.li i zB
  change (c.li.map vF)[i]? =some (vF (xY c i))at hyl
  have hym:∃l,((CZ j c t i).map vF)[i]? =some (vF l):=⟨_,zM vF (CZ j c t i) i (by rw[zBr];exact hi)⟩;obtain⟨lm,hym⟩:=hym;have hti:=J.ti i hi;have htk:=zVc (C.k i hi) zB zB;have hph:PhB (yW j i):=⟨zB,zB,zB,zB⟩;have hNi:=hN i;have ls:=λlv=>zMr (yW j i) hph (xY c i) zB lv
  have ck:=jV j.cf zB i t;have es:=zGw j c t i;have em:(CZ j c t (i+1)).map vF=((CZ j c t i).map vF).set i (vF (LD (yW j i) (xY c i) (AD j c t i))):=by rw[es,zZ9]
  rw[em];have elv:AD j c t i=_:=rfl
  conv at elv=>rhs;unfold AD
  have lsv:=ls (AD j c t i);clear ls es em CL hN ls0 lsE;generalize LD (yW j i) (xY c i) (AD j c t i)=ln at *;generalize (CZ j c t i).map vF=xs at *;generalize AD j c t i=lv at *;generalize fO j.cf i t=cq at*
  cases ha:PE j t with
  |false=>
   rw[ha]at elv;rw[zX0 yZ]at elv;generalize yW j i=ph at *;generalize xY c i=l at *;by_cases hm:ph.maxg<=l.tk+1
   ·rw[zX8 hm]at elv;subst elv;refine zU lsv ?_;rfl
   ·rw[zYa hm]at elv;subst elv;refine zU lsv ?_;rfl
  | true=>
   rw[ha]at elv;rw[zX1 rfl]at elv;generalize yW j i=ph at *;generalize xY c i=l at *;by_cases hpt:(i:Int)=t
   ·rw[zYa (λh=>h hpt)]at elv;rw[zZw]at elv;subst elv;by_cases hm:ph.maxg<=l.tk+1
    ·(refine zU lsv ?_)
     rfl
    ·(refine zU lsv ?_)
     rfl
   rw[zX8 hpt,zYp]at elv;by_cases hm:ph.maxg<=l.tk+1
   ·rw[zX8 hm,yAm]at elv;subst elv;refine zU lsv ?_;rfl
   ·rw[zYa hm,yBa]at elv;rw[elv]at lsv;clear elv
    cases cq with
    |true=>
     refine yQ (wZ ck lsv) ?_;rfl
    |false=>
     refine yQ (wZ ck lsv) ?_;rfl
 ·rw[lsE];have e1:((XR j c t).map vF).length=j.ph.length:=by simp[XR]
  clear lsE ls0 hN
  cases ha:PE j t with
  | true=>
   rw[zX1 rfl];unfold PE at ha;rw[zX9]at ha;obtain⟨tn,rfl⟩:∃tn:Nat,t=tn:=⟨t.toNat,zB⟩;rw[zZh];have cs:=zMh j J ⟨XR j c tn,c.gr,c.nx,c.wt⟩ CL h0 tn zB;unfold cL at cs;dsimp only at cs;rw[e1]at cs;generalize dP j tn (dP j tn ⟨XR j c tn,c.gr,c.nx,c.wt⟩ 0) 1=c2 at *;generalize (if(dP j tn ⟨XR j c tn,c.gr,c.nx,c.wt⟩ 0).gr=c.gr then(dP j tn ⟨XR j c tn,c.gr,c.nx,c.wt⟩ 0).nx else c.nx)=o at *;generalize (XR j c tn).map vF=xs at *;clear CL
   cases hE:decide (c2.gr≠c.gr)with
   |true=>
    rw[hE,show BA true c2 o=JE c2 o from rfl]at cs;unfold JE at cs;clear hE;refine zU cs ?_;exact zI [] rfl rfl (aY c2) rfl
   |false=>
    rw[hE,show BA false c2 o=cL c2 1002 from rfl]at cs;unfold cL at cs;clear hE;refine zU cs ?_;exact zI [] rfl rfl (aY c2) rfl
  | false=>
   rw[zX0 yZ];have cs:=zMi j J ⟨XR j c t,c.gr,c.nx,c.wt⟩ CL h0;unfold cL at cs;dsimp only at cs;rw[e1]at cs;generalize cyF j ⟨XR j c t,c.gr,c.nx,c.wt⟩=c2 at *;generalize cyO ⟨XR j c t,c.gr,c.nx,c.wt⟩=e at *;generalize (XR j c t).map vF=xs at *;clear CL
   cases e with
   |true=>
    rw[show BA true c2 c.nx=JE c2 c.nx from rfl]at cs;unfold JE at cs;refine zU cs ?_;exact zI [] rfl rfl (aY c2) rfl
   |false=>
    rw[show BA false c2 c.nx=cL c2 1002 from rfl]at cs;unfold cL at cs;refine zU cs ?_;exact zI [] rfl rfl (aY c2) rfl
theorem zGy (j:Jn) (hn:j.ph.length<=1000) (g gr wt:Int) (L:List AV) (nL:Nat):zN 181 [wH j,.ptr 3000 0 0,iA g] [(3000,.box [.ref 1001 0 nL,iA gr,.s (.slice none 0 0),iA wt]),(1001,.arr 2 L false)] (.tup [])
  [(3000,.box [.ref 1001 0 nL,iA g,.ref 2001 0 2,iA wt]),(1001,.arr 2 L false),(2001,.arr 1 [iA (bC j 0 g 0),iA (bC j 1 g 0)] false)]:=by
 have c0:=XN j hn 0 g 0;have c1:=XN j hn 1 g 0;generalize bC j 0 g 0=f0 at *;generalize bC j 1 g 0=f1 at *;obtain⟨N2,hN2⟩:∃n:Nat,n=2:=⟨2,rfl⟩;refine eM call181 λF hF=>?_
 (repeat' (first|refine qB ?_|refine xO (λhc=>?_) (λhc=>?_)|refine wB (λhc=>?_)|(refine zE ?_;first|(refine gU ?_;refine cK 2001 tok rfl rfl rfl rfl rfl rfl rfl rfl rfl rfl rfl rfl rfl zB zB rfl rfl rfl ?_))|fail))
 refine zP (N2) [3000,2001,3,1001] [3,1001] [1,2,3] [20,19,1,2,3] rfl (λi T U=>⟨(20,iA i)::(19,iA N2)::T,(3000,.box [.ref 1001 0 nL,iA g,.ref 2001 0 N2,iA wt])::(2001,.arr 1 (enN f0 f1 i) false)::U⟩) ?_;(conv=>whnf);refine⟨by(rw[hN2];rfl),?_,?_⟩
 ·intro i hi;have:i=0∨i=1:=by omega
  rcases this with rfl|rfl
  ·have hy:(enN f0 f1 0)[((0:Nat):Int).toNat]? =some (iA 0):=rfl;have hl:(enN f0 f1 0).length=2:=rfl;refine zU c0 ?_;rfl
  ·have hy:(enN f0 f1 1)[((1:Nat):Int).toNat]? =some (iA 0):=rfl;have hl:(enN f0 f1 1).length=2:=rfl;refine zU c1 ?_;rfl
 ·have e2:enN f0 f1 N2=[iA f0,iA f1]:=by rw[hN2];rfl
  rw[e2];refine WW ?_;subst hN2;exact jA [3000,1001,2001] rfl rfl rfl rfl
def inF (j:Jn):Ct:=⟨List.replicate j.ph.length ⟨0,0⟩,0,[bC j 0 0 0,bC j 1 0 0],j.st⟩
theorem XM (j:Jn) (p:Nat):xY (inF j) p=⟨0,0⟩:=by
 unfold xY inF;simp only[zX5,zZs]
 split<;>rfl
theorem FN {j:Jn} (J:JV j):CV j (inF j):=by
 refine⟨by simp[inF],λp hp=>by rw[XM];rfl,λp q hp hq hpq h1 h2=>by rw[XM]at h1;exact absurd rfl h1,⟨zZ8 _,?_⟩,rfl,λr hr=>zQd j (inF j) 0 r hr,⟨J.st.1,zZ8 _⟩,.inr λp hp=>by rw[XM]⟩;have:=RT J
 show(0:Int)<YX j
 omega
theorem zR5 {P:Program} {K0:List Nat} {F:Fr K0} {m:Nat} {ops:Array Oper} {rest:List Oper} {Q:List FP->St->Prop} {dr:Bool} {fs:List FP} {ty T:Nat} {pos:String} {after:Array Edge} {st:St} (hk:yC P F m ops dr (⟨some 3,.alloc T,ty,pos,after,none⟩::rest) st fs Q):yC P F m ops dr (⟨some 3,.alloc T,ty,pos,after,none⟩::rest) st fs Q:=hk
theorem zR6 (j:Jn) (hn:j.ph.length<=1000):zN 145 [wH j] [] (ctA (inF j)) []:=by
 have hlp:=zA wU j.ph;have ce:=zGy j hn 0 0 j.st ((List.replicate j.ph.length (⟨0,0⟩:Li)).map vF) ((List.replicate j.ph.length (⟨0,0⟩:Li)).map vF).length;have eL:(List.replicate j.ph.length (⟨0,0⟩:Li)).map vF=List.replicate j.ph.length (vF ⟨0,0⟩):=yBi;have eN:((List.replicate j.ph.length (⟨0,0⟩:Li)).map vF).length=j.ph.length:=by simp
 rw[eN,eL]at ce;rw[<-hlp]at ce;refine eM call145 λF hF=>?_
 repeat' (first|(refine zE ?_;first|(refine zR5 ?_;refine uN (nw:=[3000]) (YJ tok 3000 rfl rfl) rfl rfl rfl ?_)|refine vN tok rfl rfl ?_|(refine gU ?_;refine cK 1001 tok rfl rfl rfl rfl rfl rfl rfl rfl rfl rfl rfl rfl rfl zB zB rfl rfl rfl ?_)|refine YH tok rfl rfl rfl rfl ?_|(refine wD ?_;(first|(refine uQ 181 ?_;first|refine xI (zH (ce) rfl rfl rfl rfl rfl) rfl ?_|refine uN (zH (ce) rfl rfl rfl rfl rfl) rfl rfl rfl ?_|refine aN (zH (ce) rfl rfl rfl rfl rfl) rfl rfl rfl ?_)))|(refine bR ?_;refine bQ tok rfl rfl rfl ?_)|refine TO gS ?_|refine qF ?_)|first|refine SQ ?_|fail)
 have eF:AV.agg [.sl false ((List.replicate (j.ph.map wU).length (vF ⟨0,0⟩)).take (j.ph.map wU).length),iA 0,.sl false [iA (bC j 0 0 0),iA (bC j 1 0 0)],iA j.st]=ctA (inF j):=by
  rw[zYb zS,hlp,<-eL];rfl
 exact zI [] rfl rfl eF rfl
theorem zQa (p:Nat->Bool) {n q:Nat} (hn:n<=8) (hq:q<n):PB (gB p n) q=p q:=by
 have e:=KY (λi=>decide (i<n)&&p i) n 8 hn (λi h1 h2=>by rw[zYa zB];rfl);have e2:gB p n=gB (λi=>decide (i<n)&&p i) n:=cV _ λi hi=>by rw[zX8 hi];rfl
 rw[e2,<-e,zG2 _ q zB,zX8 hq];rfl
theorem zBs (ps:List Ph) (ex:Bool) (i:Nat):∀n,YP ps ex i n=gB (cnd ps ex i) n
 |0=>rfl
 |n+1=>by
  unfold YP gB;rw[zBs ps ex i n];have:(2:Int) ^ n=p2 n:=by unfold p2;rw[zZh]
  rw[this]
theorem zMk (ps:List Ph) (ex:Bool) {p q:Nat} (hn:ps.length<=8) (hp:p<ps.length) (hq:q<ps.length):fO (gH ps ex ps.length) p q=cnd ps ex p q:=by
 have hl:(gH ps ex ps.length).length=ps.length:=by simp[gH]
 unfold fO;rw[zX8 zB,zYp,zZh]
 have e:(gH ps ex ps.length).getD p default=YP ps ex p ps.length:=by
  unfold gH;simp[List.getD,hp]
 rw[e,zBs];exact zQa _ hn hq
theorem zGz (d:Dk) (l:List (Int×Int)):∀i k,k<i->∃e,(LG d l i).1.getD k default=UM e (l.getD k default)
 |0,k,h=>absurd h (yAi _)
 |i+1,k,h=>by
  have hl:=VK d l i;unfold LG;by_cases hk:k=i
  ·subst hk;refine⟨(LG d l k).2,?_⟩;simp[List.getD,hl]
  ·obtain⟨e,he⟩:=zGz d l i k zB;refine⟨e,?_⟩;rw[<-he];simp only[zX5];rw[zYw zB]
def ShB (l:List (Int×Int)):Bool:=(l.all λs=>decide (0<=s.1/\s.1<=1/\0<=s.2/\s.2<=3))&&(l.all λs=>[0,1,2].all λg:Int=>decide (s.2<=g)||(l.any λs'=>s'.2==g))
theorem zG0 (n:Int):ShB (qD n)=true:=by
 unfold qD;split
 ·decide
 split
 ·decide
 split
 ·decide
 split
 ·decide
 split
 ·decide
 ·decide
theorem FO (d:Dk) (s:Int×Int):(UM d s).ring=s.1/\(UM d s).group=s.2/\1<=(UM d s).ming/\(UM d s).ming<=(UM d s).maxg/\(UM d s).maxg<=60/\1<=(UM d s).yel/\(UM d s).yel<=60/\0<=(UM d s).red/\(UM d s).red<=60/\0<=(UM d s).walk/\(UM d s).walk<=60/\0<=(UM d s).clear/\(UM d s).clear<=60/\(UM d s).walk+(UM d s).clear<=(UM d s).maxg/\((UM d s).walk=0↔(UM d s).clear=0):=by
 have b1:=yF d (3-1+1) zB;have b2:=yF (ad d) (2-1+1) zB;have b3:=yF (ad (ad d)) 3 zB;have b4:=yF (ad (ad (ad (ad d)))) (2-1+1) zB;have b5:=yF (ad (ad (ad (ad (ad d))))) (2-1+1) zB;have b6:=yF (ad (ad (ad (ad (ad (ad d)))))) 4 zB;have b7:=yF (ad (ad (ad (ad d)))) 4 zB;unfold UM;split
 ·dsimp only;omega
 ·dsimp only;omega
theorem zQb (a b:Int):(a==b)=(b==a):=by rw[yCl,zZg,zZg];exact eq_comm
theorem zVd (a b:Int):(a != b)=(b != a):=by unfold bne;rw[zQb]
theorem zVe (a b:Nat):(a != b)=(b != a):=by unfold bne;rw[show(a==b)=(b==a) by rw[yCl,zZg,zZg];exact eq_comm]
theorem zR7 (d:Dk):JV (jnF d):=by
 have hsl:=PL (nx d 6);have hsb:=zG0 (nx d 6);have hst:=yF (ad d) 3 zB;have hlen:(XT d).1.length=(qD (nx d 6)).length:=VK _ _ _
 have hat:∀k,k<(XT d).1.length->∃e,yW (jnF d) k=UM e ((qD (nx d 6)).getD k default):=λk hk=>by
  rw[hlen]at hk;exact zGz _ _ _ k hk
 have hph:(jnF d).ph=(XT d).1:=rfl;generalize qD (nx d 6)=sl at *;generalize hex:(nx (XT d).2 4==3)=ex at *;have hcf:(jnF d).cf=gH (XT d).1 ex (XT d).1.length:=by unfold jnF;rw[hex]
 unfold ShB at hsb;simp only[zYh,zYf,zX9,zZ6,zZp,zZg]at hsb
 have hmem:∀k,k<(XT d).1.length->sl.getD k default∈sl:=λk hk=>by
  rw[hlen]at hk;simp[List.getD,hk]
 have hcd:∀p q:Nat,p<(XT d).1.length->q<(XT d).1.length->fO (jnF d).cf p q=cnd (XT d).1 ex p q:=λp q hp hq=>by
  rw[hcf];exact zMk _ _ zB hp hq
 have hc1:(jnF d).cf.length=(XT d).1.length:=by rw[hcf];simp[gH]
 refine⟨?_,?_,?_,?_,?_,?_,?_,?_,?_,?_,?_⟩
 ·rw[hph];omega
 ·rw[hph];exact hc1
 ·intro i hi;rw[hph]at hi⊢
  have e:(jnF d).cf.getD i default=YP (XT d).1 ex i (XT d).1.length:=by
   rw[hcf];unfold gH;simp[List.getD,hi]
  rw[e];exact RU _ _ _ _
 ·intro p hp;rw[hph]at hp;rw[hcd p p hp hp];unfold cnd;simp
 ·intro p q hp hq;rw[hph]at hp hq;rw[hcd p q hp hq,hcd q p hq hp];unfold cnd;rw[zVe p q,zQb ((XT d).1.getD p default).ring,zVd ((XT d).1.getD p default).group,show((p:Int)+q)=((q:Int)+p) by omega]
 ·intro p q hp hq hpq h;rw[hph]at hp hq;rw[hcd p q hp hq];unfold cnd;rw[show(p != q)=true by simpa using hpq,zYp]
  rcases h with h|h
  ·rw[show(((XT d).1.getD p default).ring==((XT d).1.getD q default).ring)=true from zZg.2 h];rfl
  ·rw[show(((XT d).1.getD p default).group != ((XT d).1.getD q default).group)=true from yAf.2 h];simp
 ·intro p hp;obtain⟨e,he⟩:=hat p hp;rw[he,(FO e _).1];have:=hsb.1 _ (hmem p hp);omega
 ·intro p hp;obtain⟨e,he⟩:=hat p hp;rw[he,(FO e _).2.1];have:=hsb.1 _ (hmem p hp);omega
 ·intro p hp;obtain⟨e,he⟩:=hat p hp;rw[he];exact(FO e _).2.2
 ·intro p hp g hg0 hg;obtain⟨e,he⟩:=hat p hp;rw[he,(FO e _).2.1]at hg;have h3:=hsb.1 _ (hmem p hp)
  have hgm:g∈([0,1,2]:List Int):=by
   have:g=0∨g=1∨g=2:=by omega
   rcases this with rfl|rfl|rfl<;>simp
  rcases hsb.2 _ (hmem p hp) g hgm with h|⟨s,hs,hsg⟩
  ·omega
  ·obtain⟨q,hq,hqs⟩:=yAa hs;refine⟨q,by rw[hph,hlen];exact hq,?_⟩;obtain⟨e2,he2⟩:=hat q (by rw[hlen];exact hq);rw[he2,(FO e2 _).2.1];have:sl.getD q default=s:=by rw[<-hqs];simp[List.getD,hq]
   rw[this];exact hsg
 ·show 0<=nx (ad d) 3/\nx (ad d) 3<=60
  omega
theorem zQc (s p:Int) (hs:0<=s/\s<256) (hp:0<=p/\p<8):zN 85 [iA s,iA p] [] (bA (PB s p)) []:=by
 unfold PB;by_cases h5:jU (uB s p) 1=1
 ·rw[show(jU (uB s p) 1==1)=true by rw[zZg];exact h5];refine eM call85 λF hF=>?_
  refine WW ?_;exact zJ
 ·rw[show(jU (uB s p) 1==1)=false by rw[zY9];exact h5];refine eM call85 λF hF=>?_
  refine WW ?_;exact zJ
theorem zMl (rows:List Int) (hn:rows.length<=40) (p q:Int):zN 86 [zD iA rows,iA p,iA q] [] (bA (fO rows p q)) []:=by
 have hl:=zA iA rows;unfold fO;by_cases h1:0<=p
 case neg=>
  rw[zYa (λh=>h1 h.1)];refine eM call86 λF hF=>?_
  refine WW ?_;exact zJ
 by_cases h3:p<rows.length
 case neg=>
  rw[zYa (λh=>h3 h.2.2.1)];refine eM call86 λF hF=>?_
  refine WW ?_;exact zJ
 by_cases h2:0<=q
 case neg=>
  rw[zYa (λh=>h2 h.2.1)];refine eM call86 λF hF=>?_
  refine WW ?_;exact zJ
 by_cases h4:q<rows.length
 case neg=>
  rw[zYa (λh=>h4 h.2.2.2)];refine eM call86 λF hF=>?_
  refine WW ?_;exact zJ
 rw[zX8 ⟨h1,h2,h3,h4⟩,zYp];have hy:=yM iA rows p h1 h3;generalize rows.getD p.toNat default=x at *;by_cases h5:jU (uB x q) 1=1
 ·rw[show(jU (uB x q) 1==1)=true by rw[zZg];exact h5];refine eM call86 λF hF=>?_
  refine WW ?_;exact zJ
 ·rw[show(jU (uB x q) 1==1)=false by rw[zY9];exact h5];refine eM call86 λF hF=>?_
  refine WW ?_;exact zJ
theorem zG1 (rows:List Int) (hn:rows.length<=8) (s:Int) (hs:0<=s/\s<256) (hno:∀a b:Nat,a<rows.length->b<rows.length->(PB s a&&(PB s b&&fO rows a b))=false):zN 36 [zD iA rows,iA s] [] (.tup [iA (-1),iA (-1)]) []:=by
 have hl:=zA iA rows;refine eM call36 λF hF=>?_
 refine WW ?_;refine zP (rows.length) [] [] [0,1,9] [10,0,1,9] rfl (λi T U=>⟨(10,iA i)::T,U⟩) ?_;(conv=>whnf);refine⟨by rfl,?_,?_⟩
 ·intro u hu;have ci:=zQc s u hs zB;refine WW ?_;refine zP (rows.length) [] [] [0,1,6,9,10,14] [15,0,1,6,9,10,14] rfl (λi T U=>⟨(15,iA i)::T,U⟩) ?_;(conv=>whnf);refine⟨by rfl,?_,?_⟩
  ·intro v hv;have cj:=zQc s v hs zB;have ck:=zMl rows zB u v;have h:=hno u v hu hv
   cases h3:PB s u with
   |false=>
    rw[h3]at ci;refine zU ci ?_;rfl
   |true=>
   rw[h3]at ci;rw[h3,zYp]at h
   cases h2:PB s v with
   |false=>
    rw[h2]at cj;refine yQ (wZ ci cj) ?_;rfl
   |true=>
    rw[h2]at cj;rw[h2,zYp]at h;rw[h]at ck;refine yQ (fB ci cj ck) ?_;rfl
  ·clear hno;refine WW ?_;rfl
 ·clear hno;refine WW ?_;exact zJ
end Av
end Go.Proofs.YtmamjhmoegjapaaGreat
