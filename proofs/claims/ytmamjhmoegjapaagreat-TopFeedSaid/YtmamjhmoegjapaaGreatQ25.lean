/- Part 25. -/
import Derived.Test.YtmamjhmoegjapaaGreatQ24
namespace Go.Proofs.YtmamjhmoegjapaaGreat
namespace Av
open Tryz
set_option linter.all false
set_option maxRecDepth 4000
set_option maxHeartbeats 1000000
theorem zQp {j:Jn} (J:JV j) {c:Ct} {r:Int} {t:Nat} (ht:t<j.ph.length):(dS j t c r).gr=c.gr∨(dS j t c r).gr=(xC j t).group:=by
 unfold dS;split
 ·split
  ·exact .inl rfl
  ·rename_i h;obtain⟨p,hpe,hp,hpg⟩:=LR J (c:=c) (r:=r) ht h;rw[hpe,zYs]
   rcases eO j c p with h|h
   ·rw[h.2];exact .inl rfl
   ·rw[h.2,hpg];exact .inr rfl
 ·exact .inl rfl
theorem zEx (e:Bool) (c:Ct) (o:List Int):vX (DW e c o)=true:=by cases e<;>rfl
def zCo (j:Jn) (t:Nat) (e:Bool) (i:Int) (c:Ct) (o:List Int):St:=⟨[(8,iA i),(1,.ptr 3000 0 0),(2,iA t),(3,.ptr 3 0 0)],DW e c o++[(3,.box [zD wY j.ph,zD iA j.cf,iA j.st])]⟩
theorem zLa (j:Jn) (J:JV j) (c:Ct) (C:CV j c) (h0:c.wt=0) (t:Nat) (ht:t<j.ph.length):zN 228 [wP j,.ptr 3000 0 0,iA (t:Int)] (cH c 1002) (.tup []) (DW (decide ((dS j t (dS j t c 0) 1).gr≠c.gr)) (dS j t (dS j t c 0) 1) (if(dS j t c 0).gr=c.gr then(dS j t c 0).nx else c.nx)):=by
 have hn:=J.n;have hn8:j.ph.length<=1000:=by omega
 have hjc:=J.c;have hlp:=zA wY j.ph;have hyt:=zM wY j.ph t ht
 change (j.ph.map wY)[t]? =some (wY (xC j t))at hyt
 have hc_c:=C.n;have hm_c:=C.m;obtain⟨C1,h01⟩:=zFs J C h0 ht 0;have hc_c1:=C1.n;have hm_c1:=C1.m;have hgr1:=zQp J (c:=c) (r:=0) ht;have heq_c:c.gr=c.gr:=rfl;refine XM tok func228 rfl (λargs w=>call228 args w) rfl rfl (zEx _ _ _) (λF hF=>?_);refine WW ?_;refine ZO [3000,1001,1002,2001,3] [8,1,2,3] (zCo j t false 0 c c.nx) (zCo j t (decide ((dS j t c 0).gr≠c.gr)) 1 (dS j t c 0) c.nx) (zCo j t (decide ((dS j t (dS j t c 0) 1).gr≠c.gr)) 2 (dS j t (dS j t c 0) 1) (if(dS j t c 0).gr=c.gr then(dS j t c 0).nx else c.nx)) rfl rfl ?_ ?_ ?_
 ·unfold zCo;clear C1 hgr1 hc_c1 hm_c1 h01;rw[show DW false c c.nx=cH c 1002 from rfl];unfold cH;have cd:=YW j hn8 c hc_c 0
  cases hd:dkF j c 0 with
  |false=>
   rw[hd]at cd;rw[show dS j t c 0=c by unfold dS;rw[zW8 (by rw[hd];decide)]];rw[show decide (c.gr≠c.gr)=false from zXj (λh=>h heq_c)];clear hd;refine zU cd ?_;rfl
  |true=>
  rw[hd]at cd
  have hsv:dS j t c 0=if YL j c 0 t= -1 then c else jN j c (YL j c 0 t).toNat:=by unfold dS;rw[zW9 hd]
  by_cases hrt:0=(xC j t).ring
  ·
   have hP:YL j c 0 t=t:=by unfold YL;rw[zW9 hrt]
   rw[hP]at hsv;rw[zW8 zB,zYs]at hsv;by_cases hk:XW j c t=true∨c.gr=(xC j t).group
   ·have cb:=ZL j hn8 zB c hc_c hm_c t ht (J.rg t ht) hk
    have hg2:(jN j c t).gr=c.gr:=by
     rcases eO j c t with h|h
     ·exact(zX7 Ct.gr h.2).trans heq_c
     ·rcases hk with hk|hk
      ·rw[hk]at h;cases h.1
      ·exact h.2.trans (hk.symm.trans heq_c)
    rw[hsv,show decide ((jN j c t).gr≠c.gr)=false from zXj (λh=>h hg2)];generalize jN j c t=b at *;clear hd hsv hg2 hk;unfold cH at cb;refine yO (wW cd cb) ?_;rfl
   ·have hk1:XW j c t=false:=by
     cases h:XW j c t with
     |false=>rfl
     |true=>exact absurd (.inl h) hk
    have hk2:c.gr≠(xC j t).group:=λh=>hk (.inr h)
    have cb:=SW j hn8 zB c hc_c hm_c t ht (J.rg t ht) hk1 hk2
    have hg2:(jN j c t).gr≠c.gr:=by
     rcases eO j c t with h|h
     ·rw[hk1]at h;cases h.1
     ·rw[h.2,<-heq_c];exact λh=>hk2 h.symm
    rw[hsv,show decide ((jN j c t).gr≠c.gr)=true from zXg hg2];generalize jN j c t=b at *;clear hd hsv hg2 hk hk1 hk2;unfold cH LQ at cb;refine yO (wW cd cb) ?_;rfl
  ·
   have cm:=CT j hn8 zB c hm_c 0 t zB;have hP:YL j c 0 t=cmF j (c.nx.getD (0:Int).toNat default) 0 t:=by unfold YL;rw[zW8 hrt]
   rw[<-hP]at cm;by_cases hm1:YL j c 0 t= -1
   ·rw[zW9 hm1]at hsv;rw[hsv];rw[show decide (c.gr≠c.gr)=false from zXj (λh=>h heq_c)];generalize YL j c 0 t=pp at *;clear hP hd hsv;refine yO (wW cd cm) ?_;rfl
   obtain⟨p,hpe,hp,hpg⟩:=LR J (c:=c) (r:=0) ht hm1;rw[zW8 hm1,hpe,zYs]at hsv;rw[hpe]at cm;clear hP hm1 hpe;by_cases hk:XW j c p=true∨c.gr=(xC j p).group
   ·have cb:=ZL j hn8 zB c hc_c hm_c p hp (J.rg p hp) hk
    have hg2:(jN j c p).gr=c.gr:=by
     rcases eO j c p with h|h
     ·exact(zX7 Ct.gr h.2).trans heq_c
     ·rcases hk with hk|hk
      ·rw[hk]at h;cases h.1
      ·exact h.2.trans (hk.symm.trans heq_c)
    rw[hsv,show decide ((jN j c p).gr≠c.gr)=false from zXj (λh=>h hg2)];generalize jN j c p=b at *;clear hd hsv hg2 hk;unfold cH at cb;refine yO (gU cd cm cb) ?_;rfl
   ·have hk1:XW j c p=false:=by
     cases h:XW j c p with
     |false=>rfl
     |true=>exact absurd (.inl h) hk
    have hk2:c.gr≠(xC j p).group:=λh=>hk (.inr h)
    have cb:=SW j hn8 zB c hc_c hm_c p hp (J.rg p hp) hk1 hk2
    have hg2:(jN j c p).gr≠c.gr:=by
     rcases eO j c p with h|h
     ·rw[hk1]at h;cases h.1
     ·rw[h.2,<-heq_c];exact λh=>hk2 h.symm
    rw[hsv,show decide ((jN j c p).gr≠c.gr)=true from zXg hg2];generalize jN j c p=b at *;clear hd hsv hg2 hk hk1 hk2;unfold cH LQ at cb;refine yO (gU cd cm cb) ?_;rfl
 ·clear hc_c hm_c heq_c;have he1:=hgr1;generalize dS j t c 0=c1 at *;unfold zCo;by_cases heq_c1:c1.gr=c.gr
  ·rw [zW9 heq_c1,zXj (λh=>h heq_c1)];rw[show DW false c1 c.nx=cH c1 1002 from rfl];unfold cH;have cd:=YW j hn8 c1 hc_c1 1
   cases hd:dkF j c1 1 with
   |false=>
    rw[hd]at cd;rw[show dS j t c1 1=c1 by unfold dS;rw[zW8 (by rw[hd];decide)]];rw[show decide (c1.gr≠c.gr)=false from zXj (λh=>h heq_c1)];clear hd;refine zU cd ?_;rfl
   |true=>
   rw[hd]at cd
   have hsv:dS j t c1 1=if YL j c1 1 t= -1 then c1 else jN j c1 (YL j c1 1 t).toNat:=by unfold dS;rw[zW9 hd]
   by_cases hrt:1=(xC j t).ring
   ·
    have hP:YL j c1 1 t=t:=by unfold YL;rw[zW9 hrt]
    rw[hP]at hsv;rw[zW8 zB,zYs]at hsv;by_cases hk:XW j c1 t=true∨c1.gr=(xC j t).group
    ·have cb:=ZL j hn8 zB c1 hc_c1 hm_c1 t ht (J.rg t ht) hk
     have hg2:(jN j c1 t).gr=c.gr:=by
      rcases eO j c1 t with h|h
      ·exact(zX7 Ct.gr h.2).trans heq_c1
      ·rcases hk with hk|hk
       ·rw[hk]at h;cases h.1
       ·exact h.2.trans (hk.symm.trans heq_c1)
     rw[hsv,show decide ((jN j c1 t).gr≠c.gr)=false from zXj (λh=>h hg2)];generalize jN j c1 t=b at *;clear hd hsv hg2 hk;unfold cH at cb;refine yO (wW cd cb) ?_;rfl
    ·have hk1:XW j c1 t=false:=by
      cases h:XW j c1 t with
      |false=>rfl
      |true=>exact absurd (.inl h) hk
     have hk2:c1.gr≠(xC j t).group:=λh=>hk (.inr h)
     have cb:=SW j hn8 zB c1 hc_c1 hm_c1 t ht (J.rg t ht) hk1 hk2
     have hg2:(jN j c1 t).gr≠c.gr:=by
      rcases eO j c1 t with h|h
      ·rw[hk1]at h;cases h.1
      ·rw[h.2,<-heq_c1];exact λh=>hk2 h.symm
     rw[hsv,show decide ((jN j c1 t).gr≠c.gr)=true from zXg hg2];generalize jN j c1 t=b at *;clear hd hsv hg2 hk hk1 hk2;unfold cH LQ at cb;refine yO (wW cd cb) ?_;rfl
   ·
    have cm:=CT j hn8 zB c1 hm_c1 1 t zB;have hP:YL j c1 1 t=cmF j (c1.nx.getD (1:Int).toNat default) 1 t:=by unfold YL;rw[zW8 hrt]
    rw[<-hP]at cm;by_cases hm1:YL j c1 1 t= -1
    ·rw[zW9 hm1]at hsv;rw[hsv];rw[show decide (c1.gr≠c.gr)=false from zXj (λh=>h heq_c1)];generalize YL j c1 1 t=pp at *;clear hP hd hsv;refine yO (wW cd cm) ?_;rfl
    obtain⟨p,hpe,hp,hpg⟩:=LR J (c:=c1) (r:=1) ht hm1;rw[zW8 hm1,hpe,zYs]at hsv;rw[hpe]at cm;clear hP hm1 hpe;by_cases hk:XW j c1 p=true∨c1.gr=(xC j p).group
    ·have cb:=ZL j hn8 zB c1 hc_c1 hm_c1 p hp (J.rg p hp) hk
     have hg2:(jN j c1 p).gr=c.gr:=by
      rcases eO j c1 p with h|h
      ·exact(zX7 Ct.gr h.2).trans heq_c1
      ·rcases hk with hk|hk
       ·rw[hk]at h;cases h.1
       ·exact h.2.trans (hk.symm.trans heq_c1)
     rw[hsv,show decide ((jN j c1 p).gr≠c.gr)=false from zXj (λh=>h hg2)];generalize jN j c1 p=b at *;clear hd hsv hg2 hk;unfold cH at cb;refine yO (gU cd cm cb) ?_;rfl
    ·have hk1:XW j c1 p=false:=by
      cases h:XW j c1 p with
      |false=>rfl
      |true=>exact absurd (.inl h) hk
     have hk2:c1.gr≠(xC j p).group:=λh=>hk (.inr h)
     have cb:=SW j hn8 zB c1 hc_c1 hm_c1 p hp (J.rg p hp) hk1 hk2
     have hg2:(jN j c1 p).gr≠c.gr:=by
      rcases eO j c1 p with h|h
      ·rw[hk1]at h;cases h.1
      ·rw[h.2,<-heq_c1];exact λh=>hk2 h.symm
     rw[hsv,show decide ((jN j c1 p).gr≠c.gr)=true from zXg hg2];generalize jN j c1 p=b at *;clear hd hsv hg2 hk hk1 hk2;unfold cH LQ at cb;refine yO (gU cd cm cb) ?_;rfl
  ·have hne_c1:c1.gr≠c.gr:=heq_c1
   have hgt_c1:c1.gr=(xC j t).group:=by
    rcases he1 with h|h
    ·exact absurd h hne_c1
    ·exact h
   rw[zW8 heq_c1,zXg hne_c1];rw[show DW true c1 c.nx=LQ c1 c.nx from rfl];unfold LQ;have cd:=YW j hn8 c1 hc_c1 1
   cases hd:dkF j c1 1 with
   |false=>
    rw[hd]at cd;rw[show dS j t c1 1=c1 by unfold dS;rw[zW8 (by rw[hd];decide)]];rw[show decide (c1.gr≠c.gr)=true from zXg hne_c1];clear hd;refine zU cd ?_;rfl
   |true=>
   rw[hd]at cd
   have hsv:dS j t c1 1=if YL j c1 1 t= -1 then c1 else jN j c1 (YL j c1 1 t).toNat:=by unfold dS;rw[zW9 hd]
   by_cases hrt:1=(xC j t).ring
   ·
    have hP:YL j c1 1 t=t:=by unfold YL;rw[zW9 hrt]
    rw[hP]at hsv;rw[zW8 zB,zYs]at hsv;have cb:=SU j hn8 zB c1 hc_c1 hm_c1 t ht (J.rg t ht) (.inr (hgt_c1.trans (rfl:(xC j t).group=(xC j t).group).symm))
    have hg2:(jN j c1 t).gr≠c.gr:=by
     rcases eO j c1 t with h|h
     ·rw[h.2];exact hne_c1
     ·rw[h.2,(rfl:(xC j t).group=(xC j t).group),<-hgt_c1];exact hne_c1
    rw[hsv,show decide ((jN j c1 t).gr≠c.gr)=true from zXg hg2];generalize jN j c1 t=b at *;clear hd hsv hg2;unfold cH at cb;refine yO (wW cd cb) ?_;rfl
   ·
    have cm:=CT j hn8 zB c1 hm_c1 1 t zB;have hP:YL j c1 1 t=cmF j (c1.nx.getD (1:Int).toNat default) 1 t:=by unfold YL;rw[zW8 hrt]
    rw[<-hP]at cm;by_cases hm1:YL j c1 1 t= -1
    ·rw[zW9 hm1]at hsv;rw[hsv];rw[show decide (c1.gr≠c.gr)=true from zXg hne_c1];generalize YL j c1 1 t=pp at *;clear hP hd hsv;refine yO (wW cd cm) ?_;rfl
    obtain⟨p,hpe,hp,hpg⟩:=LR J (c:=c1) (r:=1) ht hm1;rw[zW8 hm1,hpe,zYs]at hsv;rw[hpe]at cm;clear hP hm1 hpe;have cb:=SU j hn8 zB c1 hc_c1 hm_c1 p hp (J.rg p hp) (.inr (hgt_c1.trans (hpg:(xC j p).group=(xC j t).group).symm))
    have hg2:(jN j c1 p).gr≠c.gr:=by
     rcases eO j c1 p with h|h
     ·rw[h.2];exact hne_c1
     ·rw[h.2,(hpg:(xC j p).group=(xC j t).group),<-hgt_c1];exact hne_c1
    rw[hsv,show decide ((jN j c1 p).gr≠c.gr)=true from zXg hg2];generalize jN j c1 p=b at *;clear hd hsv hg2;unfold cH at cb;refine yO (gU cd cm cb) ?_;rfl
 ·generalize (if(dS j t c 0).gr=c.gr then(dS j t c 0).nx else c.nx)=o at *;generalize dS j t (dS j t c 0) 1=c2 at *;unfold zCo;by_cases he:c2.gr=c.gr
  ·rw[zXj (λh=>h he)];refine WW ?_;exact kT [3000,1001,1002] rfl rfl rfl rfl
  ·rw[zXg he];refine WW ?_;exact kT [3000,1001,1002,2001] rfl rfl rfl rfl
theorem zEy (c:Ct) (hn:c.li.length<=1000):zN 251 [ctT c] [] (bA (arF c)) []:=by rw[aM];exact GC c hn
def ovN (c:Ct) (i:Nat):Bool:=arF c&&(c.nx.take i).all λp=>p== -1
theorem zEz (c:Ct) (i:Nat) (hi:i<c.nx.length):ovN c (i+1)=(ovN c i&&(c.nx.getD i default== -1)):=by
 unfold ovN;rw[<-yB2 hi,List.all_append];simp[List.getD,hi,Bool.and_assoc]
def TU (j:Jn) (e:Bool) (i:Int) (c:Ct) (o:List Int):St:=⟨[(36,iA i),(1,.ptr 3000 0 0),(2,.ptr 2 0 0)],DW e c o++[(2,.box [zD wY j.ph,zD iA j.cf,iA j.st])]⟩
theorem zLb (j:Jn) (J:JV j) (c:Ct) (C:CV j c) (h0:c.wt=0):zN 229 [wP j,.ptr 3000 0 0] (cH c 1002) (.tup []) (DW (cyO c) (cyF j c) c.nx):=by
 have hn:=J.n;have hn8:j.ph.length<=1000:=by omega
 have hjc:=J.c;have hlp:=zA wY j.ph;have hll:=zA vG c.li;have hln:=zA iA c.nx;have hcn:=C.n;have hcm:=C.m;have ca:=zEy c zB;have cg:=GB j hn8 J.gp;have hgp:=LT J
 have hgl:WH j<=4:=by
  have:∀n,n<=j.ph.length->grN j.ph n<=4:=λn=>by
   induction n with
   |zero=>intro _;show(0:Int)<=4;omega
   |succ n ih=>
    intro h;have h1:=ih zB;have h2:=J.gp n zB;unfold xC at h2;unfold grN;omega
  exact this _ (zXc _)
 have hcg:=C.g;have htm:(c.gr+1).tmod (WH j)=(c.gr+1) % WH j:=zYn zB;have hO:ovN c c.nx.length=cyO c:=by unfold ovN cyO;rw[zXe]
 refine XM tok func229 rfl (λargs w=>call229 args w) rfl rfl (zEx _ _ _) (λF hF=>?_);unfold cH;have ho0:ovN c 0=arF c:=by unfold ovN;simp
 rw[<-ho0]at ca;refine zU ca ?_;refine zP (c.nx.length) [2,3000,1001,1002] [2,3000,1001,1002] [1,2,15,16] [4,17,1,2,15,16] rfl (λi T U=>⟨(4,bA (ovN c i))::(17,iA i)::T,U⟩) ?_;(conv=>whnf);refine⟨by rfl,?_,?_⟩
 ·intro i hi;have hy:=zM iA c.nx i hi;have es:=zEz c i hi;rw[es];generalize ovN c i=o at *;generalize c.nx.getD i default=x at *;by_cases hx:x= -1
  ·rw[show(x== -1)=true by rw[zYr];exact hx,yBf];clear ca cg;refine WW ?_;rfl
  ·rw[show(x== -1)=false by rw[zYm];exact hx,yBa];clear ca cg;refine WW ?_;rfl
 ·rw [hO];clear hO ho0 ca
  cases hco:cyO c with
  | true=>
   have hcy:cyF j c=dT j (dT j (etF j c ((c.gr+1) % WH j)) 0) 1:=by unfold cyF;rw[zW9 hco]
   rw[hcy];have hgm:0<=(c.gr+1) % WH j/\(c.gr+1) % WH j<WH j:=⟨yA2 _ zB,yAs _ zB⟩;have C_c0:=zFq C hgm;have hw0:(etF j c ((c.gr+1) % WH j)).wt=0:=h0;have ce:=zAv j hn8 ((c.gr+1) % WH j) c.gr c.wt (c.li.map vG) (c.nx.map iA) (c.li.map vG).length (c.nx.map iA).length;rw[show([(3000,.box [.ref 1001 0 (c.li.map vG).length,iA ((c.gr+1) % WH j),.ref 2001 0 2,iA c.wt]),(1001,.arr 2 (c.li.map vG) false),(1002,.arr 1 (c.nx.map iA) false),(2001,.arr 1 [iA (cU j 0 ((c.gr+1) % WH j) 0),iA (cU j 1 ((c.gr+1) % WH j) 0)] false)]:List (Nat×xN))=LQ (etF j c ((c.gr+1) % WH j)) c.nx from rfl]at ce;rw[<-htm]at ce;rw[htm]at ce;generalize hc0:etF j c ((c.gr+1) % WH j)=c0 at *;rw[<-htm]at ce;have hne:¬WH j=0:=by omega
   generalize WH j=gm at *;have hc_c0:=C_c0.n;have hm_c0:=C_c0.m;obtain⟨C_c1,h01⟩:=LU J C_c0 hw0 (r:=0) zB;have hc_c1:=C_c1.n;have hm_c1:=C_c1.m
   change CV j (dT j c0 0)at C_c1
   change (dT j c0 0).li.length=j.ph.length at hc_c1
   change (dT j c0 0).nx.length=2 at hm_c1
   clear hcy hc0 C;unfold LQ at ce;refine yO (wW cg ce) ?_;refine ZO [3000,1001,1002,2001,2] [36,1,2] (TU j true 0 c0 c.nx) (TU j true 1 (dT j c0 0) c.nx) (TU j true 2 (dT j (dT j c0 0) 1) c.nx) rfl rfl ?_ ?_ ?_
   ·unfold TU;rw[show DW true c0 c.nx=LQ c0 c.nx from rfl];unfold LQ;have cd:=YW j hn8 c0 hc_c0 0;have hyn:=zM iA c0.nx 0 zB;have hv:=C_c0.v 0 zB;have hnl:(c0.nx.map iA).length=2:=by rw[zXa];exact hm_c0
    cases hd:dkF j c0 0 with
    |false=>
     rw[hd]at cd;rw[show dT j c0 0=c0 by unfold dT;rw[zW8 (by rw[hd];simp)]];clear hd;refine zU cd ?_;rfl
    |true=>
    rw[hd]at cd
    have hsv:dT j c0 0=if c0.nx.getD 0 default= -1 then c0 else jN j c0 (c0.nx.getD 0 default).toNat:=by
     unfold dT;rw[hd]
     show(if true=true/\c0.nx.getD 0 default≠ -1 then jN j c0 (c0.nx.getD 0 default).toNat else c0)=_
     by_cases h:c0.nx.getD 0 default= -1
     ·rw[zW9 h,zW8 (λk=>k.2 h)]
     ·rw[zW8 h,zW9 ⟨rfl,h⟩]
    clear hd;by_cases hm1:c0.nx.getD 0 default= -1
    ·rw[zW9 hm1]at hsv;rw[hsv];clear hsv hv;generalize c0.nx.getD 0 default=x at *;refine zU cd ?_;rfl
    ·rw[zW8 hm1]at hsv
     have hin:InO j (0:Nat) c0.gr (c0.nx.getD 0 default):=by
      rcases hv with h|h
      ·exact absurd h hm1
      ·exact h
     obtain⟨i1,i2,i3,i4⟩:=hin;obtain⟨p,hpe⟩:∃p:Nat,c0.nx.getD 0 default=p:=⟨(c0.nx.getD 0 default).toNat,zB⟩;rw[hpe]at hsv hyn hm1 i2 i4;rw[zYs]at hsv i4;have hp:p<j.ph.length:=by omega
     have cb:=SU j hn8 zB c0 hc_c0 hm_c0 p hp (J.rg p hp) (.inr i4.symm);rw[hsv];clear hsv hv i1 i2 i3 i4 hpe;generalize jN j c0 p=b at *;unfold cH at cb;refine yO (wW cd cb) ?_;rfl
   ·generalize dT j c0 0=c1 at *;unfold TU;rw[show DW true c1 c.nx=LQ c1 c.nx from rfl];unfold LQ;have cd:=YW j hn8 c1 hc_c1 1;have hyn:=zM iA c1.nx 1 zB;have hv:=C_c1.v 1 zB;have hnl:(c1.nx.map iA).length=2:=by rw[zXa];exact hm_c1
    cases hd:dkF j c1 1 with
    |false=>
     rw[hd]at cd;rw[show dT j c1 1=c1 by unfold dT;rw[zW8 (by rw[hd];simp)]];clear hd;refine zU cd ?_;rfl
    |true=>
    rw[hd]at cd
    have hsv:dT j c1 1=if c1.nx.getD 1 default= -1 then c1 else jN j c1 (c1.nx.getD 1 default).toNat:=by
     unfold dT;rw[hd]
     show(if true=true/\c1.nx.getD 1 default≠ -1 then jN j c1 (c1.nx.getD 1 default).toNat else c1)=_
     by_cases h:c1.nx.getD 1 default= -1
     ·rw[zW9 h,zW8 (λk=>k.2 h)]
     ·rw[zW8 h,zW9 ⟨rfl,h⟩]
    clear hd;by_cases hm1:c1.nx.getD 1 default= -1
    ·rw[zW9 hm1]at hsv;rw[hsv];clear hsv hv;generalize c1.nx.getD 1 default=x at *;refine zU cd ?_;rfl
    ·rw[zW8 hm1]at hsv
     have hin:InO j (1:Nat) c1.gr (c1.nx.getD 1 default):=by
      rcases hv with h|h
      ·exact absurd h hm1
      ·exact h
     obtain⟨i1,i2,i3,i4⟩:=hin;obtain⟨p,hpe⟩:∃p:Nat,c1.nx.getD 1 default=p:=⟨(c1.nx.getD 1 default).toNat,zB⟩;rw[hpe]at hsv hyn hm1 i2 i4;rw[zYs]at hsv i4;have hp:p<j.ph.length:=by omega
     have cb:=SU j hn8 zB c1 hc_c1 hm_c1 p hp (J.rg p hp) (.inr i4.symm);rw[hsv];clear hsv hv i1 i2 i3 i4 hpe;generalize jN j c1 p=b at *;unfold cH at cb;refine yO (wW cd cb) ?_;rfl
   ·generalize dT j (dT j c0 0) 1=c2 at *;unfold TU;refine WW ?_;exact kT [3000,1001,1002,2001] rfl rfl rfl rfl
  | false=>
   have hcy:cyF j c=dT j (dT j c 0) 1:=by unfold cyF;rw[zW8 (by rw[hco];decide)]
   rw[hcy];clear cg htm hcy hgp hgl hcg;have C_c:=C;have hc_c:=hcn;have hm_c:=hcm;obtain⟨C_c1,h01⟩:=LU J C h0 (r:=0) zB;have hc_c1:=C_c1.n;have hm_c1:=C_c1.m
   change CV j (dT j c 0)at C_c1
   change (dT j c 0).li.length=j.ph.length at hc_c1
   change (dT j c 0).nx.length=2 at hm_c1
   refine WW ?_;clear hco;refine ZO [3000,1001,1002,2001,2] [36,1,2] (TU j false 0 c c.nx) (TU j false 1 (dT j c 0) c.nx) (TU j false 2 (dT j (dT j c 0) 1) c.nx) rfl rfl ?_ ?_ ?_
   ·unfold TU;rw[show DW false c c.nx=cH c 1002 from rfl];unfold cH;have cd:=YW j hn8 c hc_c 0;have hyn:=zM iA c.nx 0 zB;have hv:=C_c.v 0 zB;have hnl:(c.nx.map iA).length=2:=by rw[zXa];exact hm_c
    cases hd:dkF j c 0 with
    |false=>
     rw[hd]at cd;rw[show dT j c 0=c by unfold dT;rw[zW8 (by rw[hd];simp)]];clear hd;refine zU cd ?_;rfl
    |true=>
    rw[hd]at cd
    have hsv:dT j c 0=if c.nx.getD 0 default= -1 then c else jN j c (c.nx.getD 0 default).toNat:=by
     unfold dT;rw[hd]
     show(if true=true/\c.nx.getD 0 default≠ -1 then jN j c (c.nx.getD 0 default).toNat else c)=_
     by_cases h:c.nx.getD 0 default= -1
     ·rw[zW9 h,zW8 (λk=>k.2 h)]
     ·rw[zW8 h,zW9 ⟨rfl,h⟩]
    clear hd;by_cases hm1:c.nx.getD 0 default= -1
    ·rw[zW9 hm1]at hsv;rw[hsv];clear hsv hv;generalize c.nx.getD 0 default=x at *;refine zU cd ?_;rfl
    ·rw[zW8 hm1]at hsv
     have hin:InO j (0:Nat) c.gr (c.nx.getD 0 default):=by
      rcases hv with h|h
      ·exact absurd h hm1
      ·exact h
     obtain⟨i1,i2,i3,i4⟩:=hin;obtain⟨p,hpe⟩:∃p:Nat,c.nx.getD 0 default=p:=⟨(c.nx.getD 0 default).toNat,zB⟩;rw[hpe]at hsv hyn hm1 i2 i4;rw[zYs]at hsv i4;have hp:p<j.ph.length:=by omega
     have cb:=ZL j hn8 zB c hc_c hm_c p hp (J.rg p hp) (.inr i4.symm);rw[hsv];clear hsv hv i1 i2 i3 i4 hpe;generalize jN j c p=b at *;unfold cH at cb;refine yO (wW cd cb) ?_;rfl
   ·generalize dT j c 0=c1 at *;unfold TU;rw[show DW false c1 c.nx=cH c1 1002 from rfl];unfold cH;have cd:=YW j hn8 c1 hc_c1 1;have hyn:=zM iA c1.nx 1 zB;have hv:=C_c1.v 1 zB;have hnl:(c1.nx.map iA).length=2:=by rw[zXa];exact hm_c1
    cases hd:dkF j c1 1 with
    |false=>
     rw[hd]at cd;rw[show dT j c1 1=c1 by unfold dT;rw[zW8 (by rw[hd];simp)]];clear hd;refine zU cd ?_;rfl
    |true=>
    rw[hd]at cd
    have hsv:dT j c1 1=if c1.nx.getD 1 default= -1 then c1 else jN j c1 (c1.nx.getD 1 default).toNat:=by
     unfold dT;rw[hd]
     show(if true=true/\c1.nx.getD 1 default≠ -1 then jN j c1 (c1.nx.getD 1 default).toNat else c1)=_
     by_cases h:c1.nx.getD 1 default= -1
     ·rw[zW9 h,zW8 (λk=>k.2 h)]
     ·rw[zW8 h,zW9 ⟨rfl,h⟩]
    clear hd;by_cases hm1:c1.nx.getD 1 default= -1
    ·rw[zW9 hm1]at hsv;rw[hsv];clear hsv hv;generalize c1.nx.getD 1 default=x at *;refine zU cd ?_;rfl
    ·rw[zW8 hm1]at hsv
     have hin:InO j (1:Nat) c1.gr (c1.nx.getD 1 default):=by
      rcases hv with h|h
      ·exact absurd h hm1
      ·exact h
     obtain⟨i1,i2,i3,i4⟩:=hin;obtain⟨p,hpe⟩:∃p:Nat,c1.nx.getD 1 default=p:=⟨(c1.nx.getD 1 default).toNat,zB⟩;rw[hpe]at hsv hyn hm1 i2 i4;rw[zYs]at hsv i4;have hp:p<j.ph.length:=by omega
     have cb:=ZL j hn8 zB c1 hc_c1 hm_c1 p hp (J.rg p hp) (.inr i4.symm);rw[hsv];clear hsv hv i1 i2 i3 i4 hpe;generalize jN j c1 p=b at *;unfold cH at cb;refine yO (wW cd cb) ?_;rfl
   ·generalize dT j (dT j c 0) 1=c2 at *;unfold TU;refine WW ?_;exact kT [3000,1001,1002] rfl rfl rfl rfl
theorem CQ (l:List Li) (hl:l.length<=1073741824):zN 155 [zD vG l] [] (.ref 1001 0 (l.map vG).length) [(1001,.arr 2 (l.map vG) false)]:=by
 have hll:=zA vG l;refine eM call155 λF hF=>?_
 refine yY 0 rfl (λcap hx=>?_) ?_
 ·have:l=[]:=by simpa using hx
  subst this
  (repeat' (first|refine WZN ?_|refine xQ (λhc=>?_) (λhc=>?_)|refine wD (λhc=>?_)|fail))
  refine uF 2 1001 2 rfl rfl rfl (yU ?_);exact zL [1001] rfl rfl rfl rfl
 ·repeat' (first|(refine zE ?_;first|refine vK tok rfl rfl ?_|(refine wZ ?_;refine xK (yW tok (.inl ⟨rfl,rfl⟩) rfl rfl rfl rfl) rfl ?_)|(refine yT ?_;refine uG (nw:=[1001]) (yJ tok 1001 (xs:=[]) rfl rfl rfl rfl rfl rfl rfl rfl rfl) rfl rfl rfl ?_)|(refine yV ?_;refine wO tok rfl rfl rfl rfl rfl rfl rfl (xH _ _ (λ_=>rfl)) rfl rfl rfl zB rfl ?_)|refine qC ?_)|(first|refine xS ?_|refine yZ ?_|refine vA rfl ?_|refine zX rfl ?_|refine zQ rfl ?_|refine xJ rfl (λhc=>?_) (λhc=>?_)|refine yX ?_|refine yU ?_|refine xA ?_|refine yS ?_))
  exact zL [1001] rfl rfl rfl rfl
theorem HX (l:List Int) (hl:l.length<=1073741824):zN 107 [zD iA l] [] (.ref 1002 0 (l.map iA).length) [(1002,.arr 1 (l.map iA) false)]:=by
 have hll:=zA iA l;refine eM call107 λF hF=>?_
 refine yY 0 rfl (λcap hx=>?_) ?_
 ·have:l=[]:=by simpa using hx
  subst this
  (repeat' (first|refine WZN ?_|refine xQ (λhc=>?_) (λhc=>?_)|refine wD (λhc=>?_)|fail))
  refine uF 2 1002 1 rfl rfl rfl (yU ?_);exact zL [1002] rfl rfl rfl rfl
 ·repeat' (first|(refine zE ?_;first|refine vK tok rfl rfl ?_|(refine wZ ?_;refine xK (yW tok (.inl ⟨rfl,rfl⟩) rfl rfl rfl rfl) rfl ?_)|(refine yT ?_;refine uG (nw:=[1002]) (yJ tok 1002 (xs:=[]) rfl rfl rfl rfl rfl rfl rfl rfl rfl) rfl rfl rfl ?_)|(refine yV ?_;refine wO tok rfl rfl rfl rfl rfl rfl rfl (xH _ _ (λ_=>rfl)) rfl rfl rfl zB rfl ?_)|refine qC ?_)|(first|refine xS ?_|refine yZ ?_|refine vA rfl ?_|refine zX rfl ?_|refine zQ rfl ?_|refine xJ rfl (λhc=>?_) (λhc=>?_)|refine yX ?_|refine yU ?_|refine xA ?_|refine yS ?_))
  exact zL [1002] rfl rfl rfl rfl
def DV (j:Jn) (c:Ct) (t:Int) (i:Nat):List Li:=(List.range j.ph.length).map λp=>if p<i then lpF (xC j p) (vD c p) (lvS j c t p)else vD c p
theorem zAs (j:Jn) (c:Ct) (t:Int) (i:Nat):(DV j c t i).length=j.ph.length:=by simp[DV]
theorem zE0 {j:Jn} {c:Ct} (hc:c.li.length=j.ph.length) (t:Int):DV j c t 0=c.li:=by
 unfold DV;apply zYp;intro p;rw[zXd];by_cases h:p<j.ph.length
 ·rw[zX6 h];simp[vD,List.getD,hc,h]
 ·rw[zX0 wQ,zX0 zB];rfl
theorem zLc (j:Jn) (c:Ct) (t:Int):DV j c t j.ph.length=MC j c t:=by
 unfold DV MC;apply yAp;intro p hp;rw[zXz]at hp;rw[zW9 hp]
theorem zE1 (j:Jn) (c:Ct) (t:Int) (i:Nat):DV j c t (i+1)=(DV j c t i).set i (lpF (xC j i) (vD c i) (lvS j c t i)):=by
 unfold DV;apply zYp;intro p;rw[zZi,zXd,zXd];by_cases h:p<j.ph.length
 ·rw[zX6 h];by_cases hs:i=p
  ·subst hs;simp[h]
  ·rw[zW8 hs];by_cases hp:p<i
   ·simp[hp,show p<i+1 by omega]
   ·simp[hp,show¬p<i+1 by omega]
 ·rw[zX0 wQ]
  split<;>simp;omega
theorem zUc {p:Ph} {l:Li} (h:OW p l=true) (hy:p.yel<=60) (hr:p.red<=60):0<=l.tk/\l.tk<=1073741824:=by
 unfold OW at h;split at h
 ·rw[zXi]at h;omega
 split at h
 ·rw[zXi]at h;omega
 split at h
 ·rw[zXi]at h;omega
 split at h
 ·rw[zXi]at h;omega
 ·cases h
theorem zE2 {P:Program} {K0:List Nat} {F:Fr K0} {m:Nat} {ops:Array Oper} {rest:List Oper} {Q:List FP->St->Prop} {dr:Bool} {fs:List FP} {ty T:Nat} {pos:String} {after:Array Edge} {st:St} (hk:zZ P F m ops dr (⟨some 7,.alloc T,ty,pos,after,none⟩::rest) st fs Q):zZ P F m ops dr (⟨some 7,.alloc T,ty,pos,after,none⟩::rest) st fs Q:=hk
theorem zQq (j:Jn) (J:JV j) (c:Ct) (C:CV j c) (t:Int):zN 197 [wP j,ctA c,iA t] [] (ctA (stF j c t)) []:=by
 have hn:=J.n;have hjc:=J.c;have hcn:=C.n;have hcm:=C.m;have hcw:=C.w;have hst:=J.st;have hlp:=zA wY j.ph;have hll:(c.li.map vG).length=j.ph.length:=by rw[zXa];exact hcn
 have hln:(c.nx.map iA).length=2:=by rw[zXa];exact hcm
 have k1:=TF j J;have k2:=zLg j J.b c;rw[zQ0 J C]at k2;have k3:=CQ c.li zB;have k4:=HX c.nx zB;unfold stF;by_cases hw:0<c.wt
 ·rw[zW9 hw];refine eM call197 λF hF=>?_
  refine yO (wW k1 k2) ?_
  repeat' (first|(refine zE ?_;first|(refine zE2 ?_;refine uG (nw:=[3000]) (ZY tok 3000 rfl rfl) rfl rfl rfl ?_)|refine vK tok rfl rfl ?_|(refine wB ?_;(first|(refine uI 155 ?_;first|refine xK (zI (k3) rfl rfl rfl rfl rfl) rfl ?_|refine uG (zI (k3) rfl rfl rfl rfl rfl) rfl rfl rfl ?_|refine aD (zI (k3) rfl rfl rfl rfl rfl) rfl rfl rfl ?_)|(refine uI 107 ?_;first|refine xK (zI (k4) rfl rfl rfl rfl rfl) rfl ?_|refine uG (zI (k4) rfl rfl rfl rfl rfl) rfl rfl rfl ?_|refine aD (zI (k4) rfl rfl rfl rfl rfl) rfl rfl rfl ?_)))|(refine bI ?_;refine bH tok rfl rfl rfl ?_)|refine UX VL ?_|refine qC ?_)|first|refine SQ ?_|fail)
  refine WW ?_;exact zH [] rfl rfl (aM ⟨c.li,c.gr,c.nx,c.wt-1⟩) rfl
 rw[zW8 hw];have h0:c.wt=0:=by omega
 have CL:=zPc J C h0 t;have ls0:=zE0 hcn t;have lsE:=zLc j c t;rw[hll]at k3;have hN:∀i,((DV j c t i).map vG).length=j.ph.length:=λi=>by rw[zXa];exact zAs j c t i
 refine eM call197 λF hF=>?_
 refine yO (wW k1 k2) ?_
 repeat' (first|(refine zE ?_;first|(refine zE2 ?_;refine uG (nw:=[3000]) (ZY tok 3000 rfl rfl) rfl rfl rfl ?_)|refine vK tok rfl rfl ?_|(refine wB ?_;(first|(refine uI 155 ?_;first|refine xK (zI (k3) rfl rfl rfl rfl rfl) rfl ?_|refine uG (zI (k3) rfl rfl rfl rfl rfl) rfl rfl rfl ?_|refine aD (zI (k3) rfl rfl rfl rfl rfl) rfl rfl rfl ?_)|(refine uI 107 ?_;first|refine xK (zI (k4) rfl rfl rfl rfl rfl) rfl ?_|refine uG (zI (k4) rfl rfl rfl rfl rfl) rfl rfl rfl ?_|refine aD (zI (k4) rfl rfl rfl rfl rfl) rfl rfl rfl ?_)))|(refine bI ?_;refine bH tok rfl rfl rfl ?_)|refine UX VL ?_|refine qC ?_)|first|refine SQ ?_|fail)
 (repeat' (first|refine WZB ?_|refine xQ (λhc=>?_) (λhc=>?_)|refine wD (λhc=>?_)|(refine zE ?_;first|refine SM ?_)|fail))
 refine zQ rfl (yX ?_);refine xS ?_;refine VQ [3000,1001,1002,3,4,6] [2,3,4,6,7,8] ⟨[(2,iA t),(3,.ptr 3 0 0),(4,.ptr 4 0 0),(6,.ptr 6 0 0),(7,.ptr 3000 0 0),(8,bA (OX j t))],[(3000,.box [.ref 1001 0 j.ph.length,iA c.gr,.ref 1002 0 (c.nx.map iA).length,iA c.wt]),(1001,.arr 2 (c.li.map vG) false),(1002,.arr 1 (c.nx.map iA) false),(3,.box [zD wY j.ph,zD iA j.cf,iA j.st]),(4,.box [zD vG c.li,iA c.gr,zD iA c.nx,iA c.wt]),(6,.box [.s (.slice none 0 0),iA 0,.s (.slice none 0 0),iA 0])]⟩ rfl ?_ ?_
 ·clear k1 k2 k3 k4 CL;by_cases a1:0<=t
  ·by_cases a2:t<j.ph.length
   ·rw[show OX j t=true from zXg ⟨a1,a2⟩];refine WW ?_;exact⟨rfl,rfl⟩
   ·rw[show OX j t=false from zXj (λh=>a2 h.2)];refine WW ?_;exact⟨rfl,rfl⟩
  ·rw[show OX j t=false from zXj (λh=>a1 h.1)];refine WW ?_;exact⟨rfl,rfl⟩
 clear k1 k2 k3 k4;refine WW ?_;refine zP (j.ph.length) [1001,3,4,6,3000,1002] [3,4,6,3000,1002] [2,3,4,6,7,8,51,52] [53,2,3,4,6,7,8,51,52] rfl (λi T U=>⟨(53,iA i)::T,(1001,.arr 2 ((DV j c t i).map vG) false)::U⟩) ?_;(conv=>whnf);refine⟨by(rw[ls0];rfl),?_,?_⟩
 ·intro i hi;have hy:=zM wY j.ph i hi
  change (j.ph.map wY)[i]? =some (wY (xC j i))at hy
  have hyl:=zM vG c.li i zB
  change (c.li.map vG)[i]? =some (vG (vD c i))at hyl
  have hym:∃l,((DV j c t i).map vG)[i]? =some (vG l):=⟨_,zM vG (DV j c t i) i (by rw[zAs];exact hi)⟩;obtain⟨lm,hym⟩:=hym;have hti:=J.ti i hi;have htk:=zUc (C.k i hi) zB zB;have hph:PhB (xC j i):=⟨zB,zB,zB,zB⟩;have hNi:=hN i;have ls:=λlv=>zLm (xC j i) hph (vD c i) zB lv
  have ck:=jO j.cf zB i t;have es:=zE1 j c t i;have em:(DV j c t (i+1)).map vG=((DV j c t i).map vG).set i (vG (lpF (xC j i) (vD c i) (lvS j c t i))):=by rw[es,zZh]
  rw[em];have elv:lvS j c t i=_:=rfl
  conv at elv=>rhs;unfold lvS
  have lsv:=ls (lvS j c t i);clear ls es em CL hN ls0 lsE;generalize lpF (xC j i) (vD c i) (lvS j c t i)=ln at *;generalize (DV j c t i).map vG=xs at *;generalize lvS j c t i=lv at *;generalize fX j.cf i t=cq at*
  cases ha:OX j t with
  |false=>
   rw[ha]at elv;rw[zW8 xL]at elv;generalize xC j i=ph at *;generalize vD c i=l at *;by_cases hm:ph.maxg<=l.tk+1
   ·rw[zXg hm]at elv;subst elv;refine zU lsv ?_;rfl
   ·rw[zXj hm]at elv;subst elv;refine zU lsv ?_;rfl
  | true=>
   rw[ha]at elv;rw[zW9 rfl]at elv;generalize xC j i=ph at *;generalize vD c i=l at *;by_cases hpt:(i:Int)=t
   ·rw[zXj (λh=>h hpt)]at elv;rw[zY2]at elv;subst elv;by_cases hm:ph.maxg<=l.tk+1
    ·(refine zU lsv ?_)
     rfl
    ·(refine zU lsv ?_)
     rfl
   rw[zXg hpt,zX1]at elv;by_cases hm:ph.maxg<=l.tk+1
   ·rw[zXg hm,zZ3]at elv;subst elv;refine zU lsv ?_;rfl
   ·rw[zXj hm,yAr]at elv;rw[elv]at lsv;clear elv
    cases cq with
    |true=>
     refine yO (wW ck lsv) ?_;rfl
    |false=>
     refine yO (wW ck lsv) ?_;rfl
 ·rw[lsE];have e1:((MC j c t).map vG).length=j.ph.length:=by simp[MC]
  clear lsE ls0 hN
  cases ha:OX j t with
  | true=>
   rw[zW9 rfl];unfold OX at ha;rw[zXi]at ha;obtain⟨tn,rfl⟩:∃tn:Nat,t=tn:=⟨t.toNat,zB⟩;rw[zYs];have cs:=zLa j J ⟨MC j c tn,c.gr,c.nx,c.wt⟩ CL h0 tn zB;unfold cH at cs;dsimp only at cs;rw[e1]at cs;generalize dS j tn (dS j tn ⟨MC j c tn,c.gr,c.nx,c.wt⟩ 0) 1=c2 at *;generalize (if(dS j tn ⟨MC j c tn,c.gr,c.nx,c.wt⟩ 0).gr=c.gr then(dS j tn ⟨MC j c tn,c.gr,c.nx,c.wt⟩ 0).nx else c.nx)=o at *;generalize (MC j c tn).map vG=xs at *;clear CL
   cases hE:decide (c2.gr≠c.gr)with
   |true=>
    rw[hE,show DW true c2 o=LQ c2 o from rfl]at cs;unfold LQ at cs;clear hE;refine zU cs ?_;exact zH [] rfl rfl (aM c2) rfl
   |false=>
    rw[hE,show DW false c2 o=cH c2 1002 from rfl]at cs;unfold cH at cs;clear hE;refine zU cs ?_;exact zH [] rfl rfl (aM c2) rfl
  | false=>
   rw[zW8 xL];have cs:=zLb j J ⟨MC j c t,c.gr,c.nx,c.wt⟩ CL h0;unfold cH at cs;dsimp only at cs;rw[e1]at cs;generalize cyF j ⟨MC j c t,c.gr,c.nx,c.wt⟩=c2 at *;generalize cyO ⟨MC j c t,c.gr,c.nx,c.wt⟩=e at *;generalize (MC j c t).map vG=xs at *;clear CL
   cases e with
   |true=>
    rw[show DW true c2 c.nx=LQ c2 c.nx from rfl]at cs;unfold LQ at cs;refine zU cs ?_;exact zH [] rfl rfl (aM c2) rfl
   |false=>
    rw[show DW false c2 c.nx=cH c2 1002 from rfl]at cs;unfold cH at cs;refine zU cs ?_;exact zH [] rfl rfl (aM c2) rfl
theorem zE3 (j:Jn) (hn:j.ph.length<=1000) (g gr wt:Int) (L:List AV) (nL:Nat):zN 181 [wP j,.ptr 3000 0 0,iA g] [(3000,.box [.ref 1001 0 nL,iA gr,.s (.slice none 0 0),iA wt]),(1001,.arr 2 L false)] (.tup [])
  [(3000,.box [.ref 1001 0 nL,iA g,.ref 2001 0 2,iA wt]),(1001,.arr 2 L false),(2001,.arr 1 [iA (cU j 0 g 0),iA (cU j 1 g 0)] false)]:=by
 have c0:=YV j hn 0 g 0;have c1:=YV j hn 1 g 0;generalize cU j 0 g 0=f0 at *;generalize cU j 1 g 0=f1 at *;obtain⟨N2,hN2⟩:∃n:Nat,n=2:=⟨2,rfl⟩;refine eM call181 λF hF=>?_
 (repeat' (first|refine qA ?_|refine xQ (λhc=>?_) (λhc=>?_)|refine wD (λhc=>?_)|(refine zE ?_;first|(refine gO ?_;refine cE 2001 tok rfl rfl rfl rfl rfl rfl rfl rfl rfl rfl rfl rfl rfl zB zB rfl rfl rfl ?_))|fail))
 refine zP (N2) [3000,2001,3,1001] [3,1001] [1,2,3] [20,19,1,2,3] rfl (λi T U=>⟨(20,iA i)::(19,iA N2)::T,(3000,.box [.ref 1001 0 nL,iA g,.ref 2001 0 N2,iA wt])::(2001,.arr 1 (enN f0 f1 i) false)::U⟩) ?_;(conv=>whnf);refine⟨by(rw[hN2];rfl),?_,?_⟩
 ·intro i hi;have:i=0∨i=1:=by omega
  rcases this with rfl|rfl
  ·have hy:(enN f0 f1 0)[((0:Nat):Int).toNat]? =some (iA 0):=rfl;have hl:(enN f0 f1 0).length=2:=rfl;refine zU c0 ?_;rfl
  ·have hy:(enN f0 f1 1)[((1:Nat):Int).toNat]? =some (iA 0):=rfl;have hl:(enN f0 f1 1).length=2:=rfl;refine zU c1 ?_;rfl
 ·have e2:enN f0 f1 N2=[iA f0,iA f1]:=by rw[hN2];rfl
  rw[e2];refine WW ?_;subst hN2;exact kT [3000,1001,2001] rfl rfl rfl rfl
def inF (j:Jn):Ct:=⟨List.replicate j.ph.length ⟨0,0⟩,0,[cU j 0 0 0,cU j 1 0 0],j.st⟩
theorem CR (j:Jn) (p:Nat):vD (inF j) p=⟨0,0⟩:=by
 unfold vD inF;simp only[zXh,zY4]
 split<;>rfl
theorem zE4 {j:Jn} (J:JV j):CV j (inF j):=by
 refine⟨by simp[inF],λp hp=>by rw[CR];rfl,λp q hp hq hpq h1 h2=>by rw[CR]at h1;exact absurd rfl h1,⟨zZf _,?_⟩,rfl,λr hr=>zPa j (inF j) 0 r hr,⟨J.st.1,zZf _⟩,.inr λp hp=>by rw[CR]⟩;have:=LT J
 show(0:Int)<WH j
 omega
theorem zQr {P:Program} {K0:List Nat} {F:Fr K0} {m:Nat} {ops:Array Oper} {rest:List Oper} {Q:List FP->St->Prop} {dr:Bool} {fs:List FP} {ty T:Nat} {pos:String} {after:Array Edge} {st:St} (hk:zZ P F m ops dr (⟨some 3,.alloc T,ty,pos,after,none⟩::rest) st fs Q):zZ P F m ops dr (⟨some 3,.alloc T,ty,pos,after,none⟩::rest) st fs Q:=hk
theorem zQs (j:Jn) (hn:j.ph.length<=1000):zN 145 [wP j] [] (ctA (inF j)) []:=by
 have hlp:=zA wY j.ph;have ce:=zE3 j hn 0 0 j.st ((List.replicate j.ph.length (⟨0,0⟩:Li)).map vG) ((List.replicate j.ph.length (⟨0,0⟩:Li)).map vG).length;have eL:(List.replicate j.ph.length (⟨0,0⟩:Li)).map vG=List.replicate j.ph.length (vG ⟨0,0⟩):=yA0;have eN:((List.replicate j.ph.length (⟨0,0⟩:Li)).map vG).length=j.ph.length:=by simp
 rw[eN,eL]at ce;rw[<-hlp]at ce;refine eM call145 λF hF=>?_
 repeat' (first|(refine zE ?_;first|(refine zQr ?_;refine uG (nw:=[3000]) (ZY tok 3000 rfl rfl) rfl rfl rfl ?_)|refine vK tok rfl rfl ?_|(refine gO ?_;refine cE 1001 tok rfl rfl rfl rfl rfl rfl rfl rfl rfl rfl rfl rfl rfl zB zB rfl rfl rfl ?_)|refine ZW tok rfl rfl rfl rfl ?_|(refine wB ?_;(first|(refine uI 181 ?_;first|refine xK (zI (ce) rfl rfl rfl rfl rfl) rfl ?_|refine uG (zI (ce) rfl rfl rfl rfl rfl) rfl rfl rfl ?_|refine aD (zI (ce) rfl rfl rfl rfl rfl) rfl rfl rfl ?_)))|(refine bI ?_;refine bH tok rfl rfl rfl ?_)|refine UX VL ?_|refine qC ?_)|first|refine SQ ?_|fail)
 have eF:AV.agg [.sl false ((List.replicate (j.ph.map wY).length (vG ⟨0,0⟩)).take (j.ph.map wY).length),iA 0,.sl false [iA (cU j 0 0 0),iA (cU j 1 0 0)],iA j.st]=ctA (inF j):=by
  rw[zXk zS,hlp,<-eL];rfl
 exact zH [] rfl rfl eF rfl
theorem zUd (p:Nat->Bool) {n q:Nat} (hn:n<=8) (hq:q<n):inS (eX p n) q=p q:=by
 have e:=LM (λi=>decide (i<n)&&p i) n 8 hn (λi h1 h2=>by rw[zXj zB];rfl);have e2:eX p n=eX (λi=>decide (i<n)&&p i) n:=cN _ λi hi=>by rw[zXg hi];rfl
 rw[e2,<-e,zE9 _ q zB,zXg hq];rfl
theorem zAt (ps:List Ph) (ex:Bool) (i:Nat):∀n,YD ps ex i n=eX (cnd ps ex i) n
 |0=>rfl
 |n+1=>by
  unfold YD eX;rw[zAt ps ex i n];have:(2:Int) ^ n=p2 n:=by unfold p2;rw[zYs]
  rw[this]
theorem zLd (ps:List Ph) (ex:Bool) {p q:Nat} (hn:ps.length<=8) (hp:p<ps.length) (hq:q<ps.length):fX (gB ps ex ps.length) p q=cnd ps ex p q:=by
 have hl:(gB ps ex ps.length).length=ps.length:=by simp[gB]
 unfold fX;rw[zXg zB,zX1,zYs]
 have e:(gB ps ex ps.length).getD p default=YD ps ex p ps.length:=by
  unfold gB;simp[List.getD,hp]
 rw[e,zAt];exact zUd _ hn hq
theorem zE5 (d:Dk) (l:List (Int×Int)):∀i k,k<i->∃e,(MF d l i).1.getD k default=VX e (l.getD k default)
 |0,k,h=>absurd h (zZq _)
 |i+1,k,h=>by
  have hl:=WJ d l i;unfold MF;by_cases hk:k=i
  ·subst hk;refine⟨(MF d l k).2,?_⟩;simp[List.getD,hl]
  ·obtain⟨e,he⟩:=zE5 d l i k zB;refine⟨e,?_⟩;rw[<-he];simp only[zXh];rw[zX3 zB]
def ShB (l:List (Int×Int)):Bool:=(l.all λs=>decide (0<=s.1/\s.1<=1/\0<=s.2/\s.2<=3))&&(l.all λs=>[0,1,2].all λg:Int=>decide (s.2<=g)||(l.any λs'=>s'.2==g))
theorem zE6 (n:Int):ShB (uY n)=true:=by
 unfold uY;split
 ·decide
 split
 ·decide
 split
 ·decide
 split
 ·decide
 split
 ·decide
 ·decide
theorem HY (d:Dk) (s:Int×Int):(VX d s).ring=s.1/\(VX d s).group=s.2/\1<=(VX d s).ming/\(VX d s).ming<=(VX d s).maxg/\(VX d s).maxg<=60/\1<=(VX d s).yel/\(VX d s).yel<=60/\0<=(VX d s).red/\(VX d s).red<=60/\0<=(VX d s).walk/\(VX d s).walk<=60/\0<=(VX d s).clear/\(VX d s).clear<=60/\(VX d s).walk+(VX d s).clear<=(VX d s).maxg/\((VX d s).walk=0↔(VX d s).clear=0):=by
 have b1:=yE d (3-1+1) zB;have b2:=yE (ad d) (2-1+1) zB;have b3:=yE (ad (ad d)) 3 zB;have b4:=yE (ad (ad (ad (ad d)))) (2-1+1) zB;have b5:=yE (ad (ad (ad (ad (ad d))))) (2-1+1) zB;have b6:=yE (ad (ad (ad (ad (ad (ad d)))))) 4 zB;have b7:=yE (ad (ad (ad (ad d)))) 4 zB;unfold VX;split
 ·dsimp only;omega
 ·dsimp only;omega
theorem zO9 (a b:Int):(a==b)=(b==a):=by rw[yBx,zYr,zYr];exact eq_comm
theorem zUe (a b:Int):(a != b)=(b != a):=by unfold bne;rw[zO9]
theorem zUf (a b:Nat):(a != b)=(b != a):=by unfold bne;rw[show(a==b)=(b==a) by rw[yBx,zYr,zYr];exact eq_comm]
theorem zQt (d:Dk):JV (jnF d):=by
 have hsl:=QF (nx d 6);have hsb:=zE6 (nx d 6);have hst:=yE (ad d) 3 zB;have hlen:(YY d).1.length=(uY (nx d 6)).length:=WJ _ _ _
 have hat:∀k,k<(YY d).1.length->∃e,xC (jnF d) k=VX e ((uY (nx d 6)).getD k default):=λk hk=>by
  rw[hlen]at hk;exact zE5 _ _ _ k hk
 have hph:(jnF d).ph=(YY d).1:=rfl;generalize uY (nx d 6)=sl at *;generalize hex:(nx (YY d).2 4==3)=ex at *;have hcf:(jnF d).cf=gB (YY d).1 ex (YY d).1.length:=by unfold jnF;rw[hex]
 unfold ShB at hsb;simp only[zXo,zXm,zXi,zZe,zYv,zYr]at hsb
 have hmem:∀k,k<(YY d).1.length->sl.getD k default∈sl:=λk hk=>by
  rw[hlen]at hk;simp[List.getD,hk]
 have hcd:∀p q:Nat,p<(YY d).1.length->q<(YY d).1.length->fX (jnF d).cf p q=cnd (YY d).1 ex p q:=λp q hp hq=>by
  rw[hcf];exact zLd _ _ zB hp hq
 have hc1:(jnF d).cf.length=(YY d).1.length:=by rw[hcf];simp[gB]
 refine⟨?_,?_,?_,?_,?_,?_,?_,?_,?_,?_,?_⟩
 ·rw[hph];omega
 ·rw[hph];exact hc1
 ·intro i hi;rw[hph]at hi⊢
  have e:(jnF d).cf.getD i default=YD (YY d).1 ex i (YY d).1.length:=by
   rw[hcf];unfold gB;simp[List.getD,hi]
  rw[e];exact SZ _ _ _ _
 ·intro p hp;rw[hph]at hp;rw[hcd p p hp hp];unfold cnd;simp
 ·intro p q hp hq;rw[hph]at hp hq;rw[hcd p q hp hq,hcd q p hq hp];unfold cnd;rw[zUf p q,zO9 ((YY d).1.getD p default).ring,zUe ((YY d).1.getD p default).group,show((p:Int)+q)=((q:Int)+p) by omega]
 ·intro p q hp hq hpq h;rw[hph]at hp hq;rw[hcd p q hp hq];unfold cnd;rw[show(p != q)=true by simpa using hpq,zX1]
  rcases h with h|h
  ·rw[show(((YY d).1.getD p default).ring==((YY d).1.getD q default).ring)=true from zYr.2 h];rfl
  ·rw[show(((YY d).1.getD p default).group != ((YY d).1.getD q default).group)=true from zZs.2 h];simp
 ·intro p hp;obtain⟨e,he⟩:=hat p hp;rw[he,(HY e _).1];have:=hsb.1 _ (hmem p hp);omega
 ·intro p hp;obtain⟨e,he⟩:=hat p hp;rw[he,(HY e _).2.1];have:=hsb.1 _ (hmem p hp);omega
 ·intro p hp;obtain⟨e,he⟩:=hat p hp;rw[he];exact(HY e _).2.2
 ·intro p hp g hg0 hg;obtain⟨e,he⟩:=hat p hp;rw[he,(HY e _).2.1]at hg;have h3:=hsb.1 _ (hmem p hp)
  have hgm:g∈([0,1,2]:List Int):=by
   have:g=0∨g=1∨g=2:=by omega
   rcases this with rfl|rfl|rfl<;>simp
  rcases hsb.2 _ (hmem p hp) g hgm with h|⟨s,hs,hsg⟩
  ·omega
  ·obtain⟨q,hq,hqs⟩:=zZk hs;refine⟨q,by rw[hph,hlen];exact hq,?_⟩;obtain⟨e2,he2⟩:=hat q (by rw[hlen];exact hq);rw[he2,(HY e2 _).2.1];have:sl.getD q default=s:=by rw[<-hqs];simp[List.getD,hq]
   rw[this];exact hsg
 ·show 0<=nx (ad d) 3/\nx (ad d) 3<=60
  omega
def nrB (a:Int):Bool:=decide (a=1∨a=2)
theorem aL (a:Int):zN 230 [iA a] [] (bA (nrB a)) []:=by
 unfold nrB
 (cases hb:decide (a=1∨a=2)with|false=>((refine eM call230 λF hF=>?_);((refine WW (I2 (λhc=>?_) (λhc=>?_))));all_goals (first|exact zK|(simp only[nrB,zXu]at hb;first|exact AG|exact CE)))|true=>(simp only[nrB,zXi]at hb;(refine eM call230 λF hF=>?_);((refine WW (I2 (λhc=>?_) (λhc=>?_))));all_goals (first|exact zK|exact AG|exact CE)))
def snF (li:List Li) (k:Int) (p:Nat):Int:=if(p:Int)=k then 1 else(li.getD p default).lamp
def TE (li:List Li) (k:Int):List Int:=(List.range li.length).map (snF li k)
theorem zE7 (li:List Li) (k:Int):(TE li k).length=li.length:=by simp[TE]
theorem zE8 (f:Nat->Int) (n i:Nat) (h:i<n) (x:Int) (hx:x=f i):(((List.range i).map f++List.replicate (n-i) 0).map iA).set i (iA x)=((List.range (i+1)).map f++List.replicate (n-(i+1)) 0).map iA:=by
 subst hx;rw[<-zZh,show n-i=(n-(i+1))+1 by omega,yAu,yAb _ _ zS,zXa,zYu,zZo,yBk,zZp];simp
theorem HZ (f:Nat->Int) (n i:Nat) (h:i<=n):(((List.range i).map f++List.replicate (n-i) 0).map iA).length=n:=by
 simp;omega
theorem zLe (f:Nat->Int) (n i:Nat) (h:i<n):(((List.range i).map f++List.replicate (n-i) 0).map iA)[i]? =some (iA 0):=by
 simp[show 0<n-i by omega]
theorem zQu (li:List Li) (hn:li.length<=1000) (k:Int):zN 198 [zD vG li,iA k] [] (zD iA (TE li k)) []:=by
 have hl:=zA vG li;have e0:List.replicate li.length (AV.s (.int .i64 0))=((List.range 0).map (snF li k)++List.replicate (li.length-0) 0).map iA:=by simp[iA]
 obtain⟨n,hnn⟩:∃n,li.length=n:=⟨_,rfl⟩;refine eM call198 λF hF=>?_
 refine WW ?_;refine zP (li.length) [10] [] [1,5,11,12] [13,1,5,11,12] rfl (λi T U=>⟨(13,iA i)::T,(10,.arr 1 (((List.range i).map (snF li k)++List.replicate (li.length-i) 0).map iA) false)::U⟩) ?_;(conv=>whnf);refine⟨by(rw[<-e0,<-hl];rfl),?_,?_⟩
 ·intro i hi;have hy:=zM vG li i hi;have hfl:=HZ (snF li k) li.length i zB;have hfa:=zLe (snF li k) li.length i hi;have hs:=zE8 (snF li k) li.length i hi (snF li k i) rfl
  have hsd:snF li k i=if(i:Int)=k then 1 else(li.getD i default).lamp:=rfl
  generalize ((List.range i).map (snF li k)++List.replicate (li.length-i) 0).map iA=xs at *;generalize ((List.range (i+1)).map (snF li k)++List.replicate (li.length-(i+1)) 0).map iA=ys at *;generalize snF li k i=v at *;generalize li.getD i default=t at *;rw[<-hs];clear hs e0 hnn;by_cases hk:(i:Int)=k
  ·rw[zW9 hk]at hsd;subst hsd;have hfb:(xs.set i (iA t.lamp))[i]? =some (iA t.lamp):=by rw[zYw zB]
   have hls:(xs.set i (iA t.lamp)).length=li.length:=by simp[hfl]
   rw[<-yB1 (iA t.lamp)];refine WW ?_;rfl
  ·rw[zW8 hk]at hsd;subst hsd;refine WW ?_;rfl
 ·have hfl:=HZ (snF li k) li.length li.length (zXc _)
  have e:zD iA (TE li k)= .sl false ((((List.range li.length).map (snF li k)++List.replicate (li.length-li.length) 0).map iA).take (li.map vG).length):=by
   rw[zXk zB,zZo,yBv,zX8];rfl
  rw[e];clear e e0;generalize ((List.range li.length).map (snF li k)++List.replicate (li.length-li.length) 0).map iA=xs at *;refine WW ?_;exact zK
def fpB (cf ls:List Int) (p q:Nat):Bool:=nrB (ls.getD p default)&&(nrB (ls.getD q default)&&fX cf p q)
def fbF (cf ls:List Int):Bool:=(List.range ls.length).any λp=>(List.range ls.length).any λq=>fpB cf ls p q
theorem zUg {cf ls:List Int} (h:fbF cf ls=false) (p q:Nat) (hp:p<ls.length) (hq:q<ls.length):fpB cf ls p q=false:=by
 unfold fbF at h;rw[zZ8]at h;have h1:=h p (zXz.2 hp);rw[zZ4,zZ8]at h1;have h2:=h1 q (zXz.2 hq)
 rwa [zZ4]at h2
theorem zQv {cf ls:List Int} (h:fbF cf ls=true):∃p q:Nat,p<ls.length/\q<ls.length/\fpB cf ls p q=true/\(∀u,u<p->∀v,v<ls.length->fpB cf ls u v=false)/\(∀v,v<q->fpB cf ls p v=false):=by
 unfold fbF at h;rw[zYv]at h;obtain⟨a,ha,h⟩:=h;rw[zYv]at h;obtain⟨b,hb,h⟩:=h;obtain⟨p,hpa,⟨v,hv,hp⟩,hpm⟩:=MA (P:=λp=>∃v,v<ls.length/\fpB cf ls p v=true) a ⟨b,zXz.1 hb,h⟩;obtain⟨q,hqv,hq,hqm⟩:=MA (P:=λq=>fpB cf ls p q=true) v hp;have:=zXz.1 ha
 exact⟨p,q,zB,zB,hq,λu hu v hv=>by
  have:=hpm u hu
  cases h:fpB cf ls u v with
  |false=>rfl
  |true=>exact absurd ⟨v,hv,h⟩ this,λv hv=>by
  have:=hqm v hv
  rwa [zZ4]at this⟩
theorem zQw (cf ls:List Int) (hcf:cf.length<=40) (hn:ls.length<=1000):zN 199 [zD iA cf,zD iA ls] [] (bA (fbF cf ls)) []:=by
 have hl:=zA iA ls
 cases hf:fbF cf ls with
 | false=>
  have hno:=zUg hf;clear hf;refine eM call199 λF hF=>?_
  (repeat' (first|refine WS ?_|refine SG (I2 (λhc=>?_) (λhc=>?_))|refine SG (λhc=>?_)|(refine zE ?_;first|refine SM ?_)|(first|first|refine SR ?_|refine SK (I2 (λhc=>?_) (λhc=>?_))|refine SK (λhc=>?_)|fail|refine wJ ?_|refine wK ?_)|fail))
  refine zP (ls.length) [] [] [0,1,10,11] [5,12,0,1,10,11] rfl (λi T U=>⟨(5,bA false)::(12,iA i)::T,U⟩) ?_;(conv=>whnf);refine⟨by rfl,?_,?_⟩
  ·intro u hu;have hy:=zM iA ls u hu;have c1:=aL (ls.getD u default);have hnu:=hno u;unfold fpB at hnu;clear hno
   cases hb:nrB (ls.getD u default)with
   |false=>
    rw[hb]at c1;generalize ls.getD u default=a at *;clear hnu;refine zU c1 ?_;rfl
   | true=>
    rw[hb]at c1;generalize ls.getD u default=a at *;refine zU c1 ?_;refine zP (ls.length) [] [] [0,1,6,10,11,12,20,21] [5,22,0,1,6,10,11,12,20,21] rfl (λi T U=>⟨(5,bA false)::(22,iA i)::T,U⟩) ?_;(conv=>whnf);refine⟨by rfl,?_,?_⟩
    ·intro v hv;have hyv:=zM iA ls v hv;have c2:=aL (ls.getD v default);have c3:=jO cf hcf u v;have h:=hnu v hu hv;rw[hb,zX1]at h;generalize ls.getD v default=b at *;clear hnu c1
     cases hb2:nrB b with
     |false=>
      rw[hb2]at c2;refine zU c2 ?_;rfl
     |true=>
      rw[hb2,zX1]at h;rw[hb2]at c2;rw[h]at c3;refine yO (wW c2 c3) ?_;rfl
    ·(refine WW ?_)
     rfl
  ·(repeat' (first|refine WS ?_|refine SG (I2 (λhc=>?_) (λhc=>?_))|refine SG (λhc=>?_)|(refine zE ?_;first|refine SM ?_)|(first|first|refine SR ?_|refine SK (I2 (λhc=>?_) (λhc=>?_))|refine SK (λhc=>?_)|fail|refine wJ ?_|refine wK ?_)|fail))
   exact zK
 | true=>
  obtain⟨p,q,hp,hq,hpq,hpm,hqm⟩:=zQv hf;clear hf;have hpp:nrB (ls.getD p default)=true:=by unfold fpB at hpq;rw[zXo]at hpq;exact hpq.1
  have hqq:nrB (ls.getD q default)=true:=by unfold fpB at hpq;rw[zXo,zXo]at hpq;exact hpq.2.1
  have hcc:fX cf p q=true:=by unfold fpB at hpq;rw[zXo,zXo]at hpq;exact hpq.2.2
  clear hpq;refine eM call199 λF hF=>?_
  (repeat' (first|refine WS ?_|refine SG (I2 (λhc=>?_) (λhc=>?_))|refine SG (λhc=>?_)|(refine zE ?_;first|refine SM ?_)|(first|first|refine SR ?_|refine SK (I2 (λhc=>?_) (λhc=>?_))|refine SK (λhc=>?_)|fail|refine wJ ?_|refine wK ?_)|fail))
  refine xT (ls.length) [] [] [0,1,10,11] [5,12,0,1,10,11] rfl (λi T U zs=>(i<=p)/\zs=⟨(5,bA false)::(12,iA i)::T,U⟩) ?_;(conv=>whnf);refine⟨?_,?_,?_⟩
  ·exact⟨zXp _,rfl⟩
  ·rintro u st hu ⟨hup,rfl⟩;have hy:=zM iA ls u hu;have c1:=aL (ls.getD u default);by_cases hup2:u=p
   ·subst hup2;rw[hpp]at c1
    have hqm2:∀v,v<q->(nrB (ls.getD v default)&&fX cf u v)=false:=λv hv=>by
     have h:=hqm v hv;unfold fpB at h;rw[hpp,zX1]at h;exact h
    clear hpm hqm;generalize ls.getD u default=a at *;refine zU c1 ?_;refine xT (ls.length) [] [] [0,1,6,10,11,12,20,21] [5,22,0,1,6,10,11,12,20,21] rfl (λi T U zs=>(i<=q)/\zs=⟨(5,bA false)::(22,iA i)::T,U⟩) ?_;(conv=>whnf);refine⟨?_,?_,?_⟩
    ·exact⟨zXp _,rfl⟩
    ·rintro v st hv ⟨hvq,rfl⟩;have hyv:=zM iA ls v hv;have c2:=aL (ls.getD v default);have c3:=jO cf hcf u v;by_cases hvq2:v=q
     ·subst hvq2;rw[hqq]at c2;rw[hcc]at c3;clear hqq hcc hqm2 c1;generalize ls.getD v default=b at*
      (have zc1:=c2;have zc2:=c3;(repeat' (first|refine WS ?_|refine SG (I2 (λhc=>?_) (λhc=>?_))|refine SG (λhc=>?_)|(refine zE ?_;first|refine SM ?_)|(first|first|refine SR ?_|refine SK (I2 (λhc=>?_) (λhc=>?_))|refine SK (λhc=>?_)|fail|refine wJ ?_|refine wK ?_)|fail))<;>clear zc1 zc2)
      exact zK
     ·have h:=hqm2 v zB;clear hqq hcc hqm2 c1;generalize ls.getD v default=b at*
      cases hb2:nrB b with
      |false=>
       rw[hb2]at c2;refine zU c2 ?_;exact⟨zB,rfl⟩
      |true=>
       rw[hb2,zX1]at h;rw[hb2]at c2;rw[h]at c3;refine yO (wW c2 c3) ?_;exact⟨zB,rfl⟩
    ·rintro st ⟨hvq,rfl⟩;exfalso;omega
   ·have hnu:=hpm u zB;unfold fpB at hnu;clear hpp hqq hcc hpm hqm
    cases hb:nrB (ls.getD u default)with
    |false=>
     rw[hb]at c1;generalize ls.getD u default=a at *;clear hnu;refine zU c1 ?_;exact⟨zB,rfl⟩
    | true=>
     rw[hb]at c1;generalize ls.getD u default=a at *;refine zU c1 ?_;refine zP (ls.length) [] [] [0,1,6,10,11,12,20,21] [5,22,0,1,6,10,11,12,20,21] rfl (λi T U=>⟨(5,bA false)::(22,iA i)::T,U⟩) ?_;(conv=>whnf);refine⟨by rfl,?_,?_⟩
     ·intro v hv;have hyv:=zM iA ls v hv;have c2:=aL (ls.getD v default);have c3:=jO cf hcf u v;have h:=hnu v hv;rw[hb,zX1]at h;generalize ls.getD v default=b at *;clear hnu c1
      cases hb2:nrB b with
      |false=>
       rw[hb2]at c2;refine zU c2 ?_;rfl
      |true=>
       rw[hb2,zX1]at h;rw[hb2]at c2;rw[h]at c3;refine yO (wW c2 c3) ?_;rfl
     ·(refine WW ?_)
      exact⟨zB,rfl⟩
  ·rintro st ⟨hup,rfl⟩;exfalso;omega
def BgR (j:Jn) (c c':Ct):Prop:=∀q:Nat,q<j.ph.length->vD c' q=vD c q∨((vD c q).lamp=0/\vD c' q=⟨1,0⟩)
theorem BgR.refl (j:Jn) (c:Ct):BgR j c c:=λq _=> .inl rfl
theorem BgR.trans {j:Jn} {a b c:Ct} (h:BgR j a b) (g:BgR j b c):BgR j a c:=λq hq=>by
 rcases h q hq with h|⟨h1,h2⟩<;>rcases g q hq with g|⟨g1,g2⟩
 ·exact .inl (g.trans h)
 ·exact .inr ⟨by rw[<-h];exact g1,g2⟩
 ·exact .inr ⟨h1,g.trans h2⟩
 ·rw[h2]at g1;exact absurd g1 xL
end Av
end Go.Proofs.YtmamjhmoegjapaaGreat
