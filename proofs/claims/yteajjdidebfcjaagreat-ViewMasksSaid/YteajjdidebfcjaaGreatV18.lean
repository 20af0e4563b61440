/- Part 18. -/
import Derived.Test.YteajjdidebfcjaaGreatV17
namespace Go.Proofs.YteajjdidebfcjaaGreat
namespace Av
open Tryz
set_option linter.all false
set_option maxRecDepth 4000
set_option maxHeartbeats 1000000
def zR7 {j:Jn} (J:JV j) {c:Ct} {r:Int} {t:Nat} (ht:t<j.ph.length):(bG j t c r).gr=c.gr∨(bG j t c r).gr=(xD j t).group:=by
 unfold bG;split
 ·split
  ·exact .inl Z
  ·rename_i h;obtain⟨p,hpe,hp,hpg⟩:=JP J (c:=c) (r:=r) ht h;rw[hpe,zZp]
   rcases cC j c p with h|h
   ·rw[h.2];exact .inl Z
   ·rw[h.2,hpg];exact .inr Z
 ·exact .inl Z
def zG1 (e:Bool) (c:Ct) (o:List Int):uG (BK e c o)=true:=by cases e<;>rfl
def zEd (j:Jn) (t:Nat) (e:Bool) (i:Int) (c:Ct) (o:List Int):St:=⟨[(8,iA i),(1,.ptr 3000 0 0),(2,iA t),(3,.ptr 3 0 0)],BK e c o++[(3,.box [zD vK j.ph,zD iA j.cf,iA j.st])]⟩
theorem zM0 (j:Jn) (J:JV j) (c:Ct) (C:CV j c) (h0:c.wt=0) (t:Nat) (ht:t<j.ph.length):zO 257 [vC j,.ptr 3000 0 0,iA (t:Int)] (bP c 1002) (.tup []) (BK (decide ((bG j t (bG j t c 0) 1).gr≠c.gr)) (bG j t (bG j t c 0) 1) (if(bG j t c 0).gr=c.gr then(bG j t c 0).nx else c.nx)):=by
 have hn:=J.n;have hn8:j.ph.length<=1000:=by omega
 have hjc:=J.c;have hlp:=zA vK j.ph;have hyt:=zM vK j.ph t ht
 change (j.ph.map vK)[t]? =some (vK (xD j t))at hyt
 have hc_c:=C.n;have hm_c:=C.m;obtain⟨C1,h01⟩:=zHw J C h0 ht 0;have hc_c1:=C1.n;have hm_c1:=C1.m;have hgr1:=zR7 J (c:=c) (r:=0) ht;have heq_c:c.gr=c.gr:=rfl;refine VH tok func257 Z (λargs w=>call257 args w) Z Z (zG1 _ _ _) (λF hF=>?_);refine WW ?_;refine XI [3000,1001,1002,2001,3] [8,1,2,3] (zEd j t false 0 c c.nx) (zEd j t (decide ((bG j t c 0).gr≠c.gr)) 1 (bG j t c 0) c.nx) (zEd j t (decide ((bG j t (bG j t c 0) 1).gr≠c.gr)) 2 (bG j t (bG j t c 0) 1) (if(bG j t c 0).gr=c.gr then(bG j t c 0).nx else c.nx)) Z Z ?_ ?_ ?_
 ·unfold zEd;clear C1 hgr1 hc_c1 hm_c1 h01;rw[show BK false c c.nx=bP c 1002 from Z];unfold bP;have cd:=WJ j hn8 c hc_c 0
  cases hd:dkF j c 0 with
  |false=>
   rw[hd]at cd;rw[show bG j t c 0=c by unfold bG;rw[zX2 (by rw[hd];decide)]];rw[show decide (c.gr≠c.gr)=false from zYb (λh=>h heq_c)];clear hd;refine zY cd ?_;rfl
  |true=>
  rw[hd]at cd
  have hsv:bG j t c 0=if XS j c 0 t= -1 then c else gI j c (XS j c 0 t).toNat:=by unfold bG;rw[zX3 hd]
  by_cases hrt:0=(xD j t).ring
  ·
   have hP:XS j c 0 t=t:=by unfold XS;rw[zX3 hrt]
   rw[hP]at hsv;rw[zX2 zB,zZp]at hsv;by_cases hk:VW j c t=true∨c.gr=(xD j t).group
   ·have cb:=YW j hn8 zB c hc_c hm_c t ht (J.rg t ht) hk
    have hg2:(gI j c t).gr=c.gr:=by
     rcases cC j c t with h|h
     ·exact(zY3 Ct.gr h.2).trans heq_c
     ·rcases hk with hk|hk
      ·rw[hk]at h;cases h.1
      ·exact h.2.trans (hk.symm.trans heq_c)
    rw[hsv,show decide ((gI j c t).gr≠c.gr)=false from zYb (λh=>h hg2)];generalize gI j c t=b at *;clear hd hsv hg2 hk;unfold bP at cb;refine yR (wZ cd cb) ?_;rfl
   ·have hk1:VW j c t=false:=by
     cases h:VW j c t with
     |false=>rfl
     |true=>exact absurd (.inl h) hk
    have hk2:c.gr≠(xD j t).group:=λh=>hk (.inr h)
    have cb:=QX j hn8 zB c hc_c hm_c t ht (J.rg t ht) hk1 hk2
    have hg2:(gI j c t).gr≠c.gr:=by
     rcases cC j c t with h|h
     ·rw[hk1]at h;cases h.1
     ·rw[h.2,<-heq_c];exact λh=>hk2 h.symm
    rw[hsv,show decide ((gI j c t).gr≠c.gr)=true from zYa hg2];generalize gI j c t=b at *;clear hd hsv hg2 hk hk1 hk2;unfold bP JO at cb;refine yR (wZ cd cb) ?_;rfl
  ·
   have cm:=AN j hn8 zB c hm_c 0 t zB;have hP:XS j c 0 t=cmF j (c.nx.getD (0:Int).toNat default) 0 t:=by unfold XS;rw[zX2 hrt]
   rw[<-hP]at cm;by_cases hm1:XS j c 0 t= -1
   ·rw[zX3 hm1]at hsv;rw[hsv];rw[show decide (c.gr≠c.gr)=false from zYb (λh=>h heq_c)];generalize XS j c 0 t=pp at *;clear hP hd hsv;refine yR (wZ cd cm) ?_;rfl
   obtain⟨p,hpe,hp,hpg⟩:=JP J (c:=c) (r:=0) ht hm1;rw[zX2 hm1,hpe,zZp]at hsv;rw[hpe]at cm;clear hP hm1 hpe;by_cases hk:VW j c p=true∨c.gr=(xD j p).group
   ·have cb:=YW j hn8 zB c hc_c hm_c p hp (J.rg p hp) hk
    have hg2:(gI j c p).gr=c.gr:=by
     rcases cC j c p with h|h
     ·exact(zY3 Ct.gr h.2).trans heq_c
     ·rcases hk with hk|hk
      ·rw[hk]at h;cases h.1
      ·exact h.2.trans (hk.symm.trans heq_c)
    rw[hsv,show decide ((gI j c p).gr≠c.gr)=false from zYb (λh=>h hg2)];generalize gI j c p=b at *;clear hd hsv hg2 hk;unfold bP at cb;refine yR (fQ cd cm cb) ?_;rfl
   ·have hk1:VW j c p=false:=by
     cases h:VW j c p with
     |false=>rfl
     |true=>exact absurd (.inl h) hk
    have hk2:c.gr≠(xD j p).group:=λh=>hk (.inr h)
    have cb:=QX j hn8 zB c hc_c hm_c p hp (J.rg p hp) hk1 hk2
    have hg2:(gI j c p).gr≠c.gr:=by
     rcases cC j c p with h|h
     ·rw[hk1]at h;cases h.1
     ·rw[h.2,<-heq_c];exact λh=>hk2 h.symm
    rw[hsv,show decide ((gI j c p).gr≠c.gr)=true from zYa hg2];generalize gI j c p=b at *;clear hd hsv hg2 hk hk1 hk2;unfold bP JO at cb;refine yR (fQ cd cm cb) ?_;rfl
 ·clear hc_c hm_c heq_c;have he1:=hgr1;generalize bG j t c 0=c1 at *;unfold zEd;by_cases heq_c1:c1.gr=c.gr
  ·rw [zX3 heq_c1,zYb (λh=>h heq_c1)];rw[show BK false c1 c.nx=bP c1 1002 from Z];unfold bP;have cd:=WJ j hn8 c1 hc_c1 1
   cases hd:dkF j c1 1 with
   |false=>
    rw[hd]at cd;rw[show bG j t c1 1=c1 by unfold bG;rw[zX2 (by rw[hd];decide)]];rw[show decide (c1.gr≠c.gr)=false from zYb (λh=>h heq_c1)];clear hd;refine zY cd ?_;rfl
   |true=>
   rw[hd]at cd
   have hsv:bG j t c1 1=if XS j c1 1 t= -1 then c1 else gI j c1 (XS j c1 1 t).toNat:=by unfold bG;rw[zX3 hd]
   by_cases hrt:1=(xD j t).ring
   ·
    have hP:XS j c1 1 t=t:=by unfold XS;rw[zX3 hrt]
    rw[hP]at hsv;rw[zX2 zB,zZp]at hsv;by_cases hk:VW j c1 t=true∨c1.gr=(xD j t).group
    ·have cb:=YW j hn8 zB c1 hc_c1 hm_c1 t ht (J.rg t ht) hk
     have hg2:(gI j c1 t).gr=c.gr:=by
      rcases cC j c1 t with h|h
      ·exact(zY3 Ct.gr h.2).trans heq_c1
      ·rcases hk with hk|hk
       ·rw[hk]at h;cases h.1
       ·exact h.2.trans (hk.symm.trans heq_c1)
     rw[hsv,show decide ((gI j c1 t).gr≠c.gr)=false from zYb (λh=>h hg2)];generalize gI j c1 t=b at *;clear hd hsv hg2 hk;unfold bP at cb;refine yR (wZ cd cb) ?_;rfl
    ·have hk1:VW j c1 t=false:=by
      cases h:VW j c1 t with
      |false=>rfl
      |true=>exact absurd (.inl h) hk
     have hk2:c1.gr≠(xD j t).group:=λh=>hk (.inr h)
     have cb:=QX j hn8 zB c1 hc_c1 hm_c1 t ht (J.rg t ht) hk1 hk2
     have hg2:(gI j c1 t).gr≠c.gr:=by
      rcases cC j c1 t with h|h
      ·rw[hk1]at h;cases h.1
      ·rw[h.2,<-heq_c1];exact λh=>hk2 h.symm
     rw[hsv,show decide ((gI j c1 t).gr≠c.gr)=true from zYa hg2];generalize gI j c1 t=b at *;clear hd hsv hg2 hk hk1 hk2;unfold bP JO at cb;refine yR (wZ cd cb) ?_;rfl
   ·
    have cm:=AN j hn8 zB c1 hm_c1 1 t zB;have hP:XS j c1 1 t=cmF j (c1.nx.getD (1:Int).toNat default) 1 t:=by unfold XS;rw[zX2 hrt]
    rw[<-hP]at cm;by_cases hm1:XS j c1 1 t= -1
    ·rw[zX3 hm1]at hsv;rw[hsv];rw[show decide (c1.gr≠c.gr)=false from zYb (λh=>h heq_c1)];generalize XS j c1 1 t=pp at *;clear hP hd hsv;refine yR (wZ cd cm) ?_;rfl
    obtain⟨p,hpe,hp,hpg⟩:=JP J (c:=c1) (r:=1) ht hm1;rw[zX2 hm1,hpe,zZp]at hsv;rw[hpe]at cm;clear hP hm1 hpe;by_cases hk:VW j c1 p=true∨c1.gr=(xD j p).group
    ·have cb:=YW j hn8 zB c1 hc_c1 hm_c1 p hp (J.rg p hp) hk
     have hg2:(gI j c1 p).gr=c.gr:=by
      rcases cC j c1 p with h|h
      ·exact(zY3 Ct.gr h.2).trans heq_c1
      ·rcases hk with hk|hk
       ·rw[hk]at h;cases h.1
       ·exact h.2.trans (hk.symm.trans heq_c1)
     rw[hsv,show decide ((gI j c1 p).gr≠c.gr)=false from zYb (λh=>h hg2)];generalize gI j c1 p=b at *;clear hd hsv hg2 hk;unfold bP at cb;refine yR (fQ cd cm cb) ?_;rfl
    ·have hk1:VW j c1 p=false:=by
      cases h:VW j c1 p with
      |false=>rfl
      |true=>exact absurd (.inl h) hk
     have hk2:c1.gr≠(xD j p).group:=λh=>hk (.inr h)
     have cb:=QX j hn8 zB c1 hc_c1 hm_c1 p hp (J.rg p hp) hk1 hk2
     have hg2:(gI j c1 p).gr≠c.gr:=by
      rcases cC j c1 p with h|h
      ·rw[hk1]at h;cases h.1
      ·rw[h.2,<-heq_c1];exact λh=>hk2 h.symm
     rw[hsv,show decide ((gI j c1 p).gr≠c.gr)=true from zYa hg2];generalize gI j c1 p=b at *;clear hd hsv hg2 hk hk1 hk2;unfold bP JO at cb;refine yR (fQ cd cm cb) ?_;rfl
  ·have hne_c1:c1.gr≠c.gr:=heq_c1
   have hgt_c1:c1.gr=(xD j t).group:=by
    rcases he1 with h|h
    ·exact absurd h hne_c1
    ·exact h
   rw[zX2 heq_c1,zYa hne_c1];rw[show BK true c1 c.nx=JO c1 c.nx from Z];unfold JO;have cd:=WJ j hn8 c1 hc_c1 1
   cases hd:dkF j c1 1 with
   |false=>
    rw[hd]at cd;rw[show bG j t c1 1=c1 by unfold bG;rw[zX2 (by rw[hd];decide)]];rw[show decide (c1.gr≠c.gr)=true from zYa hne_c1];clear hd;refine zY cd ?_;rfl
   |true=>
   rw[hd]at cd
   have hsv:bG j t c1 1=if XS j c1 1 t= -1 then c1 else gI j c1 (XS j c1 1 t).toNat:=by unfold bG;rw[zX3 hd]
   by_cases hrt:1=(xD j t).ring
   ·
    have hP:XS j c1 1 t=t:=by unfold XS;rw[zX3 hrt]
    rw[hP]at hsv;rw[zX2 zB,zZp]at hsv;have cb:=QW j hn8 zB c1 hc_c1 hm_c1 t ht (J.rg t ht) (.inr (hgt_c1.trans (rfl:(xD j t).group=(xD j t).group).symm))
    have hg2:(gI j c1 t).gr≠c.gr:=by
     rcases cC j c1 t with h|h
     ·rw[h.2];exact hne_c1
     ·rw[h.2,(rfl:(xD j t).group=(xD j t).group),<-hgt_c1];exact hne_c1
    rw[hsv,show decide ((gI j c1 t).gr≠c.gr)=true from zYa hg2];generalize gI j c1 t=b at *;clear hd hsv hg2;unfold bP at cb;refine yR (wZ cd cb) ?_;rfl
   ·
    have cm:=AN j hn8 zB c1 hm_c1 1 t zB;have hP:XS j c1 1 t=cmF j (c1.nx.getD (1:Int).toNat default) 1 t:=by unfold XS;rw[zX2 hrt]
    rw[<-hP]at cm;by_cases hm1:XS j c1 1 t= -1
    ·rw[zX3 hm1]at hsv;rw[hsv];rw[show decide (c1.gr≠c.gr)=true from zYa hne_c1];generalize XS j c1 1 t=pp at *;clear hP hd hsv;refine yR (wZ cd cm) ?_;rfl
    obtain⟨p,hpe,hp,hpg⟩:=JP J (c:=c1) (r:=1) ht hm1;rw[zX2 hm1,hpe,zZp]at hsv;rw[hpe]at cm;clear hP hm1 hpe;have cb:=QW j hn8 zB c1 hc_c1 hm_c1 p hp (J.rg p hp) (.inr (hgt_c1.trans (hpg:(xD j p).group=(xD j t).group).symm))
    have hg2:(gI j c1 p).gr≠c.gr:=by
     rcases cC j c1 p with h|h
     ·rw[h.2];exact hne_c1
     ·rw[h.2,(hpg:(xD j p).group=(xD j t).group),<-hgt_c1];exact hne_c1
    rw[hsv,show decide ((gI j c1 p).gr≠c.gr)=true from zYa hg2];generalize gI j c1 p=b at *;clear hd hsv hg2;unfold bP at cb;refine yR (fQ cd cm cb) ?_;rfl
 ·generalize (if(bG j t c 0).gr=c.gr then(bG j t c 0).nx else c.nx)=o at *;generalize bG j t (bG j t c 0) 1=c2 at *;unfold zEd;by_cases he:c2.gr=c.gr
  ·rw[zYb (λh=>h he)];refine WW ?_;exact jT [3000,1001,1002] Z Z Z Z
  ·rw[zYa he];refine WW ?_;exact jT [3000,1001,1002,2001] Z Z Z Z
def zG2 (c:Ct) (hn:c.li.length<=1000):zO 287 [ctT c] [] (bA (arF c)) []:=by rw[ZW];exact FR c hn
def ovN (c:Ct) (i:Nat):Bool:=arF c&&(c.nx.take i).all λp=>p== -1
def zG3 (c:Ct) (i:Nat) (hi:i<c.nx.length):ovN c (i+1)=(ovN c i&&(c.nx.getD i default== -1)):=by
 unfold ovN;rw[<-yCz hi,List.all_append];simp[List.getD,hi,Bool.and_assoc]
def QG (j:Jn) (e:Bool) (i:Int) (c:Ct) (o:List Int):St:=⟨[(36,iA i),(1,.ptr 3000 0 0),(2,.ptr 2 0 0)],BK e c o++[(2,.box [zD vK j.ph,zD iA j.cf,iA j.st])]⟩
theorem zM1 (j:Jn) (J:JV j) (c:Ct) (C:CV j c) (h0:c.wt=0):zO 258 [vC j,.ptr 3000 0 0] (bP c 1002) (.tup []) (BK (cyO c) (cyF j c) c.nx):=by
 have hn:=J.n;have hn8:j.ph.length<=1000:=by omega
 have hjc:=J.c;have hlp:=zA vK j.ph;have hll:=zA vT c.li;have hln:=zA iA c.nx;have hcn:=C.n;have hcm:=C.m;have ca:=zG2 c zB;have cg:=FQ j hn8 J.gp;have hgp:=JR J
 have hgl:UH j<=4:=by
  have:∀n,n<=j.ph.length->grN j.ph n<=4:=λn=>by
   induction n with
   |zero=>intro _;show(0:Int)<=4;omega
   |succ n ih=>
    intro h;have h1:=ih zB;have h2:=J.gp n zB;unfold xD at h2;unfold grN;omega
  exact this _ (zX7 _)
 have hcg:=C.g;have htm:(c.gr+1).tmod (UH j)=(c.gr+1) % UH j:=zZq zB;have hO:ovN c c.nx.length=cyO c:=by unfold ovN cyO;rw[zX6]
 refine VH tok func258 Z (λargs w=>call258 args w) Z Z (zG1 _ _ _) (λF hF=>?_);unfold bP;have ho0:ovN c 0=arF c:=by unfold ovN;simp
 rw[<-ho0]at ca;refine zY ca ?_;refine zS (c.nx.length) [2,3000,1001,1002] [2,3000,1001,1002] [1,2,15,16] [4,17,1,2,15,16] Z (λi T U=>⟨(4,bA (ovN c i))::(17,iA i)::T,U⟩) ?_;(conv=>whnf);refine⟨by rfl,?_,?_⟩
 ·intro i hi;have hy:=zM iA c.nx i hi;have es:=zG3 c i hi;rw[es];generalize ovN c i=o at *;generalize c.nx.getD i default=x at *;by_cases hx:x= -1
  ·rw[show(x== -1)=true by rw[zZb];exact hx,yCg];clear ca cg;refine WW ?_;rfl
  ·rw[show(x== -1)=false by rw[zY6];exact hx,yBt];clear ca cg;refine WW ?_;rfl
 ·rw [hO];clear hO ho0 ca
  cases hco:cyO c with
  | true=>
   have hcy:cyF j c=bH j (bH j (etF j c ((c.gr+1) % UH j)) 0) 1:=by unfold cyF;rw[zX3 hco]
   rw[hcy];have hgm:0<=(c.gr+1) % UH j/\(c.gr+1) % UH j<UH j:=⟨yB6 _ zB,yBu _ zB⟩;have C_c0:=zHu C hgm;have hw0:(etF j c ((c.gr+1) % UH j)).wt=0:=h0;have ce:=zCb j hn8 ((c.gr+1) % UH j) c.gr c.wt (c.li.map vT) (c.nx.map iA) (c.li.map vT).length (c.nx.map iA).length;rw[show([(3000,.box [.ref 1001 0 (c.li.map vT).length,iA ((c.gr+1) % UH j),.ref 2001 0 2,iA c.wt]),(1001,.arr 2 (c.li.map vT) false),(1002,.arr 1 (c.nx.map iA) false),(2001,.arr 1 [iA (aG j 0 ((c.gr+1) % UH j) 0),iA (aG j 1 ((c.gr+1) % UH j) 0)] false)]:List (Nat×xN))=JO (etF j c ((c.gr+1) % UH j)) c.nx from Z]at ce;rw[<-htm]at ce;rw[htm]at ce;generalize hc0:etF j c ((c.gr+1) % UH j)=c0 at *;rw[<-htm]at ce;have hne:¬UH j=0:=by omega
   generalize UH j=gm at *;have hc_c0:=C_c0.n;have hm_c0:=C_c0.m;obtain⟨C_c1,h01⟩:=JS J C_c0 hw0 (r:=0) zB;have hc_c1:=C_c1.n;have hm_c1:=C_c1.m
   change CV j (bH j c0 0)at C_c1
   change (bH j c0 0).li.length=j.ph.length at hc_c1
   change (bH j c0 0).nx.length=2 at hm_c1
   clear hcy hc0 C;unfold JO at ce;refine yR (wZ cg ce) ?_;refine XI [3000,1001,1002,2001,2] [36,1,2] (QG j true 0 c0 c.nx) (QG j true 1 (bH j c0 0) c.nx) (QG j true 2 (bH j (bH j c0 0) 1) c.nx) Z Z ?_ ?_ ?_
   ·unfold QG;rw[show BK true c0 c.nx=JO c0 c.nx from Z];unfold JO;have cd:=WJ j hn8 c0 hc_c0 0;have hyn:=zM iA c0.nx 0 zB;have hv:=C_c0.v 0 zB;have hnl:(c0.nx.map iA).length=2:=by rw[zX5];exact hm_c0
    cases hd:dkF j c0 0 with
    |false=>
     rw[hd]at cd;rw[show bH j c0 0=c0 by unfold bH;rw[zX2 (by rw[hd];simp)]];clear hd;refine zY cd ?_;rfl
    |true=>
    rw[hd]at cd
    have hsv:bH j c0 0=if c0.nx.getD 0 default= -1 then c0 else gI j c0 (c0.nx.getD 0 default).toNat:=by
     unfold bH;rw[hd]
     show(if true=true/\c0.nx.getD 0 default≠ -1 then gI j c0 (c0.nx.getD 0 default).toNat else c0)=_
     by_cases h:c0.nx.getD 0 default= -1
     ·rw[zX3 h,zX2 (λk=>k.2 h)]
     ·rw[zX2 h,zX3 ⟨rfl,h⟩]
    clear hd;by_cases hm1:c0.nx.getD 0 default= -1
    ·rw[zX3 hm1]at hsv;rw[hsv];clear hsv hv;generalize c0.nx.getD 0 default=x at *;refine zY cd ?_;rfl
    ·rw[zX2 hm1]at hsv
     have hin:InO j (0:Nat) c0.gr (c0.nx.getD 0 default):=by
      rcases hv with h|h
      ·exact absurd h hm1
      ·exact h
     obtain⟨i1,i2,i3,i4⟩:=hin;obtain⟨p,hpe⟩:∃p:Nat,c0.nx.getD 0 default=p:=⟨(c0.nx.getD 0 default).toNat,zB⟩;rw[hpe]at hsv hyn hm1 i2 i4;rw[zZp]at hsv i4;have hp:p<j.ph.length:=by omega
     have cb:=QW j hn8 zB c0 hc_c0 hm_c0 p hp (J.rg p hp) (.inr i4.symm);rw[hsv];clear hsv hv i1 i2 i3 i4 hpe;generalize gI j c0 p=b at *;unfold bP at cb;refine yR (wZ cd cb) ?_;rfl
   ·generalize bH j c0 0=c1 at *;unfold QG;rw[show BK true c1 c.nx=JO c1 c.nx from Z];unfold JO;have cd:=WJ j hn8 c1 hc_c1 1;have hyn:=zM iA c1.nx 1 zB;have hv:=C_c1.v 1 zB;have hnl:(c1.nx.map iA).length=2:=by rw[zX5];exact hm_c1
    cases hd:dkF j c1 1 with
    |false=>
     rw[hd]at cd;rw[show bH j c1 1=c1 by unfold bH;rw[zX2 (by rw[hd];simp)]];clear hd;refine zY cd ?_;rfl
    |true=>
    rw[hd]at cd
    have hsv:bH j c1 1=if c1.nx.getD 1 default= -1 then c1 else gI j c1 (c1.nx.getD 1 default).toNat:=by
     unfold bH;rw[hd]
     show(if true=true/\c1.nx.getD 1 default≠ -1 then gI j c1 (c1.nx.getD 1 default).toNat else c1)=_
     by_cases h:c1.nx.getD 1 default= -1
     ·rw[zX3 h,zX2 (λk=>k.2 h)]
     ·rw[zX2 h,zX3 ⟨rfl,h⟩]
    clear hd;by_cases hm1:c1.nx.getD 1 default= -1
    ·rw[zX3 hm1]at hsv;rw[hsv];clear hsv hv;generalize c1.nx.getD 1 default=x at *;refine zY cd ?_;rfl
    ·rw[zX2 hm1]at hsv
     have hin:InO j (1:Nat) c1.gr (c1.nx.getD 1 default):=by
      rcases hv with h|h
      ·exact absurd h hm1
      ·exact h
     obtain⟨i1,i2,i3,i4⟩:=hin;obtain⟨p,hpe⟩:∃p:Nat,c1.nx.getD 1 default=p:=⟨(c1.nx.getD 1 default).toNat,zB⟩;rw[hpe]at hsv hyn hm1 i2 i4;rw[zZp]at hsv i4;have hp:p<j.ph.length:=by omega
     have cb:=QW j hn8 zB c1 hc_c1 hm_c1 p hp (J.rg p hp) (.inr i4.symm);rw[hsv];clear hsv hv i1 i2 i3 i4 hpe;generalize gI j c1 p=b at *;unfold bP at cb;refine yR (wZ cd cb) ?_;rfl
   ·generalize bH j (bH j c0 0) 1=c2 at *;unfold QG;refine WW ?_;exact jT [3000,1001,1002,2001] Z Z Z Z
  | false=>
   have hcy:cyF j c=bH j (bH j c 0) 1:=by unfold cyF;rw[zX2 (by rw[hco];decide)]
   rw[hcy];clear cg htm hcy hgp hgl hcg;have C_c:=C;have hc_c:=hcn;have hm_c:=hcm;obtain⟨C_c1,h01⟩:=JS J C h0 (r:=0) zB;have hc_c1:=C_c1.n;have hm_c1:=C_c1.m
   change CV j (bH j c 0)at C_c1
   change (bH j c 0).li.length=j.ph.length at hc_c1
   change (bH j c 0).nx.length=2 at hm_c1
   refine WW ?_;clear hco;refine XI [3000,1001,1002,2001,2] [36,1,2] (QG j false 0 c c.nx) (QG j false 1 (bH j c 0) c.nx) (QG j false 2 (bH j (bH j c 0) 1) c.nx) Z Z ?_ ?_ ?_
   ·unfold QG;rw[show BK false c c.nx=bP c 1002 from Z];unfold bP;have cd:=WJ j hn8 c hc_c 0;have hyn:=zM iA c.nx 0 zB;have hv:=C_c.v 0 zB;have hnl:(c.nx.map iA).length=2:=by rw[zX5];exact hm_c
    cases hd:dkF j c 0 with
    |false=>
     rw[hd]at cd;rw[show bH j c 0=c by unfold bH;rw[zX2 (by rw[hd];simp)]];clear hd;refine zY cd ?_;rfl
    |true=>
    rw[hd]at cd
    have hsv:bH j c 0=if c.nx.getD 0 default= -1 then c else gI j c (c.nx.getD 0 default).toNat:=by
     unfold bH;rw[hd]
     show(if true=true/\c.nx.getD 0 default≠ -1 then gI j c (c.nx.getD 0 default).toNat else c)=_
     by_cases h:c.nx.getD 0 default= -1
     ·rw[zX3 h,zX2 (λk=>k.2 h)]
     ·rw[zX2 h,zX3 ⟨rfl,h⟩]
    clear hd;by_cases hm1:c.nx.getD 0 default= -1
    ·rw[zX3 hm1]at hsv;rw[hsv];clear hsv hv;generalize c.nx.getD 0 default=x at *;refine zY cd ?_;rfl
    ·rw[zX2 hm1]at hsv
     have hin:InO j (0:Nat) c.gr (c.nx.getD 0 default):=by
      rcases hv with h|h
      ·exact absurd h hm1
      ·exact h
     obtain⟨i1,i2,i3,i4⟩:=hin;obtain⟨p,hpe⟩:∃p:Nat,c.nx.getD 0 default=p:=⟨(c.nx.getD 0 default).toNat,zB⟩;rw[hpe]at hsv hyn hm1 i2 i4;rw[zZp]at hsv i4;have hp:p<j.ph.length:=by omega
     have cb:=YW j hn8 zB c hc_c hm_c p hp (J.rg p hp) (.inr i4.symm);rw[hsv];clear hsv hv i1 i2 i3 i4 hpe;generalize gI j c p=b at *;unfold bP at cb;refine yR (wZ cd cb) ?_;rfl
   ·generalize bH j c 0=c1 at *;unfold QG;rw[show BK false c1 c.nx=bP c1 1002 from Z];unfold bP;have cd:=WJ j hn8 c1 hc_c1 1;have hyn:=zM iA c1.nx 1 zB;have hv:=C_c1.v 1 zB;have hnl:(c1.nx.map iA).length=2:=by rw[zX5];exact hm_c1
    cases hd:dkF j c1 1 with
    |false=>
     rw[hd]at cd;rw[show bH j c1 1=c1 by unfold bH;rw[zX2 (by rw[hd];simp)]];clear hd;refine zY cd ?_;rfl
    |true=>
    rw[hd]at cd
    have hsv:bH j c1 1=if c1.nx.getD 1 default= -1 then c1 else gI j c1 (c1.nx.getD 1 default).toNat:=by
     unfold bH;rw[hd]
     show(if true=true/\c1.nx.getD 1 default≠ -1 then gI j c1 (c1.nx.getD 1 default).toNat else c1)=_
     by_cases h:c1.nx.getD 1 default= -1
     ·rw[zX3 h,zX2 (λk=>k.2 h)]
     ·rw[zX2 h,zX3 ⟨rfl,h⟩]
    clear hd;by_cases hm1:c1.nx.getD 1 default= -1
    ·rw[zX3 hm1]at hsv;rw[hsv];clear hsv hv;generalize c1.nx.getD 1 default=x at *;refine zY cd ?_;rfl
    ·rw[zX2 hm1]at hsv
     have hin:InO j (1:Nat) c1.gr (c1.nx.getD 1 default):=by
      rcases hv with h|h
      ·exact absurd h hm1
      ·exact h
     obtain⟨i1,i2,i3,i4⟩:=hin;obtain⟨p,hpe⟩:∃p:Nat,c1.nx.getD 1 default=p:=⟨(c1.nx.getD 1 default).toNat,zB⟩;rw[hpe]at hsv hyn hm1 i2 i4;rw[zZp]at hsv i4;have hp:p<j.ph.length:=by omega
     have cb:=YW j hn8 zB c1 hc_c1 hm_c1 p hp (J.rg p hp) (.inr i4.symm);rw[hsv];clear hsv hv i1 i2 i3 i4 hpe;generalize gI j c1 p=b at *;unfold bP at cb;refine yR (wZ cd cb) ?_;rfl
   ·generalize bH j (bH j c 0) 1=c2 at *;unfold QG;refine WW ?_;exact jT [3000,1001,1002] Z Z Z Z
def AK (l:List Li) (hl:l.length<=1073741824):zO 187 [zD vT l] [] (.ref 1001 0 (l.map vT).length) [(1001,.arr 2 (l.map vT) false)]:=by
 have hll:=zA vT l;refine eM call187 λF hF=>?_
 refine yX 0 Z (λcap hx=>?_) ?_
 ·have:l=[]:=by simpa using hx
  subst this
  (repeat' (first|refine WZN ?_|apply xL|apply wB|intro hc|fail))
  refine uK 2 1001 2 Z Z Z (yU ?_);exact zL [1001] Z Z Z Z
 ·repeat' (first|(refine zE ?_;first|refine wL tok Z Z ?_|(refine xM ?_;refine zP (yG tok (.inl ⟨rfl,rfl⟩) Z Z Z Z) Z ?_)|(refine xR ?_;refine qE (nw:=[1001]) (yK tok 1001 (xs:=[]) Z Z Z Z Z Z Z Z Z) Z Z Z ?_)|(refine yD ?_;refine xF tok Z Z Z Z Z Z Z (zN _ _ (λ_=>rfl)) Z Z Z zB Z ?_)|refine uI ?_)|(first|refine xS ?_|refine xC ?_|refine vQ Z ?_|refine yC Z ?_|refine zU Z ?_|refine xH Z (λhc=>?_) λhc=>?_|refine yZ ?_|refine yU ?_|refine xB ?_|refine yQ ?_))
  exact zL [1001] Z Z Z Z
def FL (l:List Int) (hl:l.length<=1073741824):zO 91 [zD iA l] [] (.ref 1002 0 (l.map iA).length) [(1002,.arr 1 (l.map iA) false)]:=by
 have hll:=zA iA l;refine eM call91 λF hF=>?_
 refine yX 0 Z (λcap hx=>?_) ?_
 ·have:l=[]:=by simpa using hx
  subst this
  (repeat' (first|refine WZN ?_|apply xL|apply wB|intro hc|fail))
  refine uK 2 1002 1 Z Z Z (yU ?_);exact zL [1002] Z Z Z Z
 ·repeat' (first|(refine zE ?_;first|refine wL tok Z Z ?_|(refine xM ?_;refine zP (yG tok (.inl ⟨rfl,rfl⟩) Z Z Z Z) Z ?_)|(refine xR ?_;refine qE (nw:=[1002]) (yK tok 1002 (xs:=[]) Z Z Z Z Z Z Z Z Z) Z Z Z ?_)|(refine yD ?_;refine xF tok Z Z Z Z Z Z Z (zN _ _ (λ_=>rfl)) Z Z Z zB Z ?_)|refine uI ?_)|(first|refine xS ?_|refine xC ?_|refine vQ Z ?_|refine yC Z ?_|refine zU Z ?_|refine xH Z (λhc=>?_) λhc=>?_|refine yZ ?_|refine yU ?_|refine xB ?_|refine yQ ?_))
  exact zL [1002] Z Z Z Z
def BJ (j:Jn) (c:Ct) (t:Int) (i:Nat):List Li:=(List.range j.ph.length).map λp=>if p<i then lpF (xD j p) (vN c p) (lvS j c t p)else vN c p
def zB8 (j:Jn) (c:Ct) (t:Int) (i:Nat):(BJ j c t i).length=j.ph.length:=by simp[BJ]
def zG4 {j:Jn} {c:Ct} (hc:c.li.length=j.ph.length) (t:Int):BJ j c t 0=c.li:=by
 unfold BJ;apply zZf;intro p;rw[zX8];by_cases h:p<j.ph.length
 ·rw[zY5 h];simp[vN,List.getD,hc,h]
 ·rw[zYx xX,zYx zB];rfl
def zM2 (j:Jn) (c:Ct) (t:Int):BJ j c t j.ph.length=LN j c t:=by
 unfold BJ LN;apply yA3;intro p hp;rw[zYs]at hp;rw[zX3 hp]
def zG5 (j:Jn) (c:Ct) (t:Int) (i:Nat):BJ j c t (i+1)=(BJ j c t i).set i (lpF (xD j i) (vN c i) (lvS j c t i)):=by
 unfold BJ;apply zZf;intro p;rw[yAb,zX8,zX8];by_cases h:p<j.ph.length
 ·rw[zY5 h];by_cases hs:i=p
  ·subst hs;simp[h]
  ·rw[zX2 hs];by_cases hp:p<i
   ·simp[hp,show p<i+1 by omega]
   ·simp[hp,show¬p<i+1 by omega]
 ·rw[zYx xX]
  split<;>simp;omega
def zVd {p:Ph} {l:Li} (h:ML p l=true) (hy:p.yel<=60) (hr:p.red<=60):0<=l.tk/\l.tk<=1073741824:=by
 unfold ML at h;split at h
 ·rw[zX9]at h;omega
 split at h
 ·rw[zX9]at h;omega
 split at h
 ·rw[zX9]at h;omega
 split at h
 ·rw[zX9]at h;omega
 ·cases h
def zG6 {P:Program} {K0:List Nat} {F:Fr K0} {m:Nat} {ops:Array Oper} {rest:List Oper} {Q:List FP->St->Prop} {dr:Bool} {fs:List FP} {ty T:Nat} {pos:String} {after:Array Edge} {st:St} (hk:yE P F m ops dr (⟨some 7,.alloc T,ty,pos,after,none⟩::rest) st fs Q):yE P F m ops dr (⟨some 7,.alloc T,ty,pos,after,none⟩::rest) st fs Q:=hk
theorem zR8 (j:Jn) (J:JV j) (c:Ct) (C:CV j c) (t:Int):zO 230 [vC j,ctA c,iA t] [] (ctA (stF j c t)) []:=by
 have hn:=J.n;have hjc:=J.c;have hcn:=C.n;have hcm:=C.m;have hcw:=C.w;have hst:=J.st;have hlp:=zA vK j.ph;have hll:(c.li.map vT).length=j.ph.length:=by rw[zX5];exact hcn
 have hln:(c.nx.map iA).length=2:=by rw[zX5];exact hcm
 have k1:=RV j J;have k2:=zM6 j J.b c;rw[zSj J C]at k2;have k3:=AK c.li zB;have k4:=FL c.nx zB;unfold stF;by_cases hw:0<c.wt
 ·rw[zX3 hw];refine eM call230 λF hF=>?_
  refine yR (wZ k1 k2) ?_
  repeat' (first|(refine zE ?_;first|(refine zG6 ?_;refine qE (nw:=[3000]) (XG tok 3000 Z Z) Z Z Z ?_)|refine wL tok Z Z ?_|(refine xJ ?_;(first|(refine vP 187 ?_;first|refine zP (zH (k3) Z Z Z Z Z) Z ?_|refine qE (zH (k3) Z Z Z Z Z) Z Z Z ?_|refine ZJ (zH (k3) Z Z Z Z Z) Z Z Z ?_)|(refine vP 91 ?_;first|refine zP (zH (k4) Z Z Z Z Z) Z ?_|refine qE (zH (k4) Z Z Z Z Z) Z Z Z ?_|refine ZJ (zH (k4) Z Z Z Z Z) Z Z Z ?_)))|(refine gC ?_;refine jF tok Z Z Z ?_)|refine eU VJ ?_|refine uI ?_)|first|refine SQ ?_|fail)
  refine WW ?_;exact zI [] Z Z (ZW ⟨c.li,c.gr,c.nx,c.wt-1⟩) Z
 rw[zX2 hw];have h0:c.wt=0:=by omega
 have CL:=zQi J C h0 t;have ls0:=zG4 hcn t;have lsE:=zM2 j c t;rw[hll]at k3;have hN:∀i,((BJ j c t i).map vT).length=j.ph.length:=λi=>by rw[zX5];exact zB8 j c t i
 refine eM call230 λF hF=>?_
 refine yR (wZ k1 k2) ?_
 repeat' (first|(refine zE ?_;first|(refine zG6 ?_;refine qE (nw:=[3000]) (XG tok 3000 Z Z) Z Z Z ?_)|refine wL tok Z Z ?_|(refine xJ ?_;(first|(refine vP 187 ?_;first|refine zP (zH (k3) Z Z Z Z Z) Z ?_|refine qE (zH (k3) Z Z Z Z Z) Z Z Z ?_|refine ZJ (zH (k3) Z Z Z Z Z) Z Z Z ?_)|(refine vP 91 ?_;first|refine zP (zH (k4) Z Z Z Z Z) Z ?_|refine qE (zH (k4) Z Z Z Z Z) Z Z Z ?_|refine ZJ (zH (k4) Z Z Z Z Z) Z Z Z ?_)))|(refine gC ?_;refine jF tok Z Z Z ?_)|refine eU VJ ?_|refine uI ?_)|first|refine SQ ?_|fail)
 (repeat' (first|refine WZB ?_|apply xL|apply wB|intro hc|(refine zE ?_;first|refine SM ?_)|fail))
 refine zU Z (yZ ?_);refine xS ?_;refine zJ3 [3000,1001,1002,3,4,6] [2,3,4,6,7,8] ⟨[(2,iA t),(3,.ptr 3 0 0),(4,.ptr 4 0 0),(6,.ptr 6 0 0),(7,.ptr 3000 0 0),(8,bA (MM j t))],[(3000,.box [.ref 1001 0 j.ph.length,iA c.gr,.ref 1002 0 (c.nx.map iA).length,iA c.wt]),(1001,.arr 2 (c.li.map vT) false),(1002,.arr 1 (c.nx.map iA) false),(3,.box [zD vK j.ph,zD iA j.cf,iA j.st]),(4,.box [zD vT c.li,iA c.gr,zD iA c.nx,iA c.wt]),(6,.box [.s (.slice none 0 0),iA 0,.s (.slice none 0 0),iA 0])]⟩ rfl ?_ ?_
 ·clear k1 k2 k3 k4 CL;by_cases a1:0<=t
  ·by_cases a2:t<j.ph.length
   ·rw[show MM j t=true from zYa ⟨a1,a2⟩];refine WW ?_;exact⟨rfl,rfl⟩
   ·rw[show MM j t=false from zYb (λh=>a2 h.2)];refine WW ?_;exact⟨rfl,rfl⟩
  ·rw[show MM j t=false from zYb (λh=>a1 h.1)];refine WW ?_;exact⟨rfl,rfl⟩
 clear k1 k2 k3 k4;refine WW ?_;refine zS (j.ph.length) [1001,3,4,6,3000,1002] [3,4,6,3000,1002] [2,3,4,6,7,8,51,52] [53,2,3,4,6,7,8,51,52] Z (λi T U=>⟨(53,iA i)::T,(1001,.arr 2 ((BJ j c t i).map vT) false)::U⟩) ?_;(conv=>whnf);refine⟨by(rw[ls0];rfl),?_,?_⟩
 ·intro i hi;have hy:=zM vK j.ph i hi
  change (j.ph.map vK)[i]? =some (vK (xD j i))at hy
  have hyl:=zM vT c.li i zB
  change (c.li.map vT)[i]? =some (vT (vN c i))at hyl
  have hym:∃l,((BJ j c t i).map vT)[i]? =some (vT l):=⟨_,zM vT (BJ j c t i) i (by rw[zB8];exact hi)⟩;obtain⟨lm,hym⟩:=hym;have hti:=J.ti i hi;have htk:=zVd (C.k i hi) zB zB;have hph:PhB (xD j i):=⟨zB,zB,zB,zB⟩;have hNi:=hN i;have ls:=λlv=>zNb (xD j i) hph (vN c i) zB lv
  have ck:=gJ j.cf zB i t;have es:=zG5 j c t i;have em:(BJ j c t (i+1)).map vT=((BJ j c t i).map vT).set i (vT (lpF (xD j i) (vN c i) (lvS j c t i))):=by rw[es,zZ8]
  rw[em];have elv:lvS j c t i=_:=rfl
  conv at elv=>rhs;unfold lvS
  have lsv:=ls (lvS j c t i);clear ls es em CL hN ls0 lsE;generalize lpF (xD j i) (vN c i) (lvS j c t i)=ln at *;generalize (BJ j c t i).map vT=xs at *;generalize lvS j c t i=lv at *;generalize dV j.cf i t=cq at*
  cases ha:MM j t with
  |false=>
   rw[ha]at elv;rw[zX2 zV]at elv;generalize xD j i=ph at *;generalize vN c i=l at *;by_cases hm:ph.maxg<=l.tk+1
   ·rw[zYa hm]at elv;subst elv;refine zY lsv ?_;rfl
   ·rw[zYb hm]at elv;subst elv;refine zY lsv ?_;rfl
  | true=>
   rw[ha]at elv;rw[zX3 Z]at elv;generalize xD j i=ph at *;generalize vN c i=l at *;by_cases hpt:(i:Int)=t
   ·rw[zYb (λh=>h hpt)]at elv;rw[zZv]at elv;subst elv;by_cases hm:ph.maxg<=l.tk+1
    ·(refine zY lsv ?_)
     rfl
    ·(refine zY lsv ?_)
     rfl
   rw[zYa hpt,zYr]at elv;by_cases hm:ph.maxg<=l.tk+1
   ·rw[zYa hm,yBh]at elv;subst elv;refine zY lsv ?_;rfl
   ·rw[zYb hm,yA7]at elv;rw[elv]at lsv;clear elv
    cases cq with
    |true=>
     refine yR (wZ ck lsv) ?_;rfl
    |false=>
     refine yR (wZ ck lsv) ?_;rfl
 ·rw[lsE];have e1:((LN j c t).map vT).length=j.ph.length:=by simp[LN]
  clear lsE ls0 hN
  cases ha:MM j t with
  | true=>
   rw[zX3 Z];unfold MM at ha;rw[zX9]at ha;obtain⟨tn,rfl⟩:∃tn:Nat,t=tn:=⟨t.toNat,zB⟩;rw[zZp];have cs:=zM0 j J ⟨LN j c tn,c.gr,c.nx,c.wt⟩ CL h0 tn zB;unfold bP at cs;dsimp only at cs;rw[e1]at cs;generalize bG j tn (bG j tn ⟨LN j c tn,c.gr,c.nx,c.wt⟩ 0) 1=c2 at *;generalize (if(bG j tn ⟨LN j c tn,c.gr,c.nx,c.wt⟩ 0).gr=c.gr then(bG j tn ⟨LN j c tn,c.gr,c.nx,c.wt⟩ 0).nx else c.nx)=o at *;generalize (LN j c tn).map vT=xs at *;clear CL
   cases hE:decide (c2.gr≠c.gr)with
   |true=>
    rw[hE,show BK true c2 o=JO c2 o from Z]at cs;unfold JO at cs;clear hE;refine zY cs ?_;exact zI [] Z Z (ZW c2) Z
   |false=>
    rw[hE,show BK false c2 o=bP c2 1002 from Z]at cs;unfold bP at cs;clear hE;refine zY cs ?_;exact zI [] Z Z (ZW c2) Z
  | false=>
   rw[zX2 zV];have cs:=zM1 j J ⟨LN j c t,c.gr,c.nx,c.wt⟩ CL h0;unfold bP at cs;dsimp only at cs;rw[e1]at cs;generalize cyF j ⟨LN j c t,c.gr,c.nx,c.wt⟩=c2 at *;generalize cyO ⟨LN j c t,c.gr,c.nx,c.wt⟩=e at *;generalize (LN j c t).map vT=xs at *;clear CL
   cases e with
   |true=>
    rw[show BK true c2 c.nx=JO c2 c.nx from Z]at cs;unfold JO at cs;refine zY cs ?_;exact zI [] Z Z (ZW c2) Z
   |false=>
    rw[show BK false c2 c.nx=bP c2 1002 from Z]at cs;unfold bP at cs;refine zY cs ?_;exact zI [] Z Z (ZW c2) Z
def zG7 (j:Jn) (hn:j.ph.length<=1000) (g gr wt:Int) (L:List AV) (nL:Nat):zO 186 [vC j,.ptr 3000 0 0,iA g] [(3000,.box [.ref 1001 0 nL,iA gr,.s (.slice none 0 0),iA wt]),(1001,.arr 2 L false)] (.tup [])
  [(3000,.box [.ref 1001 0 nL,iA g,.ref 2001 0 2,iA wt]),(1001,.arr 2 L false),(2001,.arr 1 [iA (aG j 0 g 0),iA (aG j 1 g 0)] false)]:=by
 have c0:=WI j hn 0 g 0;have c1:=WI j hn 1 g 0;generalize aG j 0 g 0=f0 at *;generalize aG j 1 g 0=f1 at *;obtain⟨N2,hN2⟩:∃n:Nat,n=2:=⟨2,rfl⟩;refine eM call186 λF hF=>?_
 (repeat' (first|refine uJ ?_|apply xL|apply wB|intro hc|(refine zE ?_;first|(refine eP ?_;refine bM 2001 tok Z Z Z Z Z Z Z Z Z Z Z Z Z zB zB Z Z Z ?_))|fail))
 refine zS (N2) [3000,2001,3,1001] [3,1001] [1,2,3] [20,19,1,2,3] Z (λi T U=>⟨(20,iA i)::(19,iA N2)::T,(3000,.box [.ref 1001 0 nL,iA g,.ref 2001 0 N2,iA wt])::(2001,.arr 1 (enN f0 f1 i) false)::U⟩) ?_;(conv=>whnf);refine⟨by(rw[hN2];rfl),?_,?_⟩
 ·intro i hi;have:i=0∨i=1:=by omega
  rcases this with rfl|rfl
  ·have hy:(enN f0 f1 0)[((0:Nat):Int).toNat]? =some (iA 0):=rfl;have hl:(enN f0 f1 0).length=2:=rfl;refine zY c0 ?_;rfl
  ·have hy:(enN f0 f1 1)[((1:Nat):Int).toNat]? =some (iA 0):=rfl;have hl:(enN f0 f1 1).length=2:=rfl;refine zY c1 ?_;rfl
 ·have e2:enN f0 f1 N2=[iA f0,iA f1]:=by rw[hN2];rfl
  rw[e2];refine WW ?_;subst hN2;exact jT [3000,1001,2001] Z Z Z Z
def inF (j:Jn):Ct:=⟨List.replicate j.ph.length ⟨0,0⟩,0,[aG j 0 0 0,aG j 1 0 0],j.st⟩
def AL (j:Jn) (p:Nat):vN (inF j) p=⟨0,0⟩:=by
 unfold vN inF;simp only[zYc,zZ0]
 split<;>rfl
def zG8 {j:Jn} (J:JV j):CV j (inF j):=by
 refine⟨by simp[inF],λp hp=>by rw[AL];rfl,λp q hp hq hpq h1 h2=>by rw[AL]at h1;exact absurd Z h1,⟨yAc _,?_⟩,rfl,λr hr=>zQg j (inF j) 0 r hr,⟨J.st.1,yAc _⟩,.inr λp hp=>by rw[AL]⟩;have:=JR J
 show(0:Int)<UH j
 omega
def zR9 {P:Program} {K0:List Nat} {F:Fr K0} {m:Nat} {ops:Array Oper} {rest:List Oper} {Q:List FP->St->Prop} {dr:Bool} {fs:List FP} {ty T:Nat} {pos:String} {after:Array Edge} {st:St} (hk:yE P F m ops dr (⟨some 3,.alloc T,ty,pos,after,none⟩::rest) st fs Q):yE P F m ops dr (⟨some 3,.alloc T,ty,pos,after,none⟩::rest) st fs Q:=hk
def zSa (j:Jn) (hn:j.ph.length<=1000):zO 145 [vC j] [] (ctA (inF j)) []:=by
 have hlp:=zA vK j.ph;have ce:=zG7 j hn 0 0 j.st ((List.replicate j.ph.length (⟨0,0⟩:Li)).map vT) ((List.replicate j.ph.length (⟨0,0⟩:Li)).map vT).length;have eL:(List.replicate j.ph.length (⟨0,0⟩:Li)).map vT=List.replicate j.ph.length (vT ⟨0,0⟩):=yCh;have eN:((List.replicate j.ph.length (⟨0,0⟩:Li)).map vT).length=j.ph.length:=by simp
 rw[eN,eL]at ce;rw[<-hlp]at ce;refine eM call145 λF hF=>?_
 repeat' (first|(refine zE ?_;first|(refine zR9 ?_;refine qE (nw:=[3000]) (XG tok 3000 Z Z) Z Z Z ?_)|refine wL tok Z Z ?_|(refine eP ?_;refine bM 1001 tok Z Z Z Z Z Z Z Z Z Z Z Z Z zB zB Z Z Z ?_)|refine jX tok Z Z Z Z ?_|(refine xJ ?_;(first|(refine vP 186 ?_;first|refine zP (zH (ce) Z Z Z Z Z) Z ?_|refine qE (zH (ce) Z Z Z Z Z) Z Z Z ?_|refine ZJ (zH (ce) Z Z Z Z Z) Z Z Z ?_)))|(refine gC ?_;refine jF tok Z Z Z ?_)|refine eU VJ ?_|refine uI ?_)|first|refine SQ ?_|fail)
 have eF:AV.agg [.sl false ((List.replicate (j.ph.map vK).length (vT ⟨0,0⟩)).take (j.ph.map vK).length),iA 0,.sl false [iA (aG j 0 0 0),iA (aG j 1 0 0)],iA j.st]=ctA (inF j):=by
  rw[zYe zW,hlp,<-eL];rfl
 exact zI [] Z Z eF Z
def zVe (p:Nat->Bool) {n q:Nat} (hn:n<=8) (hq:q<n):inS (cF p n) q=p q:=by
 have e:=JK (λi=>decide (i<n)&&p i) n 8 hn (λi h1 h2=>by rw[zYb zB];rfl);have e2:cF p n=cF (λi=>decide (i<n)&&p i) n:=bT _ λi hi=>by rw[zYa hi];rfl
 rw[e2,<-e,zHd _ q zB,zYa hq];rfl
theorem zB9 (ps:List Ph) (ex:Bool) (i:Nat):∀n,XL ps ex i n=cF (cnd ps ex i) n
 |0=>rfl
 |n+1=>by
  unfold XL cF;rw[zB9 ps ex i n];have:(2:Int) ^ n=p2 n:=by unfold p2;rw[zZp]
  rw[this]
def zM3 (ps:List Ph) (ex:Bool) {p q:Nat} (hn:ps.length<=8) (hp:p<ps.length) (hq:q<ps.length):dV (fC ps ex ps.length) p q=cnd ps ex p q:=by
 have hl:(fC ps ex ps.length).length=ps.length:=by simp[fC]
 unfold dV;rw[zYa zB,zYr,zZp]
 have e:(fC ps ex ps.length).getD p default=XL ps ex p ps.length:=by
  unfold fC;simp[List.getD,hp]
 rw[e,zB9];exact zVe _ hn hq
theorem zG9 (d:Dk) (l:List (Int×Int)):∀i k,k<i->∃e,(LP d l i).1.getD k default=SH e (l.getD k default)
 |0,k,h=>absurd h (yAp _)
 |i+1,k,h=>by
  have hl:=UJ d l i;unfold LP;by_cases hk:k=i
  ·subst hk;refine⟨(LP d l k).2,?_⟩;simp[List.getD,hl]
  ·obtain⟨e,he⟩:=zG9 d l i k zB;refine⟨e,?_⟩;rw[<-he];simp only[zYc];rw[zY0 zB]
def ShB (l:List (Int×Int)):Bool:=(l.all λs=>decide (0<=s.1/\s.1<=1/\0<=s.2/\s.2<=3))&&(l.all λs=>[0,1,2].all λg:Int=>decide (s.2<=g)||(l.any λs'=>s'.2==g))
def zHa (n:Int):ShB (qX n)=true:=by
 unfold qX;split
 ·decide
 split
 ·decide
 split
 ·decide
 split
 ·decide
 split
 ·decide
 ·decide
def FM (d:Dk) (s:Int×Int):(SH d s).ring=s.1/\(SH d s).group=s.2/\1<=(SH d s).ming/\(SH d s).ming<=(SH d s).maxg/\(SH d s).maxg<=60/\1<=(SH d s).yel/\(SH d s).yel<=60/\0<=(SH d s).red/\(SH d s).red<=60/\0<=(SH d s).walk/\(SH d s).walk<=60/\0<=(SH d s).clear/\(SH d s).clear<=60/\(SH d s).walk+(SH d s).clear<=(SH d s).maxg/\((SH d s).walk=0↔(SH d s).clear=0):=by
 have b1:=wW d (3-1+1) zB;have b2:=wW (ad d) (2-1+1) zB;have b3:=wW (ad (ad d)) 3 zB;have b4:=wW (ad (ad (ad (ad d)))) (2-1+1) zB;have b5:=wW (ad (ad (ad (ad (ad d))))) (2-1+1) zB;have b6:=wW (ad (ad (ad (ad (ad (ad d)))))) 4 zB;have b7:=wW (ad (ad (ad (ad d)))) 4 zB;unfold SH;split
 ·dsimp only;omega
 ·dsimp only;omega
def zQf (a b:Int):(a==b)=(b==a):=by rw[yCs,zZb,zZb];exact eq_comm
def zVf (a b:Int):(a != b)=(b != a):=by unfold bne;rw[zQf]
def zVg (a b:Nat):(a != b)=(b != a):=by unfold bne;rw[show(a==b)=(b==a) by rw[yCs,zZb,zZb];exact eq_comm]
def zSb (d:Dk):JV (jnF d):=by
 have hsl:=OD (nx d 6);have hsb:=zHa (nx d 6);have hst:=wW (ad d) 3 zB;have hlen:(WR d).1.length=(qX (nx d 6)).length:=UJ _ _ _
 have hat:∀k,k<(WR d).1.length->∃e,xD (jnF d) k=SH e ((qX (nx d 6)).getD k default):=λk hk=>by
  rw[hlen]at hk;exact zG9 _ _ _ k hk
 have hph:(jnF d).ph=(WR d).1:=rfl;generalize qX (nx d 6)=sl at *;generalize hex:(nx (WR d).2 4==3)=ex at *;have hcf:(jnF d).cf=fC (WR d).1 ex (WR d).1.length:=by unfold jnF;rw[hex]
 unfold ShB at hsb;simp only[zYg,zYi,zX9,yAo,zZy,zZb]at hsb
 have hmem:∀k,k<(WR d).1.length->sl.getD k default∈sl:=λk hk=>by
  rw[hlen]at hk;simp[List.getD,hk]
 have hcd:∀p q:Nat,p<(WR d).1.length->q<(WR d).1.length->dV (jnF d).cf p q=cnd (WR d).1 ex p q:=λp q hp hq=>by
  rw[hcf];exact zM3 _ _ zB hp hq
 have hc1:(jnF d).cf.length=(WR d).1.length:=by rw[hcf];simp[fC]
 refine⟨?_,?_,?_,?_,?_,?_,?_,?_,?_,?_,?_⟩
 ·rw[hph];omega
 ·rw[hph];exact hc1
 ·intro i hi;rw[hph]at hi⊢
  have e:(jnF d).cf.getD i default=XL (WR d).1 ex i (WR d).1.length:=by
   rw[hcf];unfold fC;simp[List.getD,hi]
  rw[e];exact QZ _ _ _ _
 ·intro p hp;rw[hph]at hp;rw[hcd p p hp hp];unfold cnd;simp
 ·intro p q hp hq;rw[hph]at hp hq;rw[hcd p q hp hq,hcd q p hq hp];unfold cnd;rw[zVg p q,zQf ((WR d).1.getD p default).ring,zVf ((WR d).1.getD p default).group,show((p:Int)+q)=((q:Int)+p) by omega]
 ·intro p q hp hq hpq h;rw[hph]at hp hq;rw[hcd p q hp hq];unfold cnd;rw[show(p != q)=true by simpa using hpq,zYr]
  rcases h with h|h
  ·rw[show(((WR d).1.getD p default).ring==((WR d).1.getD q default).ring)=true from zZb.2 h];rfl
  ·rw[show(((WR d).1.getD p default).group != ((WR d).1.getD q default).group)=true from zZ7.2 h];simp
 ·intro p hp;obtain⟨e,he⟩:=hat p hp;rw[he,(FM e _).1];have:=hsb.1 _ (hmem p hp);omega
 ·intro p hp;obtain⟨e,he⟩:=hat p hp;rw[he,(FM e _).2.1];have:=hsb.1 _ (hmem p hp);omega
 ·intro p hp;obtain⟨e,he⟩:=hat p hp;rw[he];exact(FM e _).2.2
 ·intro p hp g hg0 hg;obtain⟨e,he⟩:=hat p hp;rw[he,(FM e _).2.1]at hg;have h3:=hsb.1 _ (hmem p hp)
  have hgm:g∈([0,1,2]:List Int):=by
   have:g=0∨g=1∨g=2:=by omega
   rcases this with rfl|rfl|rfl<;>simp
  rcases hsb.2 _ (hmem p hp) g hgm with h|⟨s,hs,hsg⟩
  ·omega
  ·obtain⟨q,hq,hqs⟩:=yAf hs;refine⟨q,by rw[hph,hlen];exact hq,?_⟩;obtain⟨e2,he2⟩:=hat q (by rw[hlen];exact hq);rw[he2,(FM e2 _).2.1];have:sl.getD q default=s:=by rw[<-hqs];simp[List.getD,hq]
   rw[this];exact hsg
 ·show 0<=nx (ad d) 3/\nx (ad d) 3<=60
  omega
def nrB (a:Int):Bool:=decide (a=1∨a=2)
def ZV (a:Int):zO 259 [iA a] [] (bA (nrB a)) []:=by
 unfold nrB
 (cases hb:decide (a=1∨a=2)with|false=>((refine eM call259 λF hF=>?_);((refine WW (I2 (λhc=>?_) λhc=>?_)));all_goals (first|exact zJ|(simp only[nrB,zYj]at hb;first|exact zXO|exact BP)))|true=>(simp only[nrB,zX9]at hb;(refine eM call259 λF hF=>?_);((refine WW (I2 (λhc=>?_) λhc=>?_)));all_goals (first|exact zJ|exact zXO|exact BP)))
def snF (li:List Li) (k:Int) (p:Nat):Int:=if(p:Int)=k then 1 else(li.getD p default).lamp
def RU (li:List Li) (k:Int):List Int:=(List.range li.length).map (snF li k)
def zHb (li:List Li) (k:Int):(RU li k).length=li.length:=by simp[RU]
def zHc (f:Nat->Int) (n i:Nat) (h:i<n) (x:Int) (hx:x=f i):(((List.range i).map f++List.replicate (n-i) 0).map iA).set i (iA x)=((List.range (i+1)).map f++List.replicate (n-(i+1)) 0).map iA:=by
 subst hx;rw[<-zZ8,show n-i=(n-(i+1))+1 by omega,yB1,yAy _ _ zW,zX5,zZr,yAa,yB4,yAw];simp
def FN (f:Nat->Int) (n i:Nat) (h:i<=n):(((List.range i).map f++List.replicate (n-i) 0).map iA).length=n:=by
 simp;omega
def zM4 (f:Nat->Int) (n i:Nat) (h:i<n):(((List.range i).map f++List.replicate (n-i) 0).map iA)[i]? =some (iA 0):=by
 simp[show 0<n-i by omega]
def zSc (li:List Li) (hn:li.length<=1000) (k:Int):zO 231 [zD vT li,iA k] [] (zD iA (RU li k)) []:=by
 have hl:=zA vT li;have e0:List.replicate li.length (AV.s (.int .i64 0))=((List.range 0).map (snF li k)++List.replicate (li.length-0) 0).map iA:=by simp[iA]
 obtain⟨n,hnn⟩:∃n,li.length=n:=⟨_,rfl⟩;refine eM call231 λF hF=>?_
 refine WW ?_;refine zS (li.length) [10] [] [1,5,11,12] [13,1,5,11,12] Z (λi T U=>⟨(13,iA i)::T,(10,.arr 1 (((List.range i).map (snF li k)++List.replicate (li.length-i) 0).map iA) false)::U⟩) ?_;(conv=>whnf);refine⟨by(rw[<-e0,<-hl];rfl),?_,?_⟩
 ·intro i hi;have hy:=zM vT li i hi;have hfl:=FN (snF li k) li.length i zB;have hfa:=zM4 (snF li k) li.length i hi;have hs:=zHc (snF li k) li.length i hi (snF li k i) Z
  have hsd:snF li k i=if(i:Int)=k then 1 else(li.getD i default).lamp:=rfl
  generalize ((List.range i).map (snF li k)++List.replicate (li.length-i) 0).map iA=xs at *;generalize ((List.range (i+1)).map (snF li k)++List.replicate (li.length-(i+1)) 0).map iA=ys at *;generalize snF li k i=v at *;generalize li.getD i default=t at *;rw[<-hs];clear hs e0 hnn;by_cases hk:(i:Int)=k
  ·rw[zX3 hk]at hsd;subst hsd;have hfb:(xs.set i (iA t.lamp))[i]? =some (iA t.lamp):=by rw[zZu zB]
   have hls:(xs.set i (iA t.lamp)).length=li.length:=by simp[hfl]
   rw[<-yCy (iA t.lamp)];refine WW ?_;rfl
  ·rw[zX2 hk]at hsd;subst hsd;refine WW ?_;rfl
 ·have hfl:=FN (snF li k) li.length li.length (zX7 _)
  have e:zD iA (RU li k)= .sl false ((((List.range li.length).map (snF li k)++List.replicate (li.length-li.length) 0).map iA).take (li.map vT).length):=by
   rw[zYe zB,yAa,yDd,zY4];rfl
  rw[e];clear e e0;generalize ((List.range li.length).map (snF li k)++List.replicate (li.length-li.length) 0).map iA=xs at *;refine WW ?_;exact zJ
def fpB (cf ls:List Int) (p q:Nat):Bool:=nrB (ls.getD p default)&&(nrB (ls.getD q default)&&dV cf p q)
def fbF (cf ls:List Int):Bool:=(List.range ls.length).any λp=>(List.range ls.length).any λq=>fpB cf ls p q
def zVh {cf ls:List Int} (h:fbF cf ls=false) (p q:Nat) (hp:p<ls.length) (hq:q<ls.length):fpB cf ls p q=false:=by
 unfold fbF at h;rw[yA5]at h;have h1:=h p (zYs.2 hp);rw[zZ4,yA5]at h1;have h2:=h1 q (zYs.2 hq)
 rwa [zZ4]at h2
def zSd {cf ls:List Int} (h:fbF cf ls=true):∃p q:Nat,p<ls.length/\q<ls.length/\fpB cf ls p q=true/\(∀u,u<p->∀v,v<ls.length->fpB cf ls u v=false)/\(∀v,v<q->fpB cf ls p v=false):=by
 unfold fbF at h;rw[zZy]at h;obtain⟨a,ha,h⟩:=h;rw[zZy]at h;obtain⟨b,hb,h⟩:=h;obtain⟨p,hpa,⟨v,hv,hp⟩,hpm⟩:=LL (P:=λp=>∃v,v<ls.length/\fpB cf ls p v=true) a ⟨b,zYs.1 hb,h⟩;obtain⟨q,hqv,hq,hqm⟩:=LL (P:=λq=>fpB cf ls p q=true) v hp;have:=zYs.1 ha
 exact⟨p,q,zB,zB,hq,λu hu v hv=>by
  have:=hpm u hu
  cases h:fpB cf ls u v with
  |false=>rfl
  |true=>exact absurd ⟨v,hv,h⟩ this,λv hv=>by
  have:=hqm v hv
  rwa [zZ4]at this⟩
theorem zSf (cf ls:List Int) (hcf:cf.length<=40) (hn:ls.length<=1000):zO 232 [zD iA cf,zD iA ls] [] (bA (fbF cf ls)) []:=by
 have hl:=zA iA ls
 cases hf:fbF cf ls with
 | false=>
  have hno:=zVh hf;clear hf;refine eM call232 λF hF=>?_
  (repeat' (first|refine WS ?_|refine SG (I2 (λhc=>?_) λhc=>?_)|refine SG λhc=>?_|(refine zE ?_;first|refine SM ?_)|(first|first|refine SR ?_|refine SK (I2 (λhc=>?_) λhc=>?_)|refine SK λhc=>?_|fail|refine vR ?_|refine vS ?_)|fail))
  refine zS (ls.length) [] [] [0,1,10,11] [5,12,0,1,10,11] Z (λi T U=>⟨(5,bA false)::(12,iA i)::T,U⟩) ?_;(conv=>whnf);refine⟨by rfl,?_,?_⟩
  ·intro u hu;have hy:=zM iA ls u hu;have c1:=ZV (ls.getD u default);have hnu:=hno u;unfold fpB at hnu;clear hno
   cases hb:nrB (ls.getD u default)with
   |false=>
    rw[hb]at c1;generalize ls.getD u default=a at *;clear hnu;refine zY c1 ?_;rfl
   | true=>
    rw[hb]at c1;generalize ls.getD u default=a at *;refine zY c1 ?_;refine zS (ls.length) [] [] [0,1,6,10,11,12,20,21] [5,22,0,1,6,10,11,12,20,21] Z (λi T U=>⟨(5,bA false)::(22,iA i)::T,U⟩) ?_;(conv=>whnf);refine⟨by rfl,?_,?_⟩
    ·intro v hv;have hyv:=zM iA ls v hv;have c2:=ZV (ls.getD v default);have c3:=gJ cf hcf u v;have h:=hnu v hu hv;rw[hb,zYr]at h;generalize ls.getD v default=b at *;clear hnu c1
     cases hb2:nrB b with
     |false=>
      rw[hb2]at c2;refine zY c2 ?_;rfl
     |true=>
      rw[hb2,zYr]at h;rw[hb2]at c2;rw[h]at c3;refine yR (wZ c2 c3) ?_;rfl
    ·(refine WW ?_)
     rfl
  ·(repeat' (first|refine WS ?_|refine SG (I2 (λhc=>?_) λhc=>?_)|refine SG λhc=>?_|(refine zE ?_;first|refine SM ?_)|(first|first|refine SR ?_|refine SK (I2 (λhc=>?_) λhc=>?_)|refine SK λhc=>?_|fail|refine vR ?_|refine vS ?_)|fail))
   exact zJ
 | true=>
  obtain⟨p,q,hp,hq,hpq,hpm,hqm⟩:=zSd hf;clear hf;have hpp:nrB (ls.getD p default)=true:=by unfold fpB at hpq;rw[zYg]at hpq;exact hpq.1
  have hqq:nrB (ls.getD q default)=true:=by unfold fpB at hpq;rw[zYg,zYg]at hpq;exact hpq.2.1
  have hcc:dV cf p q=true:=by unfold fpB at hpq;rw[zYg,zYg]at hpq;exact hpq.2.2
  clear hpq;refine eM call232 λF hF=>?_
  (repeat' (first|refine WS ?_|refine SG (I2 (λhc=>?_) λhc=>?_)|refine SG λhc=>?_|(refine zE ?_;first|refine SM ?_)|(first|first|refine SR ?_|refine SK (I2 (λhc=>?_) λhc=>?_)|refine SK λhc=>?_|fail|refine vR ?_|refine vS ?_)|fail))
  refine xT (ls.length) [] [] [0,1,10,11] [5,12,0,1,10,11] Z (λi T U zs=>(i<=p)/\zs=⟨(5,bA false)::(12,iA i)::T,U⟩) ?_;(conv=>whnf);refine⟨?_,?_,?_⟩
  ·exact⟨zYl _,rfl⟩
  ·rintro u st hu ⟨hup,rfl⟩;have hy:=zM iA ls u hu;have c1:=ZV (ls.getD u default);by_cases hup2:u=p
   ·subst hup2;rw[hpp]at c1
    have hqm2:∀v,v<q->(nrB (ls.getD v default)&&dV cf u v)=false:=λv hv=>by
     have h:=hqm v hv;unfold fpB at h;rw[hpp,zYr]at h;exact h
    clear hpm hqm;generalize ls.getD u default=a at *;refine zY c1 ?_;refine xT (ls.length) [] [] [0,1,6,10,11,12,20,21] [5,22,0,1,6,10,11,12,20,21] Z (λi T U zs=>(i<=q)/\zs=⟨(5,bA false)::(22,iA i)::T,U⟩) ?_;(conv=>whnf);refine⟨?_,?_,?_⟩
    ·exact⟨zYl _,rfl⟩
    ·rintro v st hv ⟨hvq,rfl⟩;have hyv:=zM iA ls v hv;have c2:=ZV (ls.getD v default);have c3:=gJ cf hcf u v;by_cases hvq2:v=q
     ·subst hvq2;rw[hqq]at c2;rw[hcc]at c3;clear hqq hcc hqm2 c1;generalize ls.getD v default=b at*
      (have zc1:=c2;have zc2:=c3;(repeat' (first|refine WS ?_|refine SG (I2 (λhc=>?_) λhc=>?_)|refine SG λhc=>?_|(refine zE ?_;first|refine SM ?_)|(first|first|refine SR ?_|refine SK (I2 (λhc=>?_) λhc=>?_)|refine SK λhc=>?_|fail|refine vR ?_|refine vS ?_)|fail))<;>clear zc1 zc2)
      exact zJ
     ·have h:=hqm2 v zB;clear hqq hcc hqm2 c1;generalize ls.getD v default=b at*
      cases hb2:nrB b with
      |false=>
       rw[hb2]at c2;refine zY c2 ?_;exact⟨zB,rfl⟩
      |true=>
       rw[hb2,zYr]at h;rw[hb2]at c2;rw[h]at c3;refine yR (wZ c2 c3) ?_;exact⟨zB,rfl⟩
    ·rintro st ⟨hvq,rfl⟩;exfalso;omega
   ·have hnu:=hpm u zB;unfold fpB at hnu;clear hpp hqq hcc hpm hqm
    cases hb:nrB (ls.getD u default)with
    |false=>
     rw[hb]at c1;generalize ls.getD u default=a at *;clear hnu;refine zY c1 ?_;exact⟨zB,rfl⟩
    | true=>
     rw[hb]at c1;generalize ls.getD u default=a at *;refine zY c1 ?_;refine zS (ls.length) [] [] [0,1,6,10,11,12,20,21] [5,22,0,1,6,10,11,12,20,21] Z (λi T U=>⟨(5,bA false)::(22,iA i)::T,U⟩) ?_;(conv=>whnf);refine⟨by rfl,?_,?_⟩
     ·intro v hv;have hyv:=zM iA ls v hv;have c2:=ZV (ls.getD v default);have c3:=gJ cf hcf u v;have h:=hnu v hv;rw[hb,zYr]at h;generalize ls.getD v default=b at *;clear hnu c1
      cases hb2:nrB b with
      |false=>
       rw[hb2]at c2;refine zY c2 ?_;rfl
      |true=>
       rw[hb2,zYr]at h;rw[hb2]at c2;rw[h]at c3;refine yR (wZ c2 c3) ?_;rfl
     ·(refine WW ?_)
      exact⟨zB,rfl⟩
  ·rintro st ⟨hup,rfl⟩;exfalso;omega
def BgR (j:Jn) (c c':Ct):Prop:=∀q:Nat,q<j.ph.length->vN c' q=vN c q∨((vN c q).lamp=0/\vN c' q=⟨1,0⟩)
theorem BgR.refl (j:Jn) (c:Ct):BgR j c c:=λq _=> .inl Z
theorem BgR.trans {j:Jn} {a b c:Ct} (h:BgR j a b) (g:BgR j b c):BgR j a c:=λq hq=>by
 rcases h q hq with h|⟨h1,h2⟩<;>rcases g q hq with g|⟨g1,g2⟩
 ·exact .inl (g.trans h)
 ·exact .inr ⟨by rw[<-h];exact g1,g2⟩
 ·exact .inr ⟨h1,g.trans h2⟩
 ·rw[h2]at g1;exact absurd g1 zV
end Av
end Go.Proofs.YteajjdidebfcjaaGreat
