/- Part 34: contracts of the functions, and what they rest upon. -/
import Derived.Test.YtaikgchmpieooaaGreatP33
import Derived.Test.YtaikgchmpieooaaGreatP29
import Derived.Test.YtaikgchmpieooaaGreatP30
namespace Go.Proofs.YtaikgchmpieooaaGreat
namespace Av
set_option linter.unusedSimpArgs false
set_option linter.unusedVariables false
section
set_option maxRecDepth 4000
set_option maxHeartbeats 2000000
theorem flat_len:∀l:List Int,((l.map enF).flatten).length≤5*l.length
 | []=>by simp
 |x::l=>by
  have h1:=flat_len l
  have h2:=enF_len x
  rw[List.map_cons,List.flatten_cons,List.length_append,List.length_cons]
  omega
theorem pcF_0 (fx:Nat) (c:Int):∀(l:List Int) (i:Nat),pcF fx 0 c i l=(l.map enF).flatten
 | [],i=>rfl
 |x::l,i=>by
  rw[pcF,pcF_0 fx c l (i+1),if_neg (fun h=>h.2 rfl)]
  rfl
theorem pcF_gt (fx gr:Nat) (c:Int):∀(l:List Int) (i:Nat),fx<i→pcF fx gr c i l=(l.map enF).flatten
 | [],i,_=>rfl
 |x::l,i,h=>by
  rw[pcF,pcF_gt fx gr c l (i+1) (by omega),if_neg (fun h2=>by omega)]
  rfl
theorem pcF_app (fx gr:Nat) (c:Int) (hg:gr≠0) (f:List Int) (hf:f≠[]):∀(a:List Int) (i:Nat),i+a.length=fx→pcF fx gr c i (a++f)=(a.map enF).flatten++([c]++(f.map enF).flatten)
 | [],i,h=>by
  cases f with
  |nil=>exact absurd rfl hf
  |cons x f=>
   have hi:i=fx:=by simpa using h
   rw[List.nil_append,pcF,if_pos ⟨hi,hg⟩,pcF_gt fx gr c f (i+1) (by omega)]
   rfl
 |x::a,i,h=>by
  rw[List.cons_append,pcF,pcF_app fx gr c hg f hf a (i+1) (by rw[List.length_cons]at h;omega),if_neg (fun h2=>by rw[List.length_cons]at h;omega),List.nil_append,List.map_cons,List.flatten_cons,List.append_assoc]
theorem decode2_c (k:Int) (h0:1≤k) (h1:k≤12) (p:List Int) (hb:BY p) (hn:p.length≤100000):CallSim Tryz.prog 25 [iA k,slA yA p] [] (deT k (p.take 10) (dcF (fixF k) (grpF k) p)) []:=by
 have hl:=map_len yA p
 have c1:=of12_c k h0 h1
 have cf:=forS2_c k
 rw[decide_eq_true ⟨h0,h1⟩]at cf
 have hf:=fixF_3 k
 have hg:=grpF_3 k
 by_cases hlen:p.length<10
 ·rw[show dcF (fixF k) (grpF k) p=none from if_pos (.inr hlen)]
  show CallSim Tryz.prog 25 [iA k,slA yA p] [] (.tup [msA ⟨0,[],[],[]⟩,iA 6]) []
  unfold sh2A at c1
  (refine eN Tryz.func25 Tryz.call25 fun F hF=>?_)
  (have zc1:=c1;have zc2:=cf;refine WW ?_;clear zc1 zc2)
  exact fr0
 have hbd:BY (p.drop 10):=fun y hy=>hb y (List.mem_of_mem_drop hy)
 have hdl:(p.drop 10).length≤100000:=by rw[List.length_drop];omega
 have htl:((p.take 10).map yA).length=10:=by rw[List.length_map,List.length_take];omega
 have htl2:((p.take (10:Int).toNat).map yA).length=10:=htl
 have c2:=numbers2_c (p.drop 10) (fixF k) hbd hdl (by omega)
 cases hnb:nbF (fixF k) (p.drop 10)with
 | none=>
  have e:dcF (fixF k) (grpF k) p=none:=by
   unfold dcF
   rw[hnb]
   split<;>rfl
  rw[e]
  rw[hnb]at c2
  show CallSim Tryz.prog 25 [iA k,slA yA p] [] (.tup [msA ⟨0,[],[],[]⟩,iA 6]) []
  unfold nbT at c2
  unfold sh2A at c1
  (refine eN Tryz.func25 Tryz.call25 fun F hF=>?_)
  (have zc1:=c1;have zc2:=cf;have zc3:=c2;(repeat' (first|refine WZ ?_|refine SG (I2 (fun hc=>?_) (fun hc=>?_))|refine SG (fun hc=>?_)|(refine is_ops ?_;refine is_call ?_;refine SC ?_)|(refine is_ops ?_;first|(refine is_app ?_;refine x_appnil tok rfl rfl rfl rfl rfl rfl (map_hd _ _ (fun _=>rfl)) rfl rfl rfl (by omega) rfl rfl rfl ?_))|first|refine SR ?_|refine SK (I2 (fun hc=>?_) (fun hc=>?_))|refine SK (fun hc=>?_)|fail))<;>clear zc1 zc2 zc3)
  exact fr0
 |some q=>
 obtain⟨a,r⟩:=q
 obtain⟨ha,hbr,har,hsp⟩:=nbF_ok _ _ _ _ hbd hnb
 have hfl:=flat_len a
 have hpl:p.length=10+(((a.map enF).flatten).length+r.length):=by
  have:=congrArg List.length hsp
  rw[List.length_append,List.length_drop]at this
  omega
 have hsp0:p=p.take 10++((a.map enF).flatten++r):=by rw[←hsp,List.take_append_drop]
 have hlr:=map_len yA r
 have hla:=map_len iA a
 have hrl:r.length≤100000:=by omega
 rw[hnb]at c2
 unfold nbT at c2
 rcases Nat.eq_zero_or_pos (grpF k)with hg0|hg0
 ·have v1:=valid5_c k h0 h1 ⟨k,p.take 10,a,r⟩ 0 rfl (by rw[List.length_take];omega) hrl har (by rw[hg0];exact ha) (by omega)
  have v2:=payload_c k h0 h1 ⟨k,p.take 10,a,r⟩ 0 rfl (by rw[List.length_take];omega) hrl har (by show a.length≤1000;omega) (fun h=>absurd hg0 h) (by omega)
  rw[hg0]at v1 v2 c1⊢
  unfold sh2A at c1
  by_cases hr:r=[]
  ·subst hr
   have e:dcF (fixF k) 0 p=some a:=by
    unfold dcF
    rw[if_neg (by rw[List.length_nil]at hpl;omega),hnb]
    rfl
   have e2:plF2 (fixF k) 0 0 ⟨k,p.take 10,a,[]⟩=p:=by
    unfold plF2
    rw[pcF_0]
    conv=>rhs;rw[hsp0]
    simp
   rw[e]
   rw[show((0:Nat):Int)=0 from rfl,e2]at v2
   rw[show vmF 0 0 ([]:List Int)=true from rfl]at v1
   have heq:=eqY_refl p
   clear e2 hsp0 hnb hsp
   show CallSim Tryz.prog 25 [iA k,slA yA p] [] (.tup [msA ⟨k,p.take 10,a,[]⟩,iA 0]) []
   generalize fixF k=fx at*
   (refine eN Tryz.func25 Tryz.call25 fun F hF=>?_)
   (have zc1:=c1;have zc2:=cf;have zc3:=c2;have zc4:=v1;have zc5:=v2;(repeat' (first|refine WZ ?_|refine SG (I2 (fun hc=>?_) (fun hc=>?_))|refine SG (fun hc=>?_)|(refine is_ops ?_;refine is_call ?_;refine SC ?_)|(refine is_ops ?_;first|(refine is_app ?_;first|(refine x_restr [4,6,7] [0,1,4,5,6,7,93] rfl ?_;(conv=>whnf);(try simp only[List.drop_zero,List.take_length]);refine x_appnilF tok rfl rfl rfl rfl rfl rfl (map_hd _ _ (fun _=>rfl)) rfl rfl rfl (by omega) rfl ?_)|refine x_appnil tok rfl rfl rfl rfl rfl rfl (map_hd _ _ (fun _=>rfl)) rfl rfl rfl (by omega) rfl rfl rfl ?_))|first|refine SR ?_|refine SK (I2 (fun hc=>?_) (fun hc=>?_))|refine SK (fun hc=>?_)|fail))<;>clear zc1 zc2 zc3 zc4 zc5)
   exact fr0
  ·have hr0:r.length≠0:=fun h=>hr (List.eq_nil_of_length_eq_zero h)
   have e:dcF (fixF k) 0 p=none:=by
    unfold dcF
    rw[hnb]
    split
    ·rfl
    ·show(if(0:Nat)=0 then(if r=[]then some a else none)else _)=none
     rw[if_pos rfl,if_neg hr]
   rw[e]
   rw[show vmF 0 0 r=false from decide_eq_false (fun h=>hr0 h.1)]at v1
   clear v2 hsp0 hnb hsp
   show CallSim Tryz.prog 25 [iA k,slA yA p] [] (.tup [msA ⟨0,[],[],[]⟩,iA 6]) []
   generalize fixF k=fx at*
   (refine eN Tryz.func25 Tryz.call25 fun F hF=>?_)
   (have zc1:=c1;have zc2:=cf;have zc3:=c2;have zc4:=v1;(repeat' (first|refine WZ ?_|refine SG (I2 (fun hc=>?_) (fun hc=>?_))|refine SG (fun hc=>?_)|(refine is_ops ?_;refine is_call ?_;refine SC ?_)|(refine is_ops ?_;first|(refine is_app ?_;first|(refine x_restr [4,6,7] [0,1,4,5,6,7,93] rfl ?_;(conv=>whnf);(try simp only[List.drop_zero,List.take_length]);refine x_appnilF tok rfl rfl rfl rfl rfl rfl (map_hd _ _ (fun _=>rfl)) rfl rfl rfl (by omega) rfl ?_)|refine x_appnil tok rfl rfl rfl rfl rfl rfl (map_hd _ _ (fun _=>rfl)) rfl rfl rfl (by omega) rfl rfl rfl ?_))|first|refine SR ?_|refine SK (I2 (fun hc=>?_) (fun hc=>?_))|refine SK (fun hc=>?_)|fail))<;>clear zc1 zc2 zc3 zc4)
   exact fr0
 have hg4:grpF k≤4:=by omega
 have c3:=numbers2_c r 1 hbr hrl (by omega)
 unfold sh2A at c1
 rw[if_neg (by omega),if_neg (by omega)]at c1
 cases hnc:nbF 1 r with
 | none=>
  have e:dcF (fixF k) (grpF k) p=none:=by
   unfold dcF
   rw[hnb]
   split
   ·rfl
   ·show(if grpF k=0 then _ else match nbF 1 r with|none=>none|some (c,r2)=>_)=none
    rw[if_neg (by omega),hnc]
  rw[e]
  rw[hnc]at c3
  unfold nbT at c3
  show CallSim Tryz.prog 25 [iA k,slA yA p] [] (.tup [msA ⟨0,[],[],[]⟩,iA 6]) []
  clear hsp0 hnb hsp hnc e
  generalize fixF k=fx at*
  generalize grpF k=gr at*
  (refine eN Tryz.func25 Tryz.call25 fun F hF=>?_)
  (have zc1:=c1;have zc2:=cf;have zc3:=c2;have zc4:=c3;(repeat' (first|refine WZ ?_|refine SG (I2 (fun hc=>?_) (fun hc=>?_))|refine SG (fun hc=>?_)|(refine is_ops ?_;refine is_call ?_;refine SC ?_)|(refine is_ops ?_;first|(refine is_app ?_;first|(refine x_restr [4,6,7] [0,1,4,5,6,7,93] rfl ?_;(conv=>whnf);(try simp only[List.drop_zero,List.take_length]);refine x_appnilF tok rfl rfl rfl rfl rfl rfl (map_hd _ _ (fun _=>rfl)) rfl rfl rfl (by omega) rfl ?_)|refine x_appnil tok rfl rfl rfl rfl rfl rfl (map_hd _ _ (fun _=>rfl)) rfl rfl rfl (by omega) rfl rfl rfl ?_))|first|refine SR ?_|refine SK (I2 (fun hc=>?_) (fun hc=>?_))|refine SK (fun hc=>?_)|fail))<;>clear zc1 zc2 zc3 zc4)
  exact fr0
 |some q2=>
 obtain⟨c,r2⟩:=q2
 obtain⟨hc1,hbr2,hcr,hsp2⟩:=nbF_ok _ _ _ _ hbr hnc
 obtain⟨v,rfl⟩:∃v,c=[v]:=by
  cases c with
  |nil=>cases hc1
  |cons v c=>cases c with
   |nil=>exact⟨v,rfl⟩
   |cons w c=>simp at hc1
 have hv0:=(hcr v (by simp)).1
 have hrl2:r2.length≤100000:=by
  have:=congrArg List.length hsp2
  rw[List.length_append]at this
  omega
 rw[hnc]at c3
 unfold nbT at c3
 have eD:¬(200<p.length∨p.length<10)→dcF (fixF k) (grpF k) p=if v<1∨3<v then none else match nbF (v.toNat*grpF k) r2 with
   |none=>none
   |some (f,r3)=>if r3=[]then some (a++f)else none:=fun h=>by
  unfold dcF
  rw[if_neg h,hnb]
  show(if grpF k=0 then _ else match nbF 1 r with|none=>none|some (c,r2)=>_)=_
  rw[if_neg (by omega),hnc]
  rfl
 by_cases hv3:3<v
 ·have e:dcF (fixF k) (grpF k) p=none:=by
   by_cases h:200<p.length∨p.length<10
   ·exact if_pos h
   ·rw[eD h,if_pos (.inr hv3)]
  rw[e]
  show CallSim Tryz.prog 25 [iA k,slA yA p] [] (.tup [msA ⟨0,[],[],[]⟩,iA 6]) []
  clear hsp0 hnb hsp hnc e eD hsp2
  generalize fixF k=fx at*
  generalize grpF k=gr at*
  (refine eN Tryz.func25 Tryz.call25 fun F hF=>?_)
  (have zc1:=c1;have zc2:=cf;have zc3:=c2;have zc4:=c3;(repeat' (first|refine WZ ?_|refine SG (I2 (fun hc=>?_) (fun hc=>?_))|refine SG (fun hc=>?_)|(refine is_ops ?_;refine is_call ?_;refine SC ?_)|(refine is_ops ?_;first|(refine is_app ?_;first|(refine x_restr [4,6,7] [0,1,4,5,6,7,93] rfl ?_;(conv=>whnf);(try simp only[List.drop_zero,List.take_length]);refine x_appnilF tok rfl rfl rfl rfl rfl rfl (map_hd _ _ (fun _=>rfl)) rfl rfl rfl (by omega) rfl ?_)|refine x_appnil tok rfl rfl rfl rfl rfl rfl (map_hd _ _ (fun _=>rfl)) rfl rfl rfl (by omega) rfl rfl rfl ?_))|first|refine SR ?_|refine SK (I2 (fun hc=>?_) (fun hc=>?_))|refine SK (fun hc=>?_)|fail))<;>clear zc1 zc2 zc3 zc4)
  exact fr0
 have hvg:v.toNat*grpF k≤12:=Nat.le_trans (Nat.mul_le_mul (show v.toNat≤3 by omega) hg4) (by decide)
 have evg:((v.toNat*grpF k:Nat):Int)=v*(grpF k:Int):=by rw[Int.natCast_mul,Int.toNat_of_nonneg (by omega)]
 have c4:=numbers2_c r2 (v.toNat*grpF k) hbr2 hrl2 (by omega)
 have hm:0≤v*(grpF k:Int)∧v*(grpF k:Int)≤12:=by rw[←evg];omega
 cases hnd:nbF (v.toNat*grpF k) r2 with
 | none=>
  have e:dcF (fixF k) (grpF k) p=none:=by
   by_cases h:200<p.length∨p.length<10
   ·exact if_pos h
   ·rw[eD h,hnd]
    split<;>rfl
  rw[e]
  rw[hnd,evg]at c4
  unfold nbT at c4
  show CallSim Tryz.prog 25 [iA k,slA yA p] [] (.tup [msA ⟨0,[],[],[]⟩,iA 6]) []
  clear hsp0 hnb hsp hnc e eD hsp2 hnd evg hvg
  generalize fixF k=fx at*
  generalize grpF k=gr at*
  (refine eN Tryz.func25 Tryz.call25 fun F hF=>?_)
  (have zc1:=c1;have zc2:=cf;have zc3:=c2;have zc4:=c3;have zc5:=c4;(repeat' (first|refine WZ ?_|refine SG (I2 (fun hc=>?_) (fun hc=>?_))|refine SG (fun hc=>?_)|(refine is_ops ?_;refine is_call ?_;refine SC ?_)|(refine is_ops ?_;first|(refine is_app ?_;first|(refine x_restr [4,6,7] [0,1,4,5,6,7,93] rfl ?_;(conv=>whnf);(try simp only[List.drop_zero,List.take_length]);refine x_appnilF tok rfl rfl rfl rfl rfl rfl (map_hd _ _ (fun _=>rfl)) rfl rfl rfl (by omega) rfl ?_)|refine x_appnil tok rfl rfl rfl rfl rfl rfl (map_hd _ _ (fun _=>rfl)) rfl rfl rfl (by omega) rfl rfl rfl ?_))|first|refine SR ?_|refine SK (I2 (fun hc=>?_) (fun hc=>?_))|refine SK (fun hc=>?_)|fail))<;>clear zc1 zc2 zc3 zc4 zc5)
  exact fr0
 |some q3=>
 obtain⟨f,r3⟩:=q3
 obtain⟨hfl3,hbr3,hfr,hsp3⟩:=nbF_ok _ _ _ _ hbr2 hnd
 have hlf:=map_len iA f
 have hf12:f.length≤12:=by omega
 have hlr3:=map_len yA r3
 have hrl3:r3.length≤100000:=by
  have:=congrArg List.length hsp3
  rw[List.length_append]at this
  omega
 rw[hnd,evg]at c4
 unfold nbT at c4
 have hal:(a++f).length=fixF k+v.toNat*grpF k:=by rw[List.length_append,ha,hfl3]
 have har2:∀x∈a++f,0≤x∧x≤4294967295:=fun x hx=>by
  rcases List.mem_append.1 hx with h|h
  ·exact har x h
  ·exact hfr x h
 have v1:=valid5_c k h0 h1 ⟨k,p.take 10,a++f,r3⟩ v.toNat rfl (by rw[List.length_take];omega) hrl3 har2 hal (by omega)
 have v2:=payload_c k h0 h1 ⟨k,p.take 10,a++f,r3⟩ v.toNat rfl (by rw[List.length_take];omega) hrl3 har2 (by show(a++f).length≤1000;omega) (fun _=>hal) (by omega)
 have hms:∀t:List Int,msA ⟨k,t,a++f,r3⟩= .agg [iA k,slA yA t,.sl false (a.map iA++f.map iA),slA yA r3]:=fun t=>by
  rw[←List.map_append]
  rfl
 rw[hms]at v1 v2
 by_cases hok:r3=[]∧1≤v
 ·obtain⟨rfl,hv1⟩:=hok
  have hff:=flat_len f
  have hev:enF v=[v]:=enR_lt (by omega)
  have hr2:r=[v]++(f.map enF).flatten:=by
   rw[hsp2,hsp3,List.append_nil]
   simp[hev]
  have hfn:f≠[]:=fun h=>by
   rw[h]at hfl3
   have:0<v.toNat*grpF k:=Nat.mul_pos (by omega) hg0
   simp at hfl3
   omega
  have e2:plF2 (fixF k) (grpF k) (v.toNat:Int) ⟨k,p.take 10,a++f,[]⟩=p:=by
   unfold plF2
   rw[if_neg (fun h=>by have:=h.2;rw[hal]at this;have h3:0<v.toNat*grpF k:=Nat.mul_pos (by omega) hg0;omega)]
   show(p.take 10++pcF (fixF k) (grpF k) (v.toNat:Int) 0 (a++f))++([]++[])=p
   rw[pcF_app _ _ _ (by omega) f hfn a 0 (by omega),Int.toNat_of_nonneg hv0,List.append_nil,List.append_nil,←hr2]
   exact hsp0.symm
  have hp200:¬(200<p.length∨p.length<10):=by
   have:=congrArg List.length hr2
   rw[List.length_append,List.length_singleton]at this
   omega
  have e:dcF (fixF k) (grpF k) p=some (a++f):=by
   rw[eD hp200,if_neg (by omega),hnd]
   rfl
  rw[e]
  rw[e2]at v2
  rw[show vmF (grpF k) v.toNat ([]:List Int)=true from decide_eq_true ⟨rfl,.inr (by omega)⟩]at v1
  have heq:=eqY_refl p
  show CallSim Tryz.prog 25 [iA k,slA yA p] [] (.tup [msA ⟨k,p.take 10,a++f,[]⟩,iA 0]) []
  rw[hms]
  clear hsp0 hnb hsp hnc e eD hsp2 hnd evg hvg e2 hr2 hev hms hal hfl3 hsp3
  generalize fixF k=fx at*
  generalize grpF k=gr at*
  (refine eN Tryz.func25 Tryz.call25 fun F hF=>?_)
  (have zc1:=c1;have zc2:=cf;have zc3:=c2;have zc4:=c3;have zc5:=c4;have zc6:=v1;have zc7:=v2;(repeat' (first|refine WZ ?_|refine SG (I2 (fun hc=>?_) (fun hc=>?_))|refine SG (fun hc=>?_)|(refine is_ops ?_;refine is_call ?_;refine SC ?_)|(refine is_ops ?_;first|(refine is_app ?_;first|(refine x_restr [4,6,7] [0,1,4,5,6,7,93] rfl ?_;(conv=>whnf);(try simp only[List.drop_zero,List.take_length]);refine x_appnilF tok rfl rfl rfl rfl rfl rfl (map_hd _ _ (fun _=>rfl)) rfl rfl rfl (by omega) rfl ?_)|refine x_appnil tok rfl rfl rfl rfl rfl rfl (map_hd _ _ (fun _=>rfl)) rfl rfl rfl (by omega) rfl rfl rfl ?_))|first|refine SR ?_|refine SK (I2 (fun hc=>?_) (fun hc=>?_))|refine SK (fun hc=>?_)|fail))<;>clear zc1 zc2 zc3 zc4 zc5 zc6 zc7)
  exact fr0
 ·have e:dcF (fixF k) (grpF k) p=none:=by
   by_cases h:200<p.length∨p.length<10
   ·exact if_pos h
   ·rw[eD h]
    by_cases hv1:v<1
    ·rw[if_pos (.inl hv1)]
    ·rw[if_neg (by omega),hnd]
     exact if_neg fun h3=>hok ⟨h3,by omega⟩
  rw[e]
  rw[show vmF (grpF k) v.toNat r3=false from decide_eq_false (fun h=>by
   rcases h with⟨h3,h4⟩
   exact hok ⟨List.eq_nil_of_length_eq_zero h3,by omega⟩)]at v1
  show CallSim Tryz.prog 25 [iA k,slA yA p] [] (.tup [msA ⟨0,[],[],[]⟩,iA 6]) []
  clear hsp0 hnb hsp hnc e eD hsp2 hnd evg hvg hms hal hfl3 hsp3 v2
  generalize fixF k=fx at*
  generalize grpF k=gr at*
  (refine eN Tryz.func25 Tryz.call25 fun F hF=>?_)
  (have zc1:=c1;have zc2:=cf;have zc3:=c2;have zc4:=c3;have zc5:=c4;have zc6:=v1;(repeat' (first|refine WZ ?_|refine SG (I2 (fun hc=>?_) (fun hc=>?_))|refine SG (fun hc=>?_)|(refine is_ops ?_;refine is_call ?_;refine SC ?_)|(refine is_ops ?_;first|(refine is_app ?_;first|(refine x_restr [4,6,7] [0,1,4,5,6,7,93] rfl ?_;(conv=>whnf);(try simp only[List.drop_zero,List.take_length]);refine x_appnilF tok rfl rfl rfl rfl rfl rfl (map_hd _ _ (fun _=>rfl)) rfl rfl rfl (by omega) rfl ?_)|refine x_appnil tok rfl rfl rfl rfl rfl rfl (map_hd _ _ (fun _=>rfl)) rfl rfl rfl (by omega) rfl rfl rfl ?_))|first|refine SR ?_|refine SK (I2 (fun hc=>?_) (fun hc=>?_))|refine SK (fun hc=>?_)|fail))<;>clear zc1 zc2 zc3 zc4 zc5 zc6)
  exact fr0
end
section
set_option maxRecDepth 4000
set_option maxHeartbeats 2000000
theorem qvalid_no (l:List Rq) (q:Int) (hv:RqV l) (hq:¬(l.length:Int)≤q):CallSim Tryz.prog 163 [slA rqA l,iA q] [] (bA false) []:=by
 have hl:=map_len rqA l
 have h4:=hv.n4
 (refine eN Tryz.func163 Tryz.call163 fun F hF=>?_)
 (refine WW ?_)
 exact fr0
theorem qvalid2_no (l:List Rq) (q:Int) (hv:RqV l) (hq:¬(l.length:Int)≤q):CallSim Tryz.prog 135 [slA rqA l,iA q] [] (bA false) []:=by
 have hl:=map_len rqA l
 have h4:=hv.n4
 (refine eN Tryz.func135 Tryz.call135 fun F hF=>?_)
 (refine WW ?_)
 (refine sim_cnt (l.length) [] [] [0,1,7,8] [9,0,1,7,8] rfl (fun i T U=>⟨(9,iA i)::T,U⟩) ?_;(conv=>whnf);refine⟨by rfl,?_,?_⟩)
 ·intro i hi
  have hy:=map_at rqA l i hi
  have hm:l.getD i default∈l:=by simp[List.getD,hi]
  obtain⟨i0,i1,v0,v1,c0,c1,t0,t1,lg⟩:=hv.ok _ hm
  have k1:=within19_c (l.getD i default).id 0 4294967295
  have k2:=within19_c (l.getD i default).vh 0 4294967295
  have k3:=within19_c (l.getD i default).cls 0 3
  have k5:=within19_c (l.getD i default).til 0 2147483648
  have k4:=legs2_c (l.getD i default).legs (by have:=vgF_len lg;omega)
  rw[decide_eq_true (by omega)]at k1 k2 k3 k5
  rw[lg]at k4
  by_cases hi0:0<i
  ·have hyp:=map_atI rqA l ((i:Int)-1) (by omega) (by omega)
   rw[show((i:Int)-1).toNat=i-1 by omega]at hyp
   have hyq:(l.map rqA)[((i:Int)-1).toNat]? =some (rqA (l.getD (i-1) default)):=by rw[show((i:Int)-1).toNat=i-1 by omega];exact hyp
   have hlt:=hv.lt hi0 hi
   clear hyp hm lg
   generalize l.getD i default=t at*
   generalize l.getD (i-1) default=p at*
   (have zc1:=k1;have zc2:=k2;have zc3:=k3;have zc4:=k5;have zc5:=k4;refine WW ?_;clear zc1 zc2 zc3 zc4 zc5)
   rfl
  ·obtain rfl:i=0:=by omega
   clear hm lg
   generalize l.getD 0 default=t at*
   (have zc1:=k1;have zc2:=k2;have zc3:=k3;have zc4:=k5;have zc5:=k4;refine WW ?_;clear zc1 zc2 zc3 zc4 zc5)
   rfl
 ·(refine WW ?_)
  exact fr0
theorem submit_no (l:List Rq) (q id:Int) (v:Vh) (life:Int) (x:List Lg) (now:Int) (hv:RqV l) (hq:¬(l.length:Int)≤q):
  CallSim Tryz.prog 162 [slA rqA l,iA q,iA id,vhA v,iA life,slA lgA x,iA now] [] (.tup [slA rqA [],iA 1]) []:=by
 have c1:=qvalid_no l q hv hq
 (refine eN Tryz.func162 Tryz.call162 fun F hF=>?_)
 (have zc1:=c1;refine WW ?_;clear zc1)
 exact fr0
theorem submit2_no (l:List Rq) (q id:Int) (v:Vh) (life:Int) (x:List Lg) (now:Int) (hv:RqV l) (hq:¬(l.length:Int)≤q):
  CallSim Tryz.prog 133 [slA rqA l,iA q,iA id,vhA v,iA life,slA lgA x,iA now] [] (.tup [slA rqA [],iA 1]) []:=by
 have c1:=qvalid2_no l q hv hq
 (refine eN Tryz.func133 Tryz.call133 fun F hF=>?_)
 (have zc1:=c1;refine WW ?_;clear zc1)
 exact fr0
theorem insQ_mem {l:List Rq} {r x:Rq}:x∈insQ l r→x=r∨x∈l:=fun h=>by
 unfold insQ at h
 rcases List.mem_append.1 h with h|h
 ·exact .inr (List.mem_of_mem_take h)
 ·rcases List.mem_cons.1 h with h|h
  ·exact .inl h
  ·exact .inr (List.mem_of_mem_drop h)
theorem insQ_v {l:List Rq} {q id life now:Int} {v:Vh} {x:List Lg} (hv:RqV l) (he:suE l q id life x=0) (v0:0≤v.id) (v1:v.id≤4294967295) (w0:0≤v.cls) (w1:v.cls≤3) (n0:0≤now) (n1:now≤1073741824):RqV (insQ l (newQ id v life x now)):=by
 have h1:0≤id∧id≤4294967295∧1≤life∧life≤600∧vgF x=true:=by
  by_cases h:0≤id∧id≤4294967295∧1≤life∧life≤600∧vgF x=true
  ·exact h
  ·rw[suE,if_pos h]at he
   cases he
 rw[suE,if_neg (fun h=>h h1)]at he
 have hh:hasQ l id=false:=by
  cases h:hasQ l id with
  |false=>rfl
  |true=>rw[if_pos h]at he;cases he
 rw[if_neg (by rw[hh];decide)]at he
 have hq:¬(q≤l.length∨4≤(l.length:Int)):=fun h=>by rw[if_pos h]at he;cases he
 have hno:∀r∈l,r.id≠id:=by simpa [hasQ]using hh
 have hle:=qpl_le l id
 refine⟨fun r hr=>?_,?_,?_⟩
 ·rcases insQ_mem hr with rfl|hr
  ·exact⟨h1.1,h1.2.1,v0,v1,w0,w1,by show 0≤now+life;omega,by show now+life≤2147483648;omega,h1.2.2.2.2⟩
  ·exact hv.ok r hr
 ·have hs:=hv.so
  unfold insQ
  show((l.take (qpl l id))++newQ id v life x now::l.drop (qpl l id)).Pairwise _
  rw[List.pairwise_append,List.pairwise_cons]
  have hs2:=hs
  rw[←List.take_append_drop (qpl l id) l,List.pairwise_append]at hs2
  have hlo:∀y∈l.take (qpl l id),y.id<id:=fun y hy=>by
   obtain⟨i,hi,rfl⟩:=List.mem_iff_getElem.1 hy
   rw[List.length_take]at hi
   have:=qpl_lt (l:=l) (id:=id) (i:=i) (by omega)
   rw[List.getElem_take]
   simpa [List.getD,show i<l.length by omega]using this
  have hhi:∀y∈l.drop (qpl l id),id<y.id:=fun y hy=>by
   have hne:=hno y (List.mem_of_mem_drop hy)
   by_cases hk:qpl l id<l.length
   ·have h2:=qpl_at hk
    rw[List.drop_eq_getElem_cons hk]at hy
    have e:l.getD (qpl l id) default=l[qpl l id]:=by simp[List.getD,hk]
    rw[e]at h2
    rcases List.mem_cons.1 hy with rfl|hy
    ·omega
    ·have hs3:=hs2.2.1
     rw[List.drop_eq_getElem_cons hk,List.pairwise_cons]at hs3
     have:=hs3.1 y hy
     omega
   ·rw[List.drop_eq_nil_of_le (by omega)]at hy
    cases hy
  refine⟨hs2.1,⟨hhi,hs2.2.1⟩,fun a ha b hb=>?_⟩
  rcases List.mem_cons.1 hb with rfl|hb
  ·exact hlo a ha
  ·have:=hlo a ha
   have:=hhi b hb
   omega
 ·unfold insQ
  rw[List.length_append,List.length_cons,List.length_take,List.length_drop]
  show min (qpl l id) l.length+(l.length-qpl l id+1)≤4
  omega
theorem lvB_nw {now:Int} {g:Lg} {p:Int×Int} (hg:lvB g=true) (h:okW now g p=true):lvB (nwL now g p)=true:=by
 unfold lvB at hg
 unfold okW mwB at h
 rw[decide_eq_true_eq]at hg h
 unfold lvB nwL
 rw[decide_eq_true_eq]
 dsimp only
 omega
theorem lgsF_nw {now:Int}:∀(gs:List Lg) (w:List (Int×Int)) (pre pre':List Lg),pre'.map (·.jn)=pre.map (·.jn)→w.length=gs.length→(gs.zipWith (okW now) w).all id=true→lgsF pre gs=true→lgsF pre' (gs.zipWith (nwL now) w)=true
 | [],w,pre,pre',_,_,_,_=>by cases w<;>rfl
 |g::gs,[],pre,pre',_,hl,_,_=>by simp at hl
 |g::gs,p::w,pre,pre',hp,hl,ha,h=>by
  rw[List.zipWith_cons_cons,List.all_cons,Bool.and_eq_true]at ha
  rw[lgsF,Bool.and_eq_true,Bool.and_eq_true]at h
  obtain⟨h1,h2,h3⟩:=h
  rw[List.zipWith_cons_cons,lgsF,Bool.and_eq_true,Bool.and_eq_true]
  refine⟨lvB_nw h1 ha.1,?_,lgsF_nw gs w (pre++[g]) (pre'++[nwL now g p]) (by rw[List.map_append,List.map_append,hp];rfl) (by simpa using hl) ha.2 h3⟩
  have e:∀l:List Lg,(l.any fun y=>y.jn==g.jn)=(l.map (·.jn)).any (· ==g.jn):=fun l=>by rw[List.any_map];rfl
  show(!(pre'.any fun y=>y.jn==g.jn))=true
  rw[e,hp,←e]
  exact h2
theorem updF_v {l:List Rq} {id now:Int} {w:List (Int×Int)} (hv:RqV l) (he:updE l id w now=0):RqV (updF l id w now):=by
 have hh:hasQ l id=true:=by
  cases h:hasQ l id with
  |true=>rfl
  |false=>rw[updE,if_neg (by rw[h];decide)]at he;cases he
 obtain⟨pre,x,post,hL,hx,_,hf,_⟩:=fdQ_split hh
 rw[updE,if_pos hh,hf]at he
 have hw:w.length=x.legs.length∧wokF x.legs w now=true:=by
  by_cases h:w.length=x.legs.length∧wokF x.legs w now=true
  ·exact h
  ·rw[if_neg h]at he;cases he
 have hxo:=hv.ok x (by rw[hL];simp)
 rw[updF_at hL hv hx]
 have hs:=hv.so
 have h4:=hv.n4
 rw[hL]at hs h4
 rw[List.pairwise_append,List.pairwise_cons]at hs
 refine⟨fun r hr=>?_,?_,by simpa using h4⟩
 ·rw[List.mem_append,List.mem_cons]at hr
  rcases hr with hr|rfl|hr
  ·exact hv.ok r (by rw[hL];simp[hr])
  ·refine⟨hxo.i0,hxo.i1,hxo.v0,hxo.v1,hxo.c0,hxo.c1,hxo.t0,hxo.t1,?_⟩
   have h1:=vgF_len hxo.lg
   have h2:lgsF [] x.legs=true:=by
    have:=hxo.lg
    rw[vgF,Bool.and_eq_true]at this
    exact this.2
   unfold vgF
   rw[Bool.and_eq_true]
   exact⟨decide_eq_true (by rw[List.length_zipWith];omega),lgsF_nw x.legs w [] [] rfl hw.1 hw.2 h2⟩
  ·exact hv.ok r (by rw[hL];simp[hr])
 ·rw[List.pairwise_append,List.pairwise_cons]
  refine⟨hs.1,⟨hs.2.1.1,hs.2.1.2⟩,fun a ha b hb=>?_⟩
  rcases List.mem_cons.1 hb with rfl|hb
  ·exact hs.2.2 a ha x (by simp)
  ·exact hs.2.2 a ha b (by simp[hb])
end
section
set_option maxRecDepth 4000
set_option maxHeartbeats 2000000
theorem cpReg_c (r:Rg) (hb:RgB r):CallSim Tryz.prog 80 [rgA r] [] (rgA r) []:=by
 have hs:=hb.s
 have hlm:=hb.l
 have k1:=cloneY_c r.ag.sec (by omega)
 have k2:=cloneI_c r.ag.lim (by omega)
 have hn:=hb.tk.n
 have hv:=hb.v
 have c2:=cloneT_own r.tk (by omega)
 have c3:=cloneV_c r.vh (by omega)
 have hll:=map_len tkA r.tk
 (refine eN Tryz.func80 Tryz.call80 fun F hF=>?_)
 (have zc1:=k1;have zc2:=k2;have zc3:=c2;refine WW ?_;clear zc1 zc2 zc3)
 (refine sim_cnt ((r.tk.map tkA).length) [1001,1,2] [1,2] [1,2,22] [23,1,2,22] rfl (fun i T U=>⟨(23,iA i)::T,(1001,.arr 6 (kpL i (r.tk.map tkA)) false)::U⟩) ?_;(conv=>whnf);refine⟨by rfl,?_,?_⟩)
 ·intro i hi
  have hi':i<r.tk.length:=by omega
  have hy:(kpL i (r.tk.map tkA))[i]? =some (tkA (r.tk.getD i default)):=map_at tkA r.tk i hi'
  have e:=set_at tkA r.tk i hi'
  have c2:=cloneY_c (r.tk.getD i default).sec (by have:=hb.tk.s (r.tk.getD i default) (by simp[List.getD,hi']);omega)
  generalize (r.tk.getD i default)=t at*
  generalize kpL i (r.tk.map tkA)=xs at*
  generalize kpL (i+1) (r.tk.map tkA)=ys at*
  subst e
  (have zc1:=c2;refine WW ?_;clear zc1)
  rfl
 ·(have zc1:=c3;refine WW ?_;clear zc1)
  exact fin_ret [] rfl rfl (congrArg (rgX r) List.take_length) rfl
structure Dsk where
 rg:Rg
 rq:List Rq
 dr:List (List Int)
 au:List Bool
def sYA (l:List Int):AV:=slA yA l
def dskX (r:Rg) (a b c:AV):AV:= .agg [iA r.num,slA yA r.ag.sec,iA r.ag.rights,iA r.ag.cls,slA iA r.ag.lim,iA r.ag.req,iA r.ag.ses,iA r.ag.rate,iA r.ag.burst,slA tkA r.tk,slA vhA r.vh,iA r.bk.level,iA r.bk.rate,iA r.bk.burst,a,b,c]
def dskA (d:Dsk):AV:=dskX d.rg (slA rqA d.rq) (slA sYA d.dr) (slA bA d.au)
structure DskB (d:Dsk):Prop where
 rg:RgB d.rg
 q:d.rq.length≤1000
 g:∀r∈d.rq,r.legs.length≤1000
 n:d.dr.length≤1000
 e:∀b∈d.dr,b.length≤1000
 a:d.au.length≤1000
theorem cloneQ_own (l:List Rq) (hl:l.length≤1073741824):CallSim Tryz.prog 81 [slA rqA l] [] (.ref 1001 0 (l.map rqA).length) [(1001,.arr 5 (l.map rqA) false)]:=by
 have hll:=map_len rqA l
 (refine eN Tryz.func81 Tryz.call81 fun F hF=>?_)
 refine sim_nsplit 0 rfl (fun cap hx=>?_) ?_
 ·have:l=[]:=by simpa using hx
  subst this
  (repeat' (first|refine WZ ?_|refine SG (I2 (fun hc=>?_) (fun hc=>?_))|refine SG (fun hc=>?_)|(refine is_ops ?_;refine is_call ?_;fail)|(refine is_ops ?_;first|fail)|first|refine SN ?_|refine SK (I2 (fun hc=>?_) (fun hc=>?_))|refine SK (fun hc=>?_)|fail))
  refine sim_virtF 2 1001 5 rfl rfl rfl (sim_ret ?_)
  exact fin_own [1001] rfl rfl rfl rfl
 ·repeat' (first|(refine is_ops ?_;first|refine x_auto tok rfl rfl ?_|(refine is_bin ?_;refine x_q (stp_eqlNil_not tok (.inl ⟨rfl,rfl⟩) rfl rfl rfl rfl) rfl ?_)|(refine is_bsl ?_;refine x_w (nw:=[1001]) (stp_buildSlice tok 1001 (xs:=[]) rfl rfl rfl rfl rfl rfl rfl rfl rfl) rfl rfl rfl ?_)|(refine is_app ?_;refine x_appref0 tok rfl rfl rfl rfl rfl rfl rfl (map_hd _ _ (fun _=>rfl)) rfl rfl rfl (by omega) rfl ?_)|refine x_nil ?_)|(first|refine sim_seq ?_|refine x_region ?_|refine x_draw rfl ?_|refine sim_cond_true rfl ?_|refine sim_cond_false rfl ?_|refine sim_cond rfl (fun hc=>?_) (fun hc=>?_)|refine sim_skip ?_|refine sim_ret ?_|refine sim_exit ?_|refine sim_block ?_))
  exact fin_own [1001] rfl rfl rfl rfl
theorem cloneD_own (l:List (List Int)) (hl:l.length≤1073741824):CallSim Tryz.prog 83 [slA sYA l] [] (.ref 1002 0 (l.map sYA).length) [(1002,.arr 1 (l.map sYA) false)]:=by
 have hll:=map_len sYA l
 (refine eN Tryz.func83 Tryz.call83 fun F hF=>?_)
 refine sim_nsplit 0 rfl (fun cap hx=>?_) ?_
 ·have:l=[]:=by simpa using hx
  subst this
  (repeat' (first|refine WZ ?_|refine SG (I2 (fun hc=>?_) (fun hc=>?_))|refine SG (fun hc=>?_)|(refine is_ops ?_;refine is_call ?_;fail)|(refine is_ops ?_;first|fail)|first|refine SN ?_|refine SK (I2 (fun hc=>?_) (fun hc=>?_))|refine SK (fun hc=>?_)|fail))
  refine sim_virtF 2 1002 1 rfl rfl rfl (sim_ret ?_)
  exact fin_own [1002] rfl rfl rfl rfl
 ·repeat' (first|(refine is_ops ?_;first|refine x_auto tok rfl rfl ?_|(refine is_bin ?_;refine x_q (stp_eqlNil_not tok (.inl ⟨rfl,rfl⟩) rfl rfl rfl rfl) rfl ?_)|(refine is_bsl ?_;refine x_w (nw:=[1002]) (stp_buildSlice tok 1002 (xs:=[]) rfl rfl rfl rfl rfl rfl rfl rfl rfl) rfl rfl rfl ?_)|(refine is_app ?_;refine x_appref0 tok rfl rfl rfl rfl rfl rfl rfl (map_hd _ _ (fun _=>rfl)) rfl rfl rfl (by omega) rfl ?_)|refine x_nil ?_)|(first|refine sim_seq ?_|refine x_region ?_|refine x_draw rfl ?_|refine sim_cond_true rfl ?_|refine sim_cond_false rfl ?_|refine sim_cond rfl (fun hc=>?_) (fun hc=>?_)|refine sim_skip ?_|refine sim_ret ?_|refine sim_exit ?_|refine sim_block ?_))
  exact fin_own [1002] rfl rfl rfl rfl
theorem cloneB_c (l:List Bool) (hl:l.length≤1073741824):CallSim Tryz.prog 85 [slA bA l] [] (slA bA l) []:=by
 have hll:=map_len bA l
 (refine eN Tryz.func85 Tryz.call85 fun F hF=>?_)
 refine sim_nsplit 0 rfl (fun cap hx=>?_) ?_
 ·have:l=[]:=by simpa using hx
  subst this
  (refine WW ?_)
  exact fr0
 ·(refine WW ?_)
  refine fin_ret [] rfl rfl (wk_take _ _) rfl
theorem cpDesk_c (d:Dsk) (hb:DskB d):CallSim Tryz.prog 45 [dskA d] [] (dskA d) []:=by
 have k1:=cpReg_c d.rg hb.rg
 have hq:=hb.q
 have hdn:=hb.n
 have hau:=hb.a
 have k2:=cloneQ_own d.rq (by omega)
 have k3:=cloneD_own d.dr (by omega)
 have k4:=cloneB_c d.au (by omega)
 have hlq:=map_len rqA d.rq
 have hld:=map_len sYA d.dr
 unfold dskA dskX
 unfold rgA at k1
 (refine eN Tryz.func45 Tryz.call45 fun F hF=>?_)
 (have zc1:=k1;have zc2:=k2;refine WW ?_;clear zc1 zc2)
 (refine sim_cnt ((d.rq.map rqA).length) [1001,1,2] [1,2] [1,2,15] [16,1,2,15] rfl (fun i T U=>⟨(16,iA i)::T,(1001,.arr 5 (kpL i (d.rq.map rqA)) false)::U⟩) ?_;(conv=>whnf);refine⟨by rfl,?_,?_⟩)
 ·intro i hi
  have hi':i<d.rq.length:=by omega
  have hy:(kpL i (d.rq.map rqA))[i]? =some (rqA (d.rq.getD i default)):=map_at rqA d.rq i hi'
  have e:=set_at rqA d.rq i hi'
  have c2:=cloneLg_c (d.rq.getD i default).legs (hb.g (d.rq.getD i default) (by simp[List.getD,hi']))
  generalize (d.rq.getD i default)=t at*
  generalize kpL i (d.rq.map rqA)=xs at*
  generalize kpL (i+1) (d.rq.map rqA)=ys at*
  subst e
  (have zc1:=c2;refine WW ?_;clear zc1)
  rfl
 ·(have zc1:=k3;refine WW ?_;clear zc1)
  (refine sim_cnt ((d.dr.map sYA).length) [1002,1,2,1001] [1,2,1001] [1,2,38] [39,1,2,38] rfl (fun i T U=>⟨(39,iA i)::T,(1002,.arr 1 (kpL i (d.dr.map sYA)) false)::U⟩) ?_;(conv=>whnf);refine⟨by rfl,?_,?_⟩)
  ·intro i hi
   have hi':i<d.dr.length:=by omega
   have hy:(kpL i (d.dr.map sYA))[i]? =some (sYA (d.dr.getD i default)):=map_at sYA d.dr i hi'
   have e:=set_at sYA d.dr i hi'
   have c2:=cloneY_c (d.dr.getD i default) (by have:=hb.e (d.dr.getD i default) (by simp[List.getD,hi']);omega)
   generalize (d.dr.getD i default)=t at*
   generalize kpL i (d.dr.map sYA)=xs at*
   generalize kpL (i+1) (d.dr.map sYA)=ys at*
   subst e
   (have zc1:=c2;refine WW ?_;clear zc1)
   rfl
  ·(have zc1:=k4;refine WW ?_;clear zc1)
   refine fin_ret [] rfl rfl ?_ rfl
   show dskX d.rg (.sl false ((d.rq.map rqA).take (d.rq.map rqA).length)) (.sl false ((d.dr.map sYA).take (d.dr.map sYA).length)) (slA bA d.au)=_
   rw[List.take_length,List.take_length]
   rfl
theorem copyDesk_c (d:Dsk) (hb:DskB d):CallSim Tryz.prog 22 [dskA d] [] (dskA d) []:=by
 have k1:=copyG_c d.rg hb.rg
 have k2:=copy2_q d.rq hb.q hb.g
 have hq:=hb.q
 have hdn:=hb.n
 have hau:=hb.a
 have hlq:=map_len rqA d.rq
 have hld:=map_len sYA d.dr
 have hla:=map_len bA d.au
 unfold dskA dskX
 unfold rgA at k1
 (refine eN Tryz.func22 Tryz.call22 fun F hF=>?_)
 (have zc1:=k1;have zc2:=k2;refine WL ?_;clear zc1 zc2)
 refine sim_virt 4 1001 1 rfl rfl rfl ?_
 (refine sim_rng (d.dr) [1001,2,3] [2,3] [2,3,18,19] [4,20,2,3,18,19] rfl (fun i pre T U=>⟨(4,.ref 1001 0 (pre.map sYA).length)::(20,iA i)::T,(1001,.arr 1 (pre.map sYA) true)::U⟩) ?_;(conv=>whnf);refine⟨by rfl,?_,?_⟩)
 ·intro i pre x post hx hi
  have hy:=rng_at sYA hx hi
  have hlt:=rng_lt hx hi
  have hpl:(pre.map sYA).length=i:=by rw[List.length_map,hi]
  have hs:=hb.e x (rng_mem hx)
  have hsl:=map_len yA x
  have e:(pre++[x]).map sYA=pre.map sYA++[sYA x]:=by simp
  clear hx
  rw[e]
  generalize pre.map sYA=xs at*
  generalize d.dr.map sYA=ls at*
  (refine WL ?_)
  rfl
 ·(refine WL ?_)
  refine fin_ret [] rfl rfl ?_ rfl
  show dskX d.rg (slA rqA d.rq) (.sl false ((d.dr.map sYA).take (d.dr.map sYA).length)) (slA bA d.au)=_
  rw[List.take_length]
  rfl
end
section
set_option maxRecDepth 4000
set_option maxHeartbeats 1000000
def findV (l:List Vh) (id:Int):Vh:=(l.find? fun v=>v.id==id).getD ⟨0,0⟩
def hasV (l:List Vh) (id:Int):Bool:=l.any fun v=>v.id==id
theorem findV_hit {l pre post:List Vh} {x:Vh} {id:Int} (h:l=pre++x::post) (hn:∀y∈pre,y.id≠id) (hx:x.id=id):findV l id=x∧hasV l id=true:=by
 subst h
 have h1:pre.find? (fun v=>v.id==id)=none:=List.find?_eq_none.2 fun y hy=>by simpa using hn y hy
 refine⟨?_,by simp[hasV,hx]⟩
 unfold findV
 rw[List.find?_append,h1]
 simp[hx]
theorem findV_none {l:List Vh} {id:Int} (hn:∀y∈l,y.id≠id):findV l id=⟨0,0⟩∧hasV l id=false:=by
 have h1:l.find? (fun v=>v.id==id)=none:=List.find?_eq_none.2 fun y hy=>by simpa using hn y hy
 exact⟨by unfold findV;rw[h1];rfl,by simpa [hasV]using hn⟩
theorem find2_c (l:List Vh) (id:Int) (hn:l.length≤1000000):CallSim Tryz.prog 131 [slA vhA l,iA id] [] (.tup [vhA (findV l id),bA (hasV l id)]) []:=by
 have hl:=map_len vhA l
 (refine eN Tryz.func131 Tryz.call131 fun F hF=>?_)
 (refine WW ?_)
 (refine sim_rngP (l) [4] [] [1,4,8,9] [10,1,4,8,9] rfl (fun i pre T U zs=>(∀y∈pre,y.id≠id)∧zs=⟨(10,iA i)::T,(4,.box [.s (.int .i64 0),.s (.int .i64 0)])::U⟩) ?_;(conv=>whnf);refine⟨?_,?_,?_⟩)
 ·exact⟨by simp,rfl⟩
 ·rintro i pre x post st hx hi ⟨hp,rfl⟩
  have hy:=rng_at vhA hx hi
  have hlt:=rng_lt hx hi
  by_cases he:x.id=id
  ·obtain⟨e1,e2⟩:=findV_hit hx hp he
   rw[e1,e2]
   clear hx
   (refine WW ?_)
   exact fr0
  ·clear hx
   (refine WW ?_)
   exact⟨fun y hy=>by simp only[List.mem_append,List.mem_singleton]at hy;rcases hy with hy|rfl;exact hp y hy;exact he,rfl⟩
 ·rintro st ⟨hp,rfl⟩
  obtain⟨e1,e2⟩:=findV_none hp
  rw[e1,e2]
  (refine WW ?_)
  exact fr0
def countV (l:List Vh) (c:Int):Nat:=(l.filter fun v=>v.cls==c).length
theorem count3_c (l:List Vh) (c:Int) (hn:l.length≤1000000):CallSim Tryz.prog 207 [slA vhA l,iA c] [] (iA (countV l c)) []:=by
 have hl:=map_len vhA l
 (refine eN Tryz.func207 Tryz.call207 fun F hF=>?_)
 (refine WW ?_)
 (refine sim_rng (l) [] [] [1,8,9] [5,10,1,8,9] rfl (fun i pre T U=>⟨(5,iA (countV pre c))::(10,iA i)::T,U⟩) ?_;(conv=>whnf);refine⟨by rfl,?_,?_⟩)
 ·intro i pre x post hx hi
  have hy:=rng_at vhA hx hi
  have hlt:=rng_lt hx hi
  have hle:countV pre c≤i:=by rw[←hi];exact List.length_filter_le _ _
  have e:countV (pre++[x]) c=countV pre c+(if x.cls=c then 1 else 0):=by
   unfold countV
   rw[List.filter_append,List.length_append]
   by_cases h:x.cls=c
   ·simp[h]
   ·simp[h]
  clear hx
  by_cases h:x.cls=c
  ·rw[if_pos h]at e
   rw[e]
   generalize countV pre c=m at*
   (refine WW ?_)
   rfl
  ·rw[if_neg h,Nat.add_zero]at e
   rw[e]
   generalize countV pre c=m at*
   (refine WW ?_)
   rfl
 ·(refine WW ?_)
  exact fr0
def vokF (l:List Vh) (i:Nat):Bool:=decide (0≤(l.getD i default).id∧(l.getD i default).id≤4294967295∧0≤(l.getD i default).cls∧(l.getD i default).cls≤3∧(0<i→(l.getD (i-1) default).id<(l.getD i default).id))
def vvF (l:List Vh):Bool:=((List.range l.length).all fun i=>vokF l i)&&decide ((l.length:Int)≤8)
theorem vvF_no {l:List Vh} {i:Nat} (hi:i<l.length) (h:vokF l i=false):vvF l=false:=by
 unfold vvF
 have:((List.range l.length).all fun i=>vokF l i)=false:=List.all_eq_false.2 ⟨i,List.mem_range.2 hi,by simp[h]⟩
 rw[this];simp
theorem vvalid2_c (l:List Vh) (hn:l.length≤1000000):CallSim Tryz.prog 203 [slA vhA l] [] (bA (vvF l)) []:=by
 have hl:=map_len vhA l
 (refine eN Tryz.func203 Tryz.call203 fun F hF=>?_)
 (refine WW ?_)
 (refine sim_cntP (l.length) [] [] [0,5,6] [7,0,5,6] rfl (fun i T U zs=>(∀s:Nat,s<i→vokF l s=true)∧zs=⟨(7,iA i)::T,U⟩) ?_;(conv=>whnf);refine⟨?_,?_,?_⟩)
 ·exact⟨fun s hs=>absurd hs (Nat.not_lt_zero _),rfl⟩
 ·rintro i st hi ⟨hp,rfl⟩
  have next:vokF l i=true→∀s:Nat,s<i+1→vokF l s=true:=fun h s hs=>by
   by_cases hsi:s=i
   ·subst hsi;exact h
   ·exact hp s (by omega)
  have stop:=fun h=>vvF_no (l:=l) hi h
  have hy:=map_at vhA l i hi
  have htok:vokF l i=_:=rfl
  conv at htok=>rhs;unfold vokF
  by_cases hi0:0<i
  ·have hyp:=map_atI vhA l ((i:Int)-1) (by omega) (by omega)
   rw[show((i:Int)-1).toNat=i-1 by omega]at hyp
   have hyq:(l.map vhA)[((i:Int)-1).toNat]? =some (vhA (l.getD (i-1) default)):=by rw[show((i:Int)-1).toNat=i-1 by omega];exact hyp
   clear hyp
   generalize l.getD i default=t at*
   generalize l.getD (i-1) default=p at*
   generalize vokF l i=tk at*
   by_cases h1:0≤t.id∧t.id≤4294967295∧0≤t.cls∧t.cls≤3∧p.id<t.id
   ·obtain⟨h1,h2,h3,h4,h5⟩:=h1
    rw[decide_eq_true ⟨h1,h2,h3,h4,fun _=>h5⟩]at htok
    (refine WW ?_)
    exact⟨next htok,rfl⟩
   ·rw[decide_eq_false (fun h=>h1 ⟨h.1,h.2.1,h.2.2.1,h.2.2.2.1,h.2.2.2.2 hi0⟩)]at htok
    rw[stop htok]
    by_cases g1:0≤t.id<;>by_cases g2:t.id≤4294967295<;>by_cases g3:0≤t.cls<;>by_cases g4:t.cls≤3<;>by_cases g5:p.id<t.id<;>first|(exfalso;exact h1 ⟨g1,g2,g3,g4,g5⟩)|(exfalso;omega;done)|(clear h1;((refine WW ?_));exact fr0)
  ·obtain rfl:i=0:=by omega
   generalize l.getD 0 default=t at*
   generalize vokF l 0=tk at*
   by_cases h1:0≤t.id∧t.id≤4294967295∧0≤t.cls∧t.cls≤3
   ·obtain⟨h1,h2,h3,h4⟩:=h1
    rw[decide_eq_true ⟨h1,h2,h3,h4,fun h=>absurd h hi0⟩]at htok
    (refine WW ?_)
    exact⟨next htok,rfl⟩
   ·rw[decide_eq_false (fun h=>h1 ⟨h.1,h.2.1,h.2.2.1,h.2.2.2.1⟩)]at htok
    rw[stop htok]
    by_cases g1:0≤t.id<;>by_cases g2:t.id≤4294967295<;>by_cases g3:0≤t.cls<;>by_cases g4:t.cls≤3<;>first|(exfalso;exact h1 ⟨g1,g2,g3,g4⟩)|(exfalso;omega;done)|(clear h1;((refine WW ?_));exact fr0)
 ·rintro st ⟨hp,rfl⟩
  have e:((List.range l.length).all fun i=>vokF l i)=true:=List.all_eq_true.2 fun i hi=>hp i (List.mem_range.1 hi)
  unfold vvF
  rw[e,Bool.true_and]
  by_cases h8:(l.length:Int)≤8
  ·rw[decide_eq_true h8]
   (refine WW ?_)
   exact fr0
  ·rw[decide_eq_false h8]
   (refine WW ?_)
   exact fr0
end
end Av
end Go.Proofs.YtaikgchmpieooaaGreat
