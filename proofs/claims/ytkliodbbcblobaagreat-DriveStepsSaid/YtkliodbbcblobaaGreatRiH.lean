
/- Rings: serve, both rings. -/
import Derived.Test.YtkliodbbcblobaaGreatRiG
namespace Go.Proofs.YtkliodbbcblobaaGreat
namespace Av
set_option linter.unusedSimpArgs false
set_option linter.unusedVariables false
set_option maxRecDepth 4000
set_option maxHeartbeats 1000000
theorem svS_gr {j : Jn} (J : JV j) {c : Ct} {r : Int} {t : Nat} (ht : t < j.ph.length) : (svS j t c r).gr = c.gr ∨ (svS j t c r).gr = (phO j t).group := by
  unfold svS
  split
  · split
    · exact .inl rfl
    · rename_i h
      obtain ⟨p, hpe, hp, hpg⟩ := svP_gr J (c := c) (r := r) ht h
      rw [hpe, Int.toNat_natCast]
      rcases bgF_gr j c p with h | h
      · rw [h.2]; exact .inl rfl
      · rw [h.2, hpg]; exact .inr rfl
  · exact .inl rfl
theorem ctX_nd (e : Bool) (c : Ct) (o : List Int) : noDead (ctX e c o) = true := by cases e <;> rfl
def svSt (j : Jn) (t : Nat) (e : Bool) (i : Int) (c : Ct) (o : List Int) : St := ⟨[(8, iA i), (1, .ptr 3000 0 0), (2, iA t), (3, .ptr 3 0 0)], ctX e c o ++ [(3, .box [slA phA j.ph, slA iA j.cf, iA j.st])]⟩
theorem serve_c (j : Jn) (J : JV j) (c : Ct) (C : CV j c) (h0 : c.wt = 0) (t : Nat) (ht : t < j.ph.length) : CallSim Tryz.prog 62 [jnA j, .ptr 3000 0 0, iA (t : Int)] (ctH c 1002) (.tup []) (ctX (decide ((svS j t (svS j t c 0) 1).gr ≠ c.gr)) (svS j t (svS j t c 0) 1) (if (svS j t c 0).gr = c.gr then (svS j t c 0).nx else c.nx)) := by
  have hn := J.n
  have hn8 : j.ph.length ≤ 1000 := by omega
  have hjc := J.c
  have hlp := map_len phA j.ph
  have hyt := map_at phA j.ph t ht
  change (j.ph.map phA)[t]? = some (phA (phO j t)) at hyt
  have hc_c := C.n
  have hm_c := C.m
  obtain ⟨C1, h01⟩ := cv_sv J C h0 ht 0
  have hc_c1 := C1.n
  have hm_c1 := C1.m
  have hgr1 := svS_gr J (c := c) (r := 0) ht
  have heq_c : c.gr = c.gr := rfl
  refine callSim_of tok Tryz.func62 rfl (fun args w => Tryz.call62 args w) rfl rfl (ctX_nd _ _ _) (fun F hF => ?_)
  (refine WW ?_)
  refine sim_two [3000, 1001, 1002, 2001, 3] [8, 1, 2, 3] (svSt j t false 0 c c.nx) (svSt j t (decide ((svS j t c 0).gr ≠ c.gr)) 1 (svS j t c 0) c.nx) (svSt j t (decide ((svS j t (svS j t c 0) 1).gr ≠ c.gr)) 2 (svS j t (svS j t c 0) 1) (if (svS j t c 0).gr = c.gr then (svS j t c 0).nx else c.nx)) rfl rfl ?_ ?_ ?_
  · unfold svSt
    clear C1 hgr1 hc_c1 hm_c1 h01
    rw [show ctX false c c.nx = ctH c 1002 from rfl]
    unfold ctH
    have cd := dark_t j hn8 c hc_c 0
    cases hd : dkF j c 0 with
    | false =>
      rw [hd] at cd
      rw [show svS j t c 0 = c by unfold svS; rw [if_neg (by rw [hd]; decide)]]
      rw [show decide (c.gr ≠ c.gr) = false from decide_eq_false (fun h => h heq_c)]
      clear hd
      (have zc1 := cd; refine WW ?_; clear zc1)
      rfl
    | true =>
    rw [hd] at cd
    have hsv : svS j t c 0 = if svP j c 0 t = -1 then c else bgF j c (svP j c 0 t).toNat := by unfold svS; rw [if_pos hd]
    by_cases hrt : 0 = (phO j t).ring
    · 
      have hP : svP j c 0 t = t := by unfold svP; rw [if_pos hrt]
      rw [hP] at hsv
      rw [if_neg (by omega), Int.toNat_natCast] at hsv
      by_cases hk : kpF j c t = true ∨ c.gr = (phO j t).group
      · have cb := begin_c j hn8 (by omega) c hc_c hm_c t ht (J.rg t ht) hk
        have hg2 : (bgF j c t).gr = c.gr := by
          rcases bgF_gr j c t with h | h
          · exact (congrArg Ct.gr h.2).trans heq_c
          · rcases hk with hk | hk
            · rw [hk] at h; cases h.1
            · exact h.2.trans (hk.symm.trans heq_c)
        rw [hsv, show decide ((bgF j c t).gr ≠ c.gr) = false from decide_eq_false (fun h => h hg2)]
        generalize bgF j c t = b at *
        clear hd hsv hg2 hk
        unfold ctH at cb
        (have zc1 := cd; have zc2 := cb; refine WW ?_; clear zc1 zc2)
        rfl
      · have hk1 : kpF j c t = false := by
          cases h : kpF j c t with
          | false => rfl
          | true => exact absurd (.inl h) hk
        have hk2 : c.gr ≠ (phO j t).group := fun h => hk (.inr h)
        have cb := begin_e j hn8 (by omega) c hc_c hm_c t ht (J.rg t ht) hk1 hk2
        have hg2 : (bgF j c t).gr ≠ c.gr := by
          rcases bgF_gr j c t with h | h
          · rw [hk1] at h; cases h.1
          · rw [h.2, ← heq_c]; exact fun h => hk2 h.symm
        rw [hsv, show decide ((bgF j c t).gr ≠ c.gr) = true from decide_eq_true hg2]
        generalize bgF j c t = b at *
        clear hd hsv hg2 hk hk1 hk2
        unfold ctH ctE at cb
        (have zc1 := cd; have zc2 := cb; refine WW ?_; clear zc1 zc2)
        rfl
    · 
      have cm := comp_t j hn8 (by omega) c hm_c 0 t (by omega)
      have hP : svP j c 0 t = cmF j (c.nx.getD (0 : Int).toNat default) 0 t := by unfold svP; rw [if_neg hrt]
      rw [← hP] at cm
      by_cases hm1 : svP j c 0 t = -1
      · rw [if_pos hm1] at hsv
        rw [hsv]
        rw [show decide (c.gr ≠ c.gr) = false from decide_eq_false (fun h => h heq_c)]
        generalize svP j c 0 t = pp at *
        clear hP hd hsv
        (have zc1 := cd; have zc2 := cm; refine WW ?_; clear zc1 zc2)
        rfl
      obtain ⟨p, hpe, hp, hpg⟩ := svP_gr J (c := c) (r := 0) ht hm1
      rw [if_neg hm1, hpe, Int.toNat_natCast] at hsv
      rw [hpe] at cm
      clear hP hm1 hpe
      by_cases hk : kpF j c p = true ∨ c.gr = (phO j p).group
      · have cb := begin_c j hn8 (by omega) c hc_c hm_c p hp (J.rg p hp) hk
        have hg2 : (bgF j c p).gr = c.gr := by
          rcases bgF_gr j c p with h | h
          · exact (congrArg Ct.gr h.2).trans heq_c
          · rcases hk with hk | hk
            · rw [hk] at h; cases h.1
            · exact h.2.trans (hk.symm.trans heq_c)
        rw [hsv, show decide ((bgF j c p).gr ≠ c.gr) = false from decide_eq_false (fun h => h hg2)]
        generalize bgF j c p = b at *
        clear hd hsv hg2 hk
        unfold ctH at cb
        (have zc1 := cd; have zc2 := cm; have zc3 := cb; refine WW ?_; clear zc1 zc2 zc3)
        rfl
      · have hk1 : kpF j c p = false := by
          cases h : kpF j c p with
          | false => rfl
          | true => exact absurd (.inl h) hk
        have hk2 : c.gr ≠ (phO j p).group := fun h => hk (.inr h)
        have cb := begin_e j hn8 (by omega) c hc_c hm_c p hp (J.rg p hp) hk1 hk2
        have hg2 : (bgF j c p).gr ≠ c.gr := by
          rcases bgF_gr j c p with h | h
          · rw [hk1] at h; cases h.1
          · rw [h.2, ← heq_c]; exact fun h => hk2 h.symm
        rw [hsv, show decide ((bgF j c p).gr ≠ c.gr) = true from decide_eq_true hg2]
        generalize bgF j c p = b at *
        clear hd hsv hg2 hk hk1 hk2
        unfold ctH ctE at cb
        (have zc1 := cd; have zc2 := cm; have zc3 := cb; refine WW ?_; clear zc1 zc2 zc3)
        rfl
  · clear hc_c hm_c heq_c
    have he1 := hgr1
    generalize svS j t c 0 = c1 at *
    unfold svSt
    by_cases heq_c1 : c1.gr = c.gr
    · rw [if_pos heq_c1, decide_eq_false (fun h => h heq_c1)]
      rw [show ctX false c1 c.nx = ctH c1 1002 from rfl]
      unfold ctH
      have cd := dark_t j hn8 c1 hc_c1 1
      cases hd : dkF j c1 1 with
      | false =>
        rw [hd] at cd
        rw [show svS j t c1 1 = c1 by unfold svS; rw [if_neg (by rw [hd]; decide)]]
        rw [show decide (c1.gr ≠ c.gr) = false from decide_eq_false (fun h => h heq_c1)]
        clear hd
        (have zc1 := cd; refine WW ?_; clear zc1)
        rfl
      | true =>
      rw [hd] at cd
      have hsv : svS j t c1 1 = if svP j c1 1 t = -1 then c1 else bgF j c1 (svP j c1 1 t).toNat := by unfold svS; rw [if_pos hd]
      by_cases hrt : 1 = (phO j t).ring
      · 
        have hP : svP j c1 1 t = t := by unfold svP; rw [if_pos hrt]
        rw [hP] at hsv
        rw [if_neg (by omega), Int.toNat_natCast] at hsv
        by_cases hk : kpF j c1 t = true ∨ c1.gr = (phO j t).group
        · have cb := begin_c j hn8 (by omega) c1 hc_c1 hm_c1 t ht (J.rg t ht) hk
          have hg2 : (bgF j c1 t).gr = c.gr := by
            rcases bgF_gr j c1 t with h | h
            · exact (congrArg Ct.gr h.2).trans heq_c1
            · rcases hk with hk | hk
              · rw [hk] at h; cases h.1
              · exact h.2.trans (hk.symm.trans heq_c1)
          rw [hsv, show decide ((bgF j c1 t).gr ≠ c.gr) = false from decide_eq_false (fun h => h hg2)]
          generalize bgF j c1 t = b at *
          clear hd hsv hg2 hk
          unfold ctH at cb
          (have zc1 := cd; have zc2 := cb; refine WW ?_; clear zc1 zc2)
          rfl
        · have hk1 : kpF j c1 t = false := by
            cases h : kpF j c1 t with
            | false => rfl
            | true => exact absurd (.inl h) hk
          have hk2 : c1.gr ≠ (phO j t).group := fun h => hk (.inr h)
          have cb := begin_e j hn8 (by omega) c1 hc_c1 hm_c1 t ht (J.rg t ht) hk1 hk2
          have hg2 : (bgF j c1 t).gr ≠ c.gr := by
            rcases bgF_gr j c1 t with h | h
            · rw [hk1] at h; cases h.1
            · rw [h.2, ← heq_c1]; exact fun h => hk2 h.symm
          rw [hsv, show decide ((bgF j c1 t).gr ≠ c.gr) = true from decide_eq_true hg2]
          generalize bgF j c1 t = b at *
          clear hd hsv hg2 hk hk1 hk2
          unfold ctH ctE at cb
          (have zc1 := cd; have zc2 := cb; refine WW ?_; clear zc1 zc2)
          rfl
      · 
        have cm := comp_t j hn8 (by omega) c1 hm_c1 1 t (by omega)
        have hP : svP j c1 1 t = cmF j (c1.nx.getD (1 : Int).toNat default) 1 t := by unfold svP; rw [if_neg hrt]
        rw [← hP] at cm
        by_cases hm1 : svP j c1 1 t = -1
        · rw [if_pos hm1] at hsv
          rw [hsv]
          rw [show decide (c1.gr ≠ c.gr) = false from decide_eq_false (fun h => h heq_c1)]
          generalize svP j c1 1 t = pp at *
          clear hP hd hsv
          (have zc1 := cd; have zc2 := cm; refine WW ?_; clear zc1 zc2)
          rfl
        obtain ⟨p, hpe, hp, hpg⟩ := svP_gr J (c := c1) (r := 1) ht hm1
        rw [if_neg hm1, hpe, Int.toNat_natCast] at hsv
        rw [hpe] at cm
        clear hP hm1 hpe
        by_cases hk : kpF j c1 p = true ∨ c1.gr = (phO j p).group
        · have cb := begin_c j hn8 (by omega) c1 hc_c1 hm_c1 p hp (J.rg p hp) hk
          have hg2 : (bgF j c1 p).gr = c.gr := by
            rcases bgF_gr j c1 p with h | h
            · exact (congrArg Ct.gr h.2).trans heq_c1
            · rcases hk with hk | hk
              · rw [hk] at h; cases h.1
              · exact h.2.trans (hk.symm.trans heq_c1)
          rw [hsv, show decide ((bgF j c1 p).gr ≠ c.gr) = false from decide_eq_false (fun h => h hg2)]
          generalize bgF j c1 p = b at *
          clear hd hsv hg2 hk
          unfold ctH at cb
          (have zc1 := cd; have zc2 := cm; have zc3 := cb; refine WW ?_; clear zc1 zc2 zc3)
          rfl
        · have hk1 : kpF j c1 p = false := by
            cases h : kpF j c1 p with
            | false => rfl
            | true => exact absurd (.inl h) hk
          have hk2 : c1.gr ≠ (phO j p).group := fun h => hk (.inr h)
          have cb := begin_e j hn8 (by omega) c1 hc_c1 hm_c1 p hp (J.rg p hp) hk1 hk2
          have hg2 : (bgF j c1 p).gr ≠ c.gr := by
            rcases bgF_gr j c1 p with h | h
            · rw [hk1] at h; cases h.1
            · rw [h.2, ← heq_c1]; exact fun h => hk2 h.symm
          rw [hsv, show decide ((bgF j c1 p).gr ≠ c.gr) = true from decide_eq_true hg2]
          generalize bgF j c1 p = b at *
          clear hd hsv hg2 hk hk1 hk2
          unfold ctH ctE at cb
          (have zc1 := cd; have zc2 := cm; have zc3 := cb; refine WW ?_; clear zc1 zc2 zc3)
          rfl
    · have hne_c1 : c1.gr ≠ c.gr := heq_c1
      have hgt_c1 : c1.gr = (phO j t).group := by
        rcases he1 with h | h
        · exact absurd h hne_c1
        · exact h
      rw [if_neg heq_c1, decide_eq_true hne_c1]
      rw [show ctX true c1 c.nx = ctE c1 c.nx from rfl]
      unfold ctE
      have cd := dark_t j hn8 c1 hc_c1 1
      cases hd : dkF j c1 1 with
      | false =>
        rw [hd] at cd
        rw [show svS j t c1 1 = c1 by unfold svS; rw [if_neg (by rw [hd]; decide)]]
        rw [show decide (c1.gr ≠ c.gr) = true from decide_eq_true hne_c1]
        clear hd
        (have zc1 := cd; refine WW ?_; clear zc1)
        rfl
      | true =>
      rw [hd] at cd
      have hsv : svS j t c1 1 = if svP j c1 1 t = -1 then c1 else bgF j c1 (svP j c1 1 t).toNat := by unfold svS; rw [if_pos hd]
      by_cases hrt : 1 = (phO j t).ring
      · 
        have hP : svP j c1 1 t = t := by unfold svP; rw [if_pos hrt]
        rw [hP] at hsv
        rw [if_neg (by omega), Int.toNat_natCast] at hsv
        have cb := begin_d j hn8 (by omega) c1 hc_c1 hm_c1 t ht (J.rg t ht) (.inr (hgt_c1.trans (rfl : (phO j t).group = (phO j t).group).symm))
        have hg2 : (bgF j c1 t).gr ≠ c.gr := by
          rcases bgF_gr j c1 t with h | h
          · rw [h.2]; exact hne_c1
          · rw [h.2, (rfl : (phO j t).group = (phO j t).group), ← hgt_c1]; exact hne_c1
        rw [hsv, show decide ((bgF j c1 t).gr ≠ c.gr) = true from decide_eq_true hg2]
        generalize bgF j c1 t = b at *
        clear hd hsv hg2
        unfold ctH at cb
        (have zc1 := cd; have zc2 := cb; refine WW ?_; clear zc1 zc2)
        rfl
      · 
        have cm := comp_t j hn8 (by omega) c1 hm_c1 1 t (by omega)
        have hP : svP j c1 1 t = cmF j (c1.nx.getD (1 : Int).toNat default) 1 t := by unfold svP; rw [if_neg hrt]
        rw [← hP] at cm
        by_cases hm1 : svP j c1 1 t = -1
        · rw [if_pos hm1] at hsv
          rw [hsv]
          rw [show decide (c1.gr ≠ c.gr) = true from decide_eq_true hne_c1]
          generalize svP j c1 1 t = pp at *
          clear hP hd hsv
          (have zc1 := cd; have zc2 := cm; refine WW ?_; clear zc1 zc2)
          rfl
        obtain ⟨p, hpe, hp, hpg⟩ := svP_gr J (c := c1) (r := 1) ht hm1
        rw [if_neg hm1, hpe, Int.toNat_natCast] at hsv
        rw [hpe] at cm
        clear hP hm1 hpe
        have cb := begin_d j hn8 (by omega) c1 hc_c1 hm_c1 p hp (J.rg p hp) (.inr (hgt_c1.trans (hpg : (phO j p).group = (phO j t).group).symm))
        have hg2 : (bgF j c1 p).gr ≠ c.gr := by
          rcases bgF_gr j c1 p with h | h
          · rw [h.2]; exact hne_c1
          · rw [h.2, (hpg : (phO j p).group = (phO j t).group), ← hgt_c1]; exact hne_c1
        rw [hsv, show decide ((bgF j c1 p).gr ≠ c.gr) = true from decide_eq_true hg2]
        generalize bgF j c1 p = b at *
        clear hd hsv hg2
        unfold ctH at cb
        (have zc1 := cd; have zc2 := cm; have zc3 := cb; refine WW ?_; clear zc1 zc2 zc3)
        rfl
  · generalize (if (svS j t c 0).gr = c.gr then (svS j t c 0).nx else c.nx) = o at *
    generalize svS j t (svS j t c 0) 1 = c2 at *
    unfold svSt
    by_cases he : c2.gr = c.gr
    · rw [decide_eq_false (fun h => h he)]
      (refine WW ?_)
      exact fin_own0 [3000, 1001, 1002] rfl rfl rfl rfl
    · rw [decide_eq_true he]
      (refine WW ?_)
      exact fin_own0 [3000, 1001, 1002, 2001] rfl rfl rfl rfl
end Av
end Go.Proofs.YtkliodbbcblobaaGreat
