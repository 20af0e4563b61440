/- Rings, the reference: which controls are valid, exactly. -/
import Derived.Test.YtkliodbbcblobaaRjE
namespace Go.Proofs.Ytkliodbbcblobaa
namespace Av
set_option linter.unusedSimpArgs false
set_option linter.unusedVariables false
set_option maxRecDepth 4000
set_option maxHeartbeats 1000000
def rkB (rows : List Int) (s : Int) (p q : Nat) : Bool := inS s p && (inS s q && cfP rows p q)
theorem rclash_ex (rows : List Int) (hn : rows.length ≤ 8) (s : Int) (hs : 0 ≤ s ∧ s < 256) : ∃ p q : Int, CallSim Try.prog 30 [slA iA rows, iA s] [] (.tup [iA p, iA q]) [] ∧ ((p = -1 ∧ ∀ a b : Nat, a < rows.length → b < rows.length → rkB rows s a b = false) ∨ (0 ≤ p ∧ ∃ a b : Nat, a < rows.length ∧ b < rows.length ∧ rkB rows s a b = true)) := by
  have hl := map_len iA rows
  by_cases hx : ∃ a, a < rows.length ∧ ∃ b, b < rows.length ∧ rkB rows s a b = true
  case neg =>
    have hno : ∀ a b : Nat, a < rows.length → b < rows.length → rkB rows s a b = false := fun a b ha hb => by
      cases h : rkB rows s a b with
      | false => rfl
      | true => exact absurd ⟨a, ha, b, hb, h⟩ hx
    exact ⟨-1, -1, rclash_c rows hn s hs hno, .inl ⟨rfl, hno⟩⟩
  obtain ⟨a, ha, hx⟩ := hx
  obtain ⟨p, _, ⟨hp, hx⟩, hpm⟩ := least (P := fun a => a < rows.length ∧ ∃ b, b < rows.length ∧ rkB rows s a b = true) a ⟨ha, hx⟩
  obtain ⟨b, hb⟩ := hx
  obtain ⟨q, _, ⟨hq, hc⟩, hqm⟩ := least (P := fun b => b < rows.length ∧ rkB rows s p b = true) b hb
  refine ⟨p, q, ?_, .inr ⟨by omega, p, q, hp, hq, hc⟩⟩
  have hsp : inS s p = true := by
    unfold rkB at hc
    rw [Bool.and_eq_true] at hc
    exact hc.1
  (refine callSim_of tok Try.func30 rfl (fun args w => Try.call30 args w) rfl rfl rfl (fun F hF => ?_))
  (refine WW ?_)
  (refine sim_cntP (rows.length) [] [] [0, 1, 9] [10, 0, 1, 9] rfl (fun i T U zs => (i ≤ p) ∧ zs = ⟨(10, iA i) :: T, U⟩) ?_; (conv => whnf); refine ⟨?_, ?_, ?_⟩)
  · exact ⟨Nat.zero_le _, rfl⟩
  · rintro u st hu ⟨hup, rfl⟩
    have ci := rin_c s u hs (by omega)
    by_cases hup2 : u = p
    · subst hup2
      rw [hsp] at ci
      (refine WW ?_)
      (refine sim_cntP (rows.length) [] [] [0, 1, 6, 9, 10, 14] [15, 0, 1, 6, 9, 10, 14] rfl (fun i T U zs => (i ≤ q) ∧ zs = ⟨(15, iA i) :: T, U⟩) ?_; (conv => whnf); refine ⟨?_, ?_, ?_⟩)
      · exact ⟨Nat.zero_le _, rfl⟩
      · rintro v st hv ⟨hvq, rfl⟩
        have cj := rin_c s v hs (by omega)
        have ck := rconf_c rows (by omega) u v
        by_cases hvq2 : v = q
        · subst hvq2
          unfold rkB at hc
          simp only [Bool.and_eq_true] at hc
          rw [hc.2.1] at cj
          rw [hc.2.2] at ck
          (have zc1 := ci; have zc2 := cj; have zc3 := ck; refine WW ?_; clear zc1 zc2 zc3)
          exact fin_ret [] rfl rfl rfl rfl
        · have hno : rkB rows s u v = false := by
            cases hcc : rkB rows s u v with
            | false => rfl
            | true => exact absurd ⟨hv, hcc⟩ (hqm v (by omega))
          unfold rkB at hno
          rw [hsp, Bool.true_and] at hno
          cases h2 : inS s v with
          | false =>
            rw [h2] at cj
            (have zc1 := ci; have zc2 := cj; refine WW ?_; clear zc1 zc2)
            exact ⟨by omega, rfl⟩
          | true =>
            rw [h2, Bool.true_and] at hno
            rw [h2] at cj
            rw [hno] at ck
            (have zc1 := ci; have zc2 := cj; have zc3 := ck; refine WW ?_; clear zc1 zc2 zc3)
            exact ⟨by omega, rfl⟩
      · rintro st ⟨hvq, rfl⟩
        exfalso; omega
    · have hno : ∀ v, v < rows.length → rkB rows s u v = false := fun v hv => by
        cases hcc : rkB rows s u v with
        | false => rfl
        | true => exact absurd ⟨hu, v, hv, hcc⟩ (hpm u (by omega))
      (refine WW ?_)
      (refine sim_cnt (rows.length) [] [] [0, 1, 6, 9, 10, 14] [15, 0, 1, 6, 9, 10, 14] rfl (fun i T U => ⟨(15, iA i) :: T, U⟩) ?_; (conv => whnf); refine ⟨by rfl, ?_, ?_⟩)
      · intro v hv
        have cj := rin_c s v hs (by omega)
        have ck := rconf_c rows (by omega) u v
        have h := hno v hv
        unfold rkB at h
        clear hno hc hqm hpm
        cases h3 : inS s u with
        | false =>
          rw [h3] at ci
          (have zc1 := ci; refine WW ?_; clear zc1)
          rfl
        | true =>
        rw [h3] at ci
        rw [h3, Bool.true_and] at h
        cases h2 : inS s v with
        | false =>
          rw [h2] at cj
          (have zc1 := ci; have zc2 := cj; refine WW ?_; clear zc1 zc2)
          rfl
        | true =>
          rw [h2] at cj
          rw [h2, Bool.true_and] at h
          rw [h] at ck
          (have zc1 := ci; have zc2 := cj; have zc3 := ck; refine WW ?_; clear zc1 zc2 zc3)
          rfl
      · (refine WW ?_)
        exact ⟨by omega, rfl⟩
  · rintro st ⟨hup, rfl⟩
    exfalso; omega
theorem ckB_rk {j : Jn} (J : JV j) (s : Int) (a b : Nat) (ha : a < j.cf.length) : ckB j.cf s a b = rkB j.cf s a b := by
  unfold ckB rkB
  by_cases h : b = a
  · subst h
    rw [J.ir b (by rw [← J.c]; exact ha)]
    simp
  · rw [decide_eq_true h, Bool.true_and]
theorem hasN_take (l : List Nat) (x : Int) (i : Nat) (hi : i < l.length) : hasN (l.take (i + 1)) x = (hasN (l.take i) x || (((l.getD i default : Nat) : Int) == x)) := by
  unfold hasN
  rw [← List.take_append_getElem hi, List.any_append]
  simp [List.getD, hi]
theorem rvalid_c (j : Jn) (J : JV j) (c : Ct) : CallSim Try.prog 41 [jnA j, ctA c] [] (bA (vcF j c)) [] := by
  have hlp := map_len phA j.ph
  have hll := map_len liA c.li
  have hln := map_len iA c.nx
  have hn8 := J.n
  have cg := rgroups_c j (by omega) J.gp
  have bad : ∀ b, vcF j c = b → b = vcF j c := fun _ h => h.symm
  by_cases h1 : c.li.length = j.ph.length
  case neg =>
    rw [show vcF j c = false by unfold vcF; rw [decide_eq_false (fun h => h1 h.1), Bool.false_and]]
    (refine callSim_of tok Try.func41 rfl (fun args w => Try.call41 args w) rfl rfl rfl (fun F hF => ?_))
    (refine WW ?_)
    exact fin_ret [] rfl rfl rfl rfl
  by_cases hg0 : 0 ≤ c.gr
  case neg =>
    rw [show vcF j c = false by unfold vcF; rw [decide_eq_false (fun h : 0 ≤ c.gr ∧ _ => hg0 h.1)]; simp]
    (refine callSim_of tok Try.func41 rfl (fun args w => Try.call41 args w) rfl rfl rfl (fun F hF => ?_))
    (refine WW ?_)
    exact fin_ret [] rfl rfl rfl rfl
  by_cases hg1 : c.gr < grF j
  case neg =>
    rw [show vcF j c = false by unfold vcF; rw [decide_eq_false (fun h : 0 ≤ c.gr ∧ _ => hg1 h.2)]; simp]
    generalize grF j = gm at *
    (refine callSim_of tok Try.func41 rfl (fun args w => Try.call41 args w) rfl rfl rfl (fun F hF => ?_))
    (have zc1 := cg; refine WW ?_; clear zc1)
    exact fin_ret [] rfl rfl rfl rfl
  by_cases h2 : c.nx.length = 2
  case neg =>
    rw [show vcF j c = false by unfold vcF; rw [decide_eq_false (fun h : _ ∧ c.nx.length = 2 => h2 h.2), Bool.false_and]]
    generalize grF j = gm at *
    (refine callSim_of tok Try.func41 rfl (fun args w => Try.call41 args w) rfl rfl rfl (fun F hF => ?_))
    (have zc1 := cg; refine WW ?_; clear zc1)
    exact fin_ret [] rfl rfl rfl rfl
  by_cases hw0 : 0 ≤ c.wt
  case neg =>
    rw [show vcF j c = false by unfold vcF; rw [decide_eq_false (fun h : 0 ≤ c.wt ∧ _ => hw0 h.1)]; simp]
    generalize grF j = gm at *
    (refine callSim_of tok Try.func41 rfl (fun args w => Try.call41 args w) rfl rfl rfl (fun F hF => ?_))
    (have zc1 := cg; refine WW ?_; clear zc1)
    exact fin_ret [] rfl rfl rfl rfl
  by_cases hw1 : c.wt ≤ j.st
  case neg =>
    rw [show vcF j c = false by unfold vcF; rw [decide_eq_false (fun h : 0 ≤ c.wt ∧ _ => hw1 h.2)]; simp]
    generalize grF j = gm at *
    (refine callSim_of tok Try.func41 rfl (fun args w => Try.call41 args w) rfl rfl rfl (fun F hF => ?_))
    (have zc1 := cg; refine WW ?_; clear zc1)
    exact fin_ret [] rfl rfl rfl rfl
  have cs := rset_c c (by omega)
  have hsb := bsF_bd (stB c) c.li.length (by omega)
  have hp8 := p2_8 (n := c.li.length) (by omega)
  change 0 ≤ seF c ∧ seF c < p2 c.li.length at hsb
  obtain ⟨cp, cq, cc, hcl⟩ := rclash_ex j.cf (by have := J.c; omega) (seF c) (by omega)
  have hnc : ncF j c = decide (cp = -1) := by
    unfold ncF
    rcases hcl with ⟨h3, h4⟩ | ⟨h3, a, b, ha, hb, h4⟩
    · rw [decide_eq_true h3, List.all_eq_true]
      intro a ha
      rw [List.all_eq_true]
      intro b hb
      rw [ckB_rk J _ a b (List.mem_range.1 ha), h4 a b (List.mem_range.1 ha) (List.mem_range.1 hb)]; rfl
    · rw [decide_eq_false (by omega), List.all_eq_false]
      refine ⟨a, List.mem_range.2 ha, ?_⟩
      rw [Bool.not_eq_true, List.all_eq_false]
      exact ⟨b, List.mem_range.2 hb, by rw [ckB_rk J _ a b ha, h4]; decide⟩
  have hcp : cp = -1 ∨ 0 ≤ cp := by
    rcases hcl with h | h
    · exact .inl h.1
    · exact .inr h.1
  clear hcl
  have ev : vcF j c = (nvF j c && ((List.range 2).all (nxO j c) && (decide (cp = -1) && (decide (c.wt = 0) || decide (seF c = 0))))) := by
    unfold vcF
    rw [decide_eq_true ⟨h1, h2⟩, decide_eq_true ⟨hg0, hg1⟩, decide_eq_true ⟨hw0, hw1⟩, hnc, seF_ar c (by omega)]
    simp only [Bool.true_and]
    generalize nvF j c = u
    generalize (List.range 2).all (nxO j c) = v
    generalize decide (cp = -1) = w
    cases u <;> cases v <;> cases w <;> rfl
  rw [ev]
  clear ev bad hnc
  generalize seF c = se at *
  generalize grF j = gm at *
  (refine callSim_of tok Try.func41 rfl (fun args w => Try.call41 args w) rfl rfl rfl (fun F hF => ?_))
  (have zc1 := cg; refine WW ?_; clear zc1)
  (refine sim_cntP (j.ph.length) [2, 3] [2, 3] [2, 3, 52, 53] [54, 2, 3, 52, 53] rfl (fun i T U zs => (∀ s : Nat, s < i → lvF (phO j s) (liO c s) = true) ∧ zs = ⟨(54, iA i) :: T, U⟩) ?_; (conv => whnf); refine ⟨?_, ?_, ?_⟩)
  · exact ⟨fun s hs => absurd hs (Nat.not_lt_zero _), rfl⟩
  · rintro i st hi ⟨hp, rfl⟩
    have hy := map_at phA j.ph i hi
    have hyl := map_at liA c.li i (by omega)
    change (j.ph.map phA)[i]? = some (phA (phO j i)) at hy
    change (c.li.map liA)[i]? = some (liA (liO c i)) at hyl
    have cv := rlvalid_c (phO j i) (liO c i)
    cases hq : lvF (phO j i) (liO c i) with
    | true =>
      rw [hq] at cv
      have hp2 : ∀ s : Nat, s < i + 1 → lvF (phO j s) (liO c s) = true := fun s hs => by
        by_cases hsi : s = i
        · subst hsi; assumption
        · exact hp s (by omega)
      clear hq hp
      generalize phO j i = t at *
      generalize liO c i = l at *
      clear cs cc cg
      (have zc1 := cv; refine WW ?_; clear zc1)
      exact ⟨hp2, rfl⟩
    | false =>
      have hnv : nvF j c = false := List.all_eq_false.2 ⟨i, List.mem_range.2 hi, by rw [hq]; decide⟩
      rw [hq] at cv
      rw [hnv, Bool.false_and]
      clear hq hp
      generalize phO j i = t at *
      generalize liO c i = l at *
      clear cs cc cg
      (have zc1 := cv; refine WW ?_; clear zc1)
      exact fin_ret [] rfl rfl rfl rfl
  · rintro st ⟨hp, rfl⟩
    have hnv : nvF j c = true := List.all_eq_true.2 fun i hi => hp i (List.mem_range.1 hi)
    rw [hnv, Bool.true_and]
    clear hp hnv
    (refine WW ?_)
    (refine sim_cntP (c.nx.length) [2, 3] [2, 3] [2, 3, 69, 70] [71, 2, 3, 69, 70] rfl (fun i T U zs => (∀ s : Nat, s < i → nxO j c s = true) ∧ zs = ⟨(71, iA i) :: T, U⟩) ?_; (conv => whnf); refine ⟨?_, ?_, ?_⟩)
    · exact ⟨fun s hs => absurd hs (Nat.not_lt_zero _), rfl⟩
    · rintro i st hi ⟨hp, rfl⟩
      have hy := map_at iA c.nx i hi
      have co := rof_c j (by omega) i c.gr
      have hlen : (ofN j i c.gr j.ph.length).length ≤ 1000 := by
        have : (ofN j i c.gr j.ph.length).length ≤ (List.range j.ph.length).length := List.length_filter_le _ _
        rw [List.length_range] at this
        omega
      have next : nxO j c i = true → ∀ s : Nat, s < i + 1 → nxO j c s = true := fun h s hs => by
        by_cases hsi : s = i
        · subst hsi; exact h
        · exact hp s (by omega)
      have stop : nxO j c i = false → ((List.range 2).all (nxO j c)) = false := fun h => List.all_eq_false.2 ⟨i, List.mem_range.2 (by omega), by rw [h]; decide⟩
      have ex : nxO j c i = (decide (c.nx.getD i default = -1) || hasN (ofN j i c.gr j.ph.length) (c.nx.getD i default)) := rfl
      clear hp cs cc cg
      generalize ofN j i c.gr j.ph.length = o at *
      generalize c.nx.getD i default = x at *
      generalize nxO j c i = q at *
      have hlo := map_len nA o
      obtain ⟨m, hm⟩ : ∃ m, decide (x = -1) = m := ⟨_, rfl⟩
      rw [hm] at ex
      have hh0 : (m || hasN (o.take 0) x) = m := by cases m <;> rfl
      have hhN : hasN (o.take o.length) x = hasN o x := by rw [List.take_length]
      rw [← hhN] at ex
      by_cases hx : x = -1
      · have hm2 : m = true := by rw [← hm]; exact decide_eq_true hx
        clear hm
        subst hm2
        (have zc1 := co; refine WW ?_; clear zc1)
        (refine sim_cnt (o.length) [2, 3] [2, 3] [2, 3, 8, 69, 70, 71, 82, 83] [9, 84, 2, 3, 8, 69, 70, 71, 82, 83] rfl (fun i T U => ⟨(9, bA (true || hasN (o.take i) x)) :: (84, iA i) :: T, U⟩) ?_; (conv => whnf); refine ⟨by (rw [hh0]; rfl), ?_, ?_⟩)
        · intro u hu
          have hyo := map_at nA o u hu
          have ht := hasN_take o x u hu
          rw [ht]
          generalize hasN (o.take u) x = b at *
          generalize o.getD u default = y at *
          change (o.map nA)[u]? = some (iA (y : Int)) at hyo
          clear next stop ex hh0 hhN co ht
          by_cases hyx : (y : Int) = x
          · rw [show ((y : Int) == x) = true by rw [beq_iff_eq]; exact hyx]
            cases b with
            | false =>
              (refine WW ?_)
              rfl
            | true =>
              (refine WW ?_)
              rfl
          · rw [show ((y : Int) == x) = false by rw [beq_eq_false_iff_ne]; exact hyx]
            cases b with
            | false =>
              (refine WW ?_)
              rfl
            | true =>
              (refine WW ?_)
              rfl
        · rw [hhN] at *
          generalize hasN o x = b at *
          cases b with
          | true =>
            have hnx := next (by rw [ex]; rfl)
            clear next stop ex hh0 co
            (refine WW ?_)
            exact ⟨hnx, rfl⟩
          | false =>
            have hnx := next (by rw [ex]; rfl)
            clear next stop ex hh0 co
            (refine WW ?_)
            exact ⟨hnx, rfl⟩
      · have hm2 : m = false := by rw [← hm]; exact decide_eq_false hx
        clear hm
        subst hm2
        (have zc1 := co; refine WW ?_; clear zc1)
        (refine sim_cnt (o.length) [2, 3] [2, 3] [2, 3, 8, 69, 70, 71, 82, 83] [9, 84, 2, 3, 8, 69, 70, 71, 82, 83] rfl (fun i T U => ⟨(9, bA (false || hasN (o.take i) x)) :: (84, iA i) :: T, U⟩) ?_; (conv => whnf); refine ⟨by (rw [hh0]; rfl), ?_, ?_⟩)
        · intro u hu
          have hyo := map_at nA o u hu
          have ht := hasN_take o x u hu
          rw [ht]
          generalize hasN (o.take u) x = b at *
          generalize o.getD u default = y at *
          change (o.map nA)[u]? = some (iA (y : Int)) at hyo
          clear next stop ex hh0 hhN co ht
          by_cases hyx : (y : Int) = x
          · rw [show ((y : Int) == x) = true by rw [beq_iff_eq]; exact hyx]
            cases b with
            | false =>
              (refine WW ?_)
              rfl
            | true =>
              (refine WW ?_)
              rfl
          · rw [show ((y : Int) == x) = false by rw [beq_eq_false_iff_ne]; exact hyx]
            cases b with
            | false =>
              (refine WW ?_)
              rfl
            | true =>
              (refine WW ?_)
              rfl
        · rw [hhN] at *
          generalize hasN o x = b at *
          cases b with
          | true =>
            have hnx := next (by rw [ex]; rfl)
            clear next stop ex hh0 co
            (refine WW ?_)
            exact ⟨hnx, rfl⟩
          | false =>
            rw [stop (by rw [ex]; rfl), Bool.false_and]
            clear next stop ex hh0 co
            (refine WW ?_)
            exact fin_ret [] rfl rfl rfl rfl
    · rintro st ⟨hp, rfl⟩
      have hall : ((List.range 2).all (nxO j c)) = true := List.all_eq_true.2 fun i hi => hp i (by have := List.mem_range.1 hi; omega)
      rw [hall, Bool.true_and]
      clear hp hall cg
      by_cases hcq : cp = -1
      case neg =>
        rw [decide_eq_false hcq, Bool.false_and]
        (have zc1 := cs; have zc2 := cc; refine WW ?_; clear zc1 zc2)
        exact fin_ret [] rfl rfl rfl rfl
      rw [decide_eq_true hcq, Bool.true_and]
      by_cases hz : c.wt = 0
      · rw [decide_eq_true hz, Bool.true_or]
        (have zc1 := cs; have zc2 := cc; refine WW ?_; clear zc1 zc2)
        exact fin_ret [] rfl rfl rfl rfl
      rw [decide_eq_false hz, Bool.false_or]
      by_cases hse : se = 0
      · rw [decide_eq_true hse]
        (have zc1 := cs; have zc2 := cc; refine WW ?_; clear zc1 zc2)
        exact fin_ret [] rfl rfl rfl rfl
      · rw [decide_eq_false hse]
        (have zc1 := cs; have zc2 := cc; refine WW ?_; clear zc1 zc2)
        exact fin_ret [] rfl rfl rfl rfl
end Av
end Go.Proofs.Ytkliodbbcblobaa
