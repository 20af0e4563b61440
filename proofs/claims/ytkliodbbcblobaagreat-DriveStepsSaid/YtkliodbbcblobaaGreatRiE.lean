
/- Rings: which controls are valid, exactly. -/
import Derived.Test.YtkliodbbcblobaaGreatRiD
namespace Go.Proofs.YtkliodbbcblobaaGreat
namespace Av
set_option linter.unusedSimpArgs false
set_option linter.unusedVariables false
set_option maxRecDepth 4000
set_option maxHeartbeats 1000000
def nvF (j : Jn) (c : Ct) : Bool := (List.range j.ph.length).all fun p => lvF (phO j p) (liO c p)
def ncF (j : Jn) (c : Ct) : Bool := (List.range j.cf.length).all fun a => (List.range j.cf.length).all fun b => !ckB j.cf (seF c) a b
def nxO (j : Jn) (c : Ct) (r : Nat) : Bool := decide (c.nx.getD r default = -1) || hasN (ofN j r c.gr j.ph.length) (c.nx.getD r default)
def vcF (j : Jn) (c : Ct) : Bool := decide (c.li.length = j.ph.length ∧ c.nx.length = 2) && (nvF j c && (ncF j c && (decide (0 ≤ c.gr ∧ c.gr < grF j) && ((List.range 2).all (nxO j c) && (decide (0 ≤ c.wt ∧ c.wt ≤ j.st) && (decide (c.wt = 0) || arF c))))))
/-- What is asked of a junction that controls are looked at for. -/
structure JB (j : Jn) : Prop where
  n : j.ph.length ≤ 8
  c : j.cf.length ≤ 8
  gp : ∀ p : Nat, p < j.ph.length → 0 ≤ (phO j p).group ∧ (phO j p).group ≤ 3
theorem JV.b {j : Jn} (J : JV j) : JB j := ⟨J.n.2, by rw [J.c]; exact J.n.2, J.gp⟩
theorem p2_8 {n : Nat} (h : n ≤ 8) : p2 (n : Int) ≤ 256 := by
  have : n = 0 ∨ n = 1 ∨ n = 2 ∨ n = 3 ∨ n = 4 ∨ n = 5 ∨ n = 6 ∨ n = 7 ∨ n = 8 := by omega
  rcases this with rfl | rfl | rfl | rfl | rfl | rfl | rfl | rfl | rfl <;> decide
theorem vring_c (j : Jn) (J : JB j) (c : Ct) : CallSim Tryz.prog 59 [jnA j, ctA c] [] (bA (vcF j c)) [] := by
  have hlp := map_len phA j.ph
  have hll := map_len liA c.li
  have hln := map_len iA c.nx
  have hn8 := J.n
  unfold vcF
  by_cases h1 : c.li.length = j.ph.length
  case neg =>
    rw [decide_eq_false (fun h => h1 h.1)]
    (refine callSim_of tok Tryz.func59 rfl (fun args w => Tryz.call59 args w) rfl rfl rfl (fun F hF => ?_))
    (refine WW ?_)
    exact fin_ret [] rfl rfl rfl rfl
  by_cases h2 : c.nx.length = 2
  case neg =>
    rw [decide_eq_false (fun h => h2 h.2)]
    (refine callSim_of tok Tryz.func59 rfl (fun args w => Tryz.call59 args w) rfl rfl rfl (fun F hF => ?_))
    (refine WW ?_)
    exact fin_ret [] rfl rfl rfl rfl
  rw [decide_eq_true ⟨h1, h2⟩, Bool.true_and]
  have cs := set_c c (by omega)
  have hsb := bsF_bd (stB c) c.li.length (by omega)
  have hp8 := p2_8 (n := c.li.length) (by omega)
  change 0 ≤ seF c ∧ seF c < p2 c.li.length at hsb
  obtain ⟨cp, cq, cc, hcl⟩ := clash_ex j.cf J.c (seF c) (by omega)
  have hnc : ncF j c = decide (cp = -1) := by
    unfold ncF
    rcases hcl with ⟨h3, h4⟩ | ⟨h3, a, b, ha, hb, h4⟩
    · rw [decide_eq_true h3, List.all_eq_true]
      intro a ha
      rw [List.all_eq_true]
      intro b hb
      rw [h4 a b (List.mem_range.1 ha) (List.mem_range.1 hb)]; rfl
    · rw [decide_eq_false (by omega), List.all_eq_false]
      refine ⟨a, List.mem_range.2 ha, ?_⟩
      rw [Bool.not_eq_true, List.all_eq_false]
      exact ⟨b, List.mem_range.2 hb, by rw [h4]; decide⟩
  have hcp : cp = -1 ∨ 0 ≤ cp := by
    rcases hcl with h | h
    · exact .inl h.1
    · exact .inr h.1
  have cg := groups_c j (by omega) J.gp
  have ca := allred_c c (by omega)
  clear hcl
  rw [hnc]
  generalize seF c = se at *
  generalize grF j = gm at *
  generalize hra : arF c = ra at *
  (refine callSim_of tok Tryz.func59 rfl (fun args w => Tryz.call59 args w) rfl rfl rfl (fun F hF => ?_))
  (refine WW ?_)
  (refine sim_cntP (j.ph.length) [2, 3] [2, 3] [2, 3, 25, 26] [27, 2, 3, 25, 26] rfl (fun i T U zs => (∀ s : Nat, s < i → lvF (phO j s) (liO c s) = true) ∧ zs = ⟨(27, iA i) :: T, U⟩) ?_; (conv => whnf); refine ⟨?_, ?_, ?_⟩)
  · exact ⟨fun s hs => absurd hs (Nat.not_lt_zero _), rfl⟩
  · rintro i st hi ⟨hp, rfl⟩
    have hy := map_at phA j.ph i hi
    have hyl := map_at liA c.li i (by omega)
    change (j.ph.map phA)[i]? = some (phA (phO j i)) at hy
    change (c.li.map liA)[i]? = some (liA (liO c i)) at hyl
    have cv := lvalid_c (phO j i) (liO c i)
    cases hq : lvF (phO j i) (liO c i) with
    | true =>
      rw [hq] at cv
      have hp2 : ∀ s : Nat, s < i + 1 → lvF (phO j s) (liO c s) = true := fun s hs => by
        by_cases hsi : s = i
        · subst hsi; assumption
        · exact hp s (by omega)
      clear hq hp
      generalize phO j i = t at *
      generalize liO c i = l at *
      clear cs cc cg ca
      (have zc1 := cv; refine WW ?_; clear zc1)
      exact ⟨hp2, rfl⟩
    | false =>
      have hnv : nvF j c = false := List.all_eq_false.2 ⟨i, List.mem_range.2 hi, by rw [hq]; decide⟩
      rw [hq] at cv
      rw [hnv, Bool.false_and]
      clear hq hp
      generalize phO j i = t at *
      generalize liO c i = l at *
      clear cs cc cg ca
      (have zc1 := cv; refine WW ?_; clear zc1)
      exact fin_ret [] rfl rfl rfl rfl
  · rintro st ⟨hp, rfl⟩
    have hnv : nvF j c = true := List.all_eq_true.2 fun i hi => hp i (List.mem_range.1 hi)
    rw [hnv, Bool.true_and]
    clear hp hnv
    by_cases hcq : cp = -1
    case neg =>
      rw [decide_eq_false hcq]
      (have zc1 := cs; have zc2 := cc; refine WW ?_; clear zc1 zc2)
      exact fin_ret [] rfl rfl rfl rfl
    rw [decide_eq_true hcq, Bool.true_and]
    by_cases hg0 : 0 ≤ c.gr
    case neg =>
      rw [decide_eq_false (fun h => hg0 h.1)]
      (have zc1 := cs; have zc2 := cc; have zc3 := cg; refine WW ?_; clear zc1 zc2 zc3)
      exact fin_ret [] rfl rfl rfl rfl
    by_cases hg1 : c.gr < gm
    case neg =>
      rw [decide_eq_false (fun h => hg1 h.2)]
      (have zc1 := cs; have zc2 := cc; have zc3 := cg; refine WW ?_; clear zc1 zc2 zc3)
      exact fin_ret [] rfl rfl rfl rfl
    rw [decide_eq_true ⟨hg0, hg1⟩, Bool.true_and]
    (have zc1 := cs; have zc2 := cc; have zc3 := cg; refine WW ?_; clear zc1 zc2 zc3)
    (refine sim_cntP (c.nx.length) [2, 3] [2, 3] [2, 3, 62, 63] [64, 2, 3, 62, 63] rfl (fun i T U zs => (∀ s : Nat, s < i → nxO j c s = true) ∧ zs = ⟨(64, iA i) :: T, U⟩) ?_; (conv => whnf); refine ⟨?_, ?_, ?_⟩)
    · exact ⟨fun s hs => absurd hs (Nat.not_lt_zero _), rfl⟩
    · rintro i st hi ⟨hp, rfl⟩
      have hy := map_at iA c.nx i hi
      have co := of_c j (by omega) i c.gr
      have hlen : (ofN j i c.gr j.ph.length).length ≤ 1000 := by
        have : (ofN j i c.gr j.ph.length).length ≤ (List.range j.ph.length).length := List.length_filter_le _ _
        rw [List.length_range] at this
        omega
      have ch := contains_c (ofN j i c.gr j.ph.length) hlen (c.nx.getD i default)
      have next : nxO j c i = true → ∀ s : Nat, s < i + 1 → nxO j c s = true := fun h s hs => by
        by_cases hsi : s = i
        · subst hsi; exact h
        · exact hp s (by omega)
      have stop : nxO j c i = false → ((List.range 2).all (nxO j c)) = false := fun h => List.all_eq_false.2 ⟨i, List.mem_range.2 (by omega), by rw [h]; decide⟩
      have ex : nxO j c i = (decide (c.nx.getD i default = -1) || hasN (ofN j i c.gr j.ph.length) (c.nx.getD i default)) := rfl
      clear hp cs cc cg ca
      generalize ofN j i c.gr j.ph.length = o at *
      generalize hasN o (c.nx.getD i default) = hb at *
      generalize c.nx.getD i default = x at *
      generalize nxO j c i = q at *
      by_cases hx : x = -1
      · rw [decide_eq_true hx] at ex
        have hnx := next ex
        (refine WW ?_)
        exact ⟨hnx, rfl⟩
      rw [decide_eq_false hx, Bool.false_or] at ex
      cases hb with
      | true =>
        have hnx := next ex
        (have zc1 := co; have zc2 := ch; refine WW ?_; clear zc1 zc2)
        exact ⟨hnx, rfl⟩
      | false =>
        rw [stop ex, Bool.false_and]
        (have zc1 := co; have zc2 := ch; refine WW ?_; clear zc1 zc2)
        exact fin_ret [] rfl rfl rfl rfl
    · rintro st ⟨hp, rfl⟩
      have hall : ((List.range 2).all (nxO j c)) = true := List.all_eq_true.2 fun i hi => hp i (by have := List.mem_range.1 hi; omega)
      rw [hall, Bool.true_and]
      clear hp hall
      by_cases hw0 : 0 ≤ c.wt
      case neg =>
        rw [decide_eq_false (fun h => hw0 h.1)]
        (refine WW ?_)
        exact fin_ret [] rfl rfl rfl rfl
      by_cases hw1 : c.wt ≤ j.st
      case neg =>
        rw [decide_eq_false (fun h => hw1 h.2)]
        (refine WW ?_)
        exact fin_ret [] rfl rfl rfl rfl
      rw [decide_eq_true ⟨hw0, hw1⟩, Bool.true_and]
      by_cases hz : c.wt = 0
      · rw [decide_eq_true hz]
        (refine WW ?_)
        exact fin_ret [] rfl rfl rfl rfl
      · rw [decide_eq_false hz, Bool.false_or]
        (have zc1 := ca; refine WW ?_; clear zc1)
        exact fin_ret [] rfl rfl rfl rfl
/-- Valid, as a statement. -/
theorem vcF_CV {j : Jn} (J : JV j) {c : Ct} (C : CV j c) : vcF j c = true := by
  have hn := C.n
  have hJ := J.n
  unfold vcF
  have h1 : nvF j c = true := List.all_eq_true.2 fun p hp => C.k p (List.mem_range.1 hp)
  have h2 : ncF j c = true := by
    unfold ncF
    rw [List.all_eq_true]
    intro a ha
    rw [List.all_eq_true]
    intro b hb
    have ha := List.mem_range.1 ha
    have hb := List.mem_range.1 hb
    rw [J.c] at ha hb
    have hin : ∀ p : Nat, p < j.ph.length → inS (seF c) p = stB c p := fun p hp => by
      unfold seF
      have e := bsF_ext (fun q => decide (q < c.li.length) && stB c q) c.li.length 8 (by omega) (fun i h1 h2 => by rw [decide_eq_false (by omega)]; rfl)
      have e2 : bsF (stB c) c.li.length = bsF (fun q => decide (q < c.li.length) && stB c q) c.li.length := bsF_congr _ fun i hi => by rw [decide_eq_true hi]; rfl
      rw [e2, ← e, inS_bs _ p (by omega), decide_eq_true (by omega)]; rfl
    rw [Bool.not_eq_true']
    unfold ckB
    rw [hin a ha, hin b hb]
    by_cases hab : b = a
    · rw [decide_eq_false (fun h => h hab)]; simp
    · cases hsa : stB c a with
      | false => rfl
      | true =>
        cases hsb : stB c b with
        | false => simp
        | true =>
          rw [C.x a b ha hb (fun h => hab h.symm) (by simpa [stB] using hsa) (by simpa [stB] using hsb)]
          simp
  have h3 : ((List.range 2).all (nxO j c)) = true := List.all_eq_true.2 fun r hr => by
    have hr := List.mem_range.1 hr
    unfold nxO
    rcases C.v r hr with h | h
    · rw [decide_eq_true h]; rfl
    · have : hasN (ofN j r c.gr j.ph.length) (c.nx.getD r default) = true := by
        unfold hasN
        rw [List.any_eq_true]
        obtain ⟨a, b, d, e⟩ := h
        refine ⟨(c.nx.getD r default).toNat, ?_, by rw [beq_iff_eq]; omega⟩
        unfold ofN
        rw [List.mem_filter, List.mem_range]
        refine ⟨by omega, ?_⟩
        rw [d, e]
        simp
      rw [this, Bool.or_true]
  rw [decide_eq_true ⟨hn, C.m⟩, h1, h2, decide_eq_true C.g, h3, decide_eq_true C.w]
  simp only [Bool.true_and]
  rcases C.z with h | h
  · rw [decide_eq_true h]; rfl
  · have : arF c = true := by
      unfold arF
      rw [List.all_eq_true]
      intro l hl
      obtain ⟨i, hi, rfl⟩ := List.getElem_of_mem hl
      have := h i (by omega)
      simpa [liO, List.getD, hi] using this
    rw [this, Bool.or_true]
end Av
end Go.Proofs.YtkliodbbcblobaaGreat
