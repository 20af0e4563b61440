/- law22: how long a phase that is served waits; plain Lean. -/
import Derived.Test.YtkliodbbcblobaaDrA
import Derived.Test.YtkliodbbcblobaaWoB
namespace Go.Proofs.Ytkliodbbcblobaa
namespace Av
set_option linter.unusedSimpArgs false
set_option linter.unusedVariables false
set_option maxRecDepth 4000
set_option maxHeartbeats 1000000
theorem dec_keep (g : Cf) (s : Sv) (l : List Cl) (now : Int) : ((decF g s l now).ph = s.ph ∧ (decF g s l now).gr = s.gr) ∨ (decF g s l now).gr = 0 := by
  have h1 := dec1_ph g s l now
  unfold decF
  split
  · exact .inr rfl
  · rcases h1 with h | h
    · exact .inl h
    · exact .inr h.2
/-- Without stuck phases a tick is a step with the phase that is served as target. -/
theorem dv_calm {j : Jn} (J : JV j) {s : Sg} (C : CV j s.c) (hl : s.lat = false) (g : Cf) (v : Sv) (c : List Cl) (now : Int) : dvF g j s v c (-1) now = (⟨stF j s.c (decF g v c now).ph, false⟩, cntF (decF g v c now) (grB ⟨stF j s.c (decF g v c now).ph, false⟩ (decF g v c now))) := by
  have e : sjF j s (decF g v c now).ph (-1) = ⟨stF j s.c (decF g v c now).ph, false⟩ := by
    unfold sjF
    rw [if_neg (by rw [hl]; exact Bool.false_ne_true), fb_calm J (cv_st J C _)]
  unfold dvF
  rw [if_neg (by rw [hl]; exact Bool.false_ne_true), e, if_neg Bool.false_ne_true]
def wtF (v x : Sv) (w : Int) : Int := (if x.ph < 0 ∨ x.ph ≠ v.ph ∨ 0 < x.gr then 0 else w) + (if 0 ≤ x.ph ∧ x.gr = 0 then 1 else 0)
structure RI (j : Jn) (s : Sg) (v : Sv) (w : Int) : Prop where
  C : CV j s.c
  l : s.lat = false
  g : 0 ≤ v.ph → (0 < v.gr ↔ (liO s.c v.ph.toNat).lamp = 1)
  w0 : 0 ≤ w
  w1 : w = 0 ∨ ∃ (t k : Nat) (c : Ct), v.ph = t ∧ w = k ∧ CV j c ∧ s.c = stI j c t k ∧ ∀ i, 1 ≤ i → i ≤ k → (liO (stI j c t i) t).lamp ≠ 1
theorem RI.le {j : Jn} (J : JV j) {s : Sg} {v : Sv} {w : Int} (R : RI j s v w) (hp : v.ph < j.ph.length) : w ≤ trF j := by
  rcases R.w1 with h | ⟨t, k, c, h1, h2, C, _, h4⟩
  · have := trF_pos J; have := J.st; omega
  · have ht : t < j.ph.length := by omega
    obtain ⟨n, n1, n2⟩ := reach J C ht
    by_cases hk : n < k
    · exfalso
      have h5 := stay_k J (stI_v J C t n) ht n2 (k - n)
      rw [stI_add, show n + (k - n) = k by omega] at h5
      exact h4 k (by omega) (Nat.le_refl _) h5
    · omega
theorem RI.step {j : Jn} (J : JV j) {s : Sg} {v : Sv} {w : Int} (R : RI j s v w) (g : Cf) (c : List Cl) (now : Int) (hv : 0 ≤ v.gr) (hu : (decF g v c now).ph < j.ph.length) (hg : 0 ≤ (decF g v c now).gr) (hm : -1 ≤ (decF g v c now).ph) :
    RI j (dvF g j s v c (-1) now).1 (dvF g j s v c (-1) now).2 (wtF v (dvF g j s v c (-1) now).2 w) := by
  rw [dv_calm J R.C R.l]
  have hk := dec_keep g v c now
  have X := cv_st J R.C (decF g v c now).ph
  have hx := X.n
  dsimp only
  generalize decF g v c now = u at *
  have hgr : grB ⟨stF j s.c u.ph, false⟩ u = decide (0 ≤ u.ph ∧ (liO (stF j s.c u.ph) u.ph.toNat).lamp = 1) := by
    unfold grB
    dsimp only
    rw [hx, Bool.eq_iff_iff]
    simp only [Bool.and_eq_true, decide_eq_true_eq, beq_iff_eq]
    omega
  obtain ⟨e1, e2⟩ := cnt_en u (grB ⟨stF j s.c u.ph, false⟩ u)
  have hgg : 0 ≤ u.ph → (0 < (cntF u (grB ⟨stF j s.c u.ph, false⟩ u)).gr ↔ (liO (stF j s.c u.ph) u.ph.toNat).lamp = 1) := fun h0 => by
    obtain ⟨t, ht⟩ : ∃ t : Nat, u.ph = t := ⟨u.ph.toNat, by omega⟩
    unfold cntF
    rw [hgr]
    by_cases hl : (liO (stF j s.c u.ph) u.ph.toNat).lamp = 1
    · rw [decide_eq_true ⟨h0, hl⟩, if_pos ⟨rfl, by omega⟩]
      exact ⟨fun _ => hl, fun _ => by dsimp only; omega⟩
    · rw [decide_eq_false (fun h => hl h.2), if_neg (fun h => Bool.false_ne_true h.1)]
      refine ⟨fun h => absurd ?_ hl, fun h => absurd h hl⟩
      rcases hk with ⟨k1, k2⟩ | k2
      · have h5 := (R.g (by omega)).1 (by omega)
        rw [← k1, ht, Int.toNat_natCast] at h5
        rw [ht, Int.toNat_natCast]
        exact st_stay J R.C (by omega) h5
      · omega
  have hx0 : 0 ≤ (cntF u (grB ⟨stF j s.c u.ph, false⟩ u)).gr := by
    unfold cntF
    split
    · dsimp only; omega
    · exact hg
  generalize cntF u (grB ⟨stF j s.c u.ph, false⟩ u) = x at *
  rw [← e2] at hgg hu hm hx X ⊢
  have hlp : (0 ≤ x.ph ∧ x.gr = 0) → ∃ t : Nat, x.ph = t ∧ t < j.ph.length ∧ (liO (stF j s.c t) t).lamp ≠ 1 := fun ⟨h1, h2⟩ => by
    obtain ⟨t, ht⟩ : ∃ t : Nat, x.ph = t := ⟨x.ph.toNat, by omega⟩
    refine ⟨t, ht, by omega, fun h => ?_⟩
    have := (hgg h1).2 (by rw [ht, Int.toNat_natCast]; exact h)
    omega
  have hw0 := R.w0
  have hw1 := R.w1
  refine ⟨X, rfl, hgg, ?_, ?_⟩
  · unfold wtF
    split <;> split <;> omega
  · unfold wtF
    by_cases hc : 0 ≤ x.ph ∧ x.gr = 0
    · rw [if_pos hc]
      obtain ⟨t, ht, htn, hnl⟩ := hlp hc
      right
      by_cases hr : x.ph < 0 ∨ x.ph ≠ v.ph ∨ 0 < x.gr
      · rw [if_pos hr]
        refine ⟨t, 1, s.c, ht, by omega, R.C, by rw [ht]; rfl, fun i h1 h2 => ?_⟩
        rw [show i = 1 by omega]
        exact hnl
      · rw [if_neg hr]
        rcases hw1 with h | ⟨t', k, c', h1, h2, C', h3, h4⟩
        · refine ⟨t, 1, s.c, ht, by omega, R.C, by rw [ht]; rfl, fun i h1 h2 => ?_⟩
          rw [show i = 1 by omega]
          exact hnl
        · have htt : t' = t := by omega
          subst htt
          refine ⟨t', k + 1, c', ht, by omega, C', ?_, fun i i1 i2 => ?_⟩
          · rw [ht, h3]; rfl
          · by_cases e : i = k + 1
            · subst e
              show (liO (stF j (stI j c' t' k) t') t').lamp ≠ 1
              rw [← h3]
              exact hnl
            · exact h4 i i1 (by omega)
    · rw [if_neg hc]
      left
      rw [if_pos (by
        by_cases h1 : x.ph < 0
        · exact .inl h1
        · refine .inr (.inr ?_)
          omega)]
      rfl
end Av
end Go.Proofs.Ytkliodbbcblobaa
