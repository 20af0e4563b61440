
/- law11: plain laws of signals; the sanity check. -/
import Derived.Test.YtkliodbbcblobaaGreatJuB
import Derived.Test.YtkliodbbcblobaaGreatRi0
import Derived.Test.YtkliodbbcblobaaGreatAvq
namespace Go.Proofs.YtkliodbbcblobaaGreat
namespace Av
set_option linter.unusedSimpArgs false
set_option linter.unusedVariables false
set_option maxRecDepth 4000
set_option maxHeartbeats 1000000
theorem nr_of {l : Int} (h : nrB l = true) : l ≠ 0 := by
  unfold nrB at h
  rw [decide_eq_true_eq] at h
  omega
theorem cf_at {j : Jn} (J : JV j) (p q : Nat) (hp : p < j.ph.length) (hq : q < j.ph.length) : cfP j.cf p q = (andI (shrI (j.cf.getD p default) q) 1 == 1) := by
  unfold cfP
  rw [decide_eq_true ⟨by omega, by omega, by rw [J.c]; omega, by rw [J.c]; omega⟩, Bool.true_and, Int.toNat_natCast]
/-- Two phases of a valid control of which both are green or yellow do not conflict. -/
theorem cv_pair {j : Jn} (J : JV j) {c : Ct} (C : CV j c) (p q : Nat) (hp : p < j.ph.length) (hq : q < j.ph.length) : (nrB (liO c p).lamp && (nrB (liO c q).lamp && cfP j.cf p q)) = false := by
  cases h1 : nrB (liO c p).lamp with
  | false => rfl
  | true =>
  cases h2 : nrB (liO c q).lamp with
  | false => rfl
  | true =>
  rw [Bool.true_and, Bool.true_and]
  by_cases hpq : p = q
  · subst hpq; exact J.ir p hp
  · exact C.x p q hp hq hpq (nr_of h1) (nr_of h2)
theorem fb_calm {j : Jn} (J : JV j) {c : Ct} (C : CV j c) : fbF j.cf (seenF c.li (-1)) = false := by
  unfold fbF
  rw [List.any_eq_false]
  intro p hp
  rw [Bool.not_eq_true, List.any_eq_false]
  intro q hq
  have hp := List.mem_range.1 hp
  have hq := List.mem_range.1 hq
  rw [seen_len] at hp hq
  unfold fpB
  rw [seen_at _ _ _ hp, seen_at _ _ _ hq]
  have hn := C.n
  have := cv_pair J C p q (by omega) (by omega)
  unfold snF
  rw [if_neg (by omega), if_neg (by omega), Bool.not_eq_true]
  exact this
/-- What the law looks for: a phase that conflicts with the stuck one. -/
def wtO (j : Jn) (c : Ct) (k : Int) (p : Nat) : Bool := decide (0 ≤ k ∧ (p : Int) ≠ k) && (cfP j.cf k p && nrB (liO c p).lamp)
def wtB (j : Jn) (c : Ct) (k : Int) : Nat → Bool
  | 0 => false
  | i + 1 => wtB j c k i || wtO j c k i
theorem wt_iff (j : Jn) (c : Ct) (k : Int) : ∀ n, wtB j c k n = true ↔ ∃ p, p < n ∧ wtO j c k p = true
  | 0 => ⟨fun h => (nomatch h), fun ⟨p, h, _⟩ => absurd h (Nat.not_lt_zero _)⟩
  | n + 1 => by
    show (wtB j c k n || wtO j c k n) = true ↔ _
    rw [Bool.or_eq_true, wt_iff j c k n]
    constructor
    · rintro (⟨p, h1, h2⟩ | h)
      · exact ⟨p, by omega, h2⟩
      · exact ⟨n, by omega, h⟩
    · rintro ⟨p, h1, h2⟩
      by_cases e : p = n
      · subst e; exact .inr h2
      · exact .inl ⟨p, by omega, h2⟩
theorem fb_wt {j : Jn} (J : JV j) {c : Ct} (C : CV j c) (k : Int) (hk : -1 ≤ k ∧ k < j.ph.length) : fbF j.cf (seenF c.li k) = wtB j c k c.li.length := by
  have hn := C.n
  rw [Bool.eq_iff_iff, wt_iff]
  constructor
  · intro h
    obtain ⟨p, q, hp, hq, hpq, _, _⟩ := fb_yes h
    rw [seen_len] at hp hq
    unfold fpB at hpq
    rw [seen_at _ _ _ hp, seen_at _ _ _ hq, Bool.and_eq_true, Bool.and_eq_true] at hpq
    obtain ⟨h1, h2, h3⟩ := hpq
    unfold snF at h1 h2
    have hno := cv_pair J C p q (by omega) (by omega)
    by_cases e1 : (p : Int) = k
    · have e2 : (q : Int) ≠ k := fun e => by
        have : p = q := by omega
        subst this
        rw [J.ir p (by omega)] at h3; cases h3
      rw [if_neg e2] at h2
      refine ⟨q, hq, ?_⟩
      unfold wtO
      rw [decide_eq_true ⟨by omega, e2⟩, ← e1, h3]
      exact h2
    · rw [if_neg e1] at h1
      by_cases e2 : (q : Int) = k
      · refine ⟨p, hp, ?_⟩
        unfold wtO
        rw [decide_eq_true ⟨by omega, e1⟩, ← e2, J.sy q p (by omega) (by omega), h3]
        exact h1
      · rw [if_neg e2] at h2
        unfold liO at hno
        rw [h1, h2, h3] at hno
        cases hno
  · rintro ⟨p, hp, h⟩
    unfold wtO at h
    rw [Bool.and_eq_true, Bool.and_eq_true, decide_eq_true_eq] at h
    obtain ⟨⟨h0, h1⟩, h2, h3⟩ := h
    obtain ⟨kk, rfl⟩ : ∃ n : Nat, k = n := ⟨k.toNat, by omega⟩
    unfold fbF
    rw [List.any_eq_true]
    refine ⟨kk, List.mem_range.2 (by rw [seen_len]; omega), ?_⟩
    rw [List.any_eq_true]
    refine ⟨p, List.mem_range.2 (by rw [seen_len]; omega), ?_⟩
    unfold fpB
    rw [seen_at _ _ _ (by omega), seen_at _ _ _ hp]
    unfold snF
    rw [if_pos rfl, if_neg h1, h2, Bool.and_true]
    exact h3
/-- Where nothing forbidden is seen nothing that is shown conflicts. -/
theorem fb_safe {j : Jn} (J : JV j) {c : Ct} (C : CV j c) (p q : Nat) (hp : p < j.ph.length) (hq : q < j.ph.length) (h1 : nrB (liO c p).lamp = true) (h2 : nrB (liO c q).lamp = true) : cfP j.cf p q = false := by
  have := cv_pair J C p q hp hq
  rw [h1, h2] at this
  exact this
theorem sj_v {j : Jn} (J : JV j) {s : Sg} (C : CV j s.c) (t k : Int) : CV j (sjF j s t k).c := by
  unfold sjF
  split
  · exact C
  · exact cv_st J C t
theorem sr_v {j : Jn} (J : JV j) {s : Sg} (C : CV j s.c) : CV j (srF j s).c := by
  unfold srF
  split
  · exact cv_in J
  · exact C
/-! ### The sanity check -/
def ph1 : Ph := ⟨0, 0, 2, 3, 1, 0, 0, 0⟩
def j1 : Jn := ⟨[ph1, ph1], [2, 1], 0⟩
theorem two1 {p : Nat} (h : p < j1.ph.length) : p = 0 ∨ p = 1 := by
  have : j1.ph.length = 2 := rfl
  omega
theorem jv1 : JV j1 := by
  refine ⟨by decide, rfl, fun i hi => ?_, fun p hp => ?_, fun p q hp hq => ?_, fun p q hp hq hpq _ => ?_, fun p hp => ?_, fun p hp => ?_, fun p hp => ?_, fun p hp g hg0 hg => ?_, by decide⟩
  · rcases two1 hi with rfl | rfl <;> decide
  · rcases two1 hp with rfl | rfl <;> decide
  · rcases two1 hp with rfl | rfl <;> rcases two1 hq with rfl | rfl <;> decide
  · rcases two1 hp with rfl | rfl <;> rcases two1 hq with rfl | rfl
    · exact absurd rfl hpq
    · decide
    · decide
    · exact absurd rfl hpq
  · rcases two1 hp with rfl | rfl <;> decide
  · rcases two1 hp with rfl | rfl <;> decide
  · rcases two1 hp with rfl | rfl <;> decide
  · exfalso
    have : (phO j1 p).group = 0 := by rcases two1 hp with rfl | rfl <;> rfl
    omega
def cJ1 : Ct := stF j1 (inF j1) 0
def cJ2 : Ct := stF j1 cJ1 0
theorem sJ1 : sjF j1 (newS j1) 0 (-1) = ⟨cJ1, false⟩ := by
  unfold sjF
  rw [if_neg (show ¬ (newS j1).lat = true by decide)]
  rw [show fbF j1.cf (seenF (stF j1 (newS j1).c 0).li (-1)) = false by decide +kernel]
  rfl
theorem sJ2 : sjF j1 ⟨cJ1, false⟩ 0 1 = ⟨cJ2, true⟩ := by
  unfold sjF
  rw [if_neg (show ¬ ((⟨cJ1, false⟩ : Sg).lat = true) by decide)]
  rw [show fbF j1.cf (seenF (stF j1 (⟨cJ1, false⟩ : Sg).c 0).li 1) = true by decide +kernel]
  rfl
end Av
end Go.Proofs.YtkliodbbcblobaaGreat
