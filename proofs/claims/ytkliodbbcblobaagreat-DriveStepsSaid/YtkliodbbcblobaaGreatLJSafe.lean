
/- The law JunctionSafe. -/
import Derived.Test.YtkliodbbcblobaaGreatJuC
namespace Go.Proofs.YtkliodbbcblobaaGreat
namespace Av
set_option linter.unusedSimpArgs false
set_option linter.unusedVariables false
set_option maxRecDepth 4000
set_option maxHeartbeats 1000000
theorem quo_r {a : Int} (h : InR .i64 a) (n : Int) (hn : 1 ≤ n) : InR .i64 (a.tdiv n) := by
  unfold InR at h ⊢
  have e1 : IntKind.i64.min = -9223372036854775808 := by decide
  have e2 : IntKind.i64.max = 9223372036854775807 := by decide
  rw [e1, e2] at *
  have h1 : (a.tdiv n).natAbs ≤ a.natAbs := by
    rw [Int.natAbs_tdiv]
    exact Nat.div_le_self _ _
  by_cases hb : 0 ≤ a
  · have h3 : 0 ≤ a.tdiv n := Int.tdiv_nonneg hb (by omega)
    omega
  · have h3 : a.tdiv n ≤ 0 := by
      have := Int.tdiv_nonneg (a := -a) (b := n) (by omega) (by omega)
      rw [Int.neg_tdiv] at this
      omega
    omega
/-- What is shown green or yellow. -/
def ssB (s : Sg) (p : Nat) : Bool := nrB ((laF s).getD p default)
theorem la_at (s : Sg) (p : Nat) (hp : p < s.c.li.length) : (laF s).getD p default = laO s.lat (liO s.c p) := by
  unfold laF liO
  simp [List.getD_eq_getElem?_getD, hp]
theorem ss_safe {j : Jn} (J : JV j) {s : Sg} (C : CV j s.c) (p q : Nat) (hp : p < j.ph.length) (hq : q < j.ph.length) : (ssB s p && (ssB s q && cfP j.cf p q)) = false := by
  have hn := C.n
  unfold ssB
  rw [la_at s p (by omega), la_at s q (by omega)]
  unfold laO
  cases s.lat with
  | true => rfl
  | false => exact cv_pair J C p q hp hq
theorem lv_n4 {p : Ph} {l : Li} (h : lvF p l = true) : l.lamp ≠ 4 := by
  intro e
  unfold lvF at h
  rw [if_neg (by omega), if_neg (by omega), if_neg (by omega), if_neg (by omega)] at h
  cases h
def jsK (a n : Int) : Int := if a % 4 = 3 then a.tdiv 4 % n else -1
def jsX (j : Jn) (s : Sg) (a n : Int) : Sg := sjF j s (a.tdiv 64 % (n + 1) - 1) (jsK a n)
def jsY (j : Jn) (s : Sg) (a n : Int) : Sg := if a.tdiv 512 % 5 = 4 then srF j (jsX j s a n) else jsX j s a n
def jsS (j : Jn) (n : Int) (ts : List Int) : Nat → Sg
  | 0 => newS j
  | i + 1 => jsY j (jsS j n ts i) (ts.getD i default) n
theorem jsX_v {j : Jn} (J : JV j) {s : Sg} (C : CV j s.c) (a n : Int) : CV j (jsX j s a n).c := sj_v J C _ _
theorem jsY_v {j : Jn} (J : JV j) {s : Sg} (C : CV j s.c) (a n : Int) : CV j (jsY j s a n).c := by
  unfold jsY
  split
  · exact sr_v J (jsX_v J C a n)
  · exact jsX_v J C a n
theorem jsS_v {j : Jn} (J : JV j) (n : Int) (ts : List Int) : ∀ i, CV j (jsS j n ts i).c
  | 0 => cv_in J
  | i + 1 => jsY_v J (jsS_v J n ts i) _ _
theorem sj_lat {j : Jn} {s : Sg} {t k : Int} (h : s.lat = true) : (sjF j s t k).lat = true := by
  unfold sjF
  rw [if_pos h]
  exact h
theorem in_red (j : Jn) (hn : j.ph.length ≤ 8) : seF (newS j).c = 0 := by
  unfold seF
  have h : ∀ p, stB (newS j).c p = false := fun p => by
    unfold stB liO newS inF
    simp only [List.getD_eq_getElem?_getD, List.getElem?_replicate]
    split <;> rfl
  have : ∀ n, bsF (stB (newS j).c) n = 0 := fun n => by
    induction n with
    | zero => rfl
    | succ n ih =>
      unfold bsF
      rw [h n, if_neg Bool.false_ne_true]
      exact ih
  exact this _
end Av
end Go.Proofs.YtkliodbbcblobaaGreat
