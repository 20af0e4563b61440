/- law20.awake; the order of claims, in plain words. -/
import Derived.Test.YtlabfbpnkjigoaaSetting
import Derived.Test.YtlabfbpnkjigoaaRankC
namespace Go.Proofs.Ytlabfbpnkjigoaa
open Go.RowKit

set_option maxHeartbeats 1000000 in
theorem awake20_w (w : World) : Calls Try.prog 25 #[] w fun e w' => e = .returned (.bool true) ∧ Below w.heap.size w w' := by
  have l1 : levelF 10 5 [-1] 9 0 1 0 = 1 := by decide
  have l2 : levelF 10 5 [-1] 10 0 1 0 = 2 := by decide
  have l3 : levelF 10 5 [-1] 99 0 1 0 = 5 := by decide
  have s1 : startF [-1] 0 0 = 0 := by decide
  have e2 : emF 2 = true := by decide
  have hr0 : RdI (w.alloc (.cells #[.int .i64 (-1)] 3)) (some ⟨w.heap.size, 0, none⟩) 1 1 [-1] :=
    ⟨rfl, Nat.le_refl _, by omega, fun _ => ⟨w.heap.size, 0, rfl, by simp, fun j hj => (by
      have e : j = 0 := (by omega)
      subst e
      simp [go_sem, atI])⟩⟩
  have HS := Lib.hid s1
  clear s1
  go_enter Try.func25, Try.ntmps25
  go_wp2_with (first | (go_at_call 26; (first | (with_reducible refine (Calls.ext (level_w _ _ _ _ _ _ _ _ _ _ _ [-1] _ _ _ _ _ _ _ (by repeat (first | with_reducible assumption | with_reducible refine RdI.ext ?_ _ | with_reducible refine RdC.ext ?_ _ | with_reducible refine RdI.alloc ?_ _ | with_reducible refine RdC.alloc ?_ _ | with_reducible refine RdI.drew ?_)) (by omega) (by omega) (by omega) (by omega) (by omega) (by omega) (by rw [HS.out]; omega) (by rw [HS.out]; omega))).mono ?_) | (with_reducible refine (Calls.extD (level_w _ _ _ _ _ _ _ _ _ _ _ [-1] _ _ _ _ _ _ _ (by repeat (first | with_reducible assumption | with_reducible refine RdI.ext ?_ _ | with_reducible refine RdC.ext ?_ _ | with_reducible refine RdI.alloc ?_ _ | with_reducible refine RdC.alloc ?_ _ | with_reducible refine RdI.drew ?_)) (by omega) (by omega) (by omega) (by omega) (by omega) (by omega) (by rw [HS.out]; omega) (by rw [HS.out]; omega))).mono ?_) | (with_reducible refine (Calls.ext0 (level_w _ _ _ _ _ _ _ _ _ _ _ [-1] _ _ _ _ _ _ _ (by repeat (first | with_reducible assumption | with_reducible refine RdI.ext ?_ _ | with_reducible refine RdC.ext ?_ _ | with_reducible refine RdI.alloc ?_ _ | with_reducible refine RdC.alloc ?_ _ | with_reducible refine RdI.drew ?_)) (by omega) (by omega) (by omega) (by omega) (by omega) (by omega) (by rw [HS.out]; omega) (by rw [HS.out]; omega))).mono ?_)); rintro e w' ⟨rfl, x, rfl⟩) | (go_at_call 24; (first | (with_reducible refine (Calls.ext (emergency_w _ _ _ _ _ _)).mono ?_) | (with_reducible refine (Calls.extD (emergency_w _ _ _ _ _ _)).mono ?_) | (with_reducible refine (Calls.ext0 (emergency_w _ _ _ _ _ _)).mono ?_)); rintro e w' ⟨rfl, x, rfl⟩))
  go_ret
  exact ⟨rfl, by (repeat (first | with_reducible exact Below.refl _ _ | with_reducible assumption | with_reducible refine belowExt ?_ _ | with_reducible refine belowAlloc ?_ _ | with_reducible refine Below.drew ?_ | with_reducible refine below_drewN ?_ _ | with_reducible refine Below.setCell ?_ (by simp; try omega) _))⟩

/-! ### Contracts whose answer is known -/
theorem Calls.bool_is {P : Program} {f : FuncId} {args : Array Value} {w : World} {b r : Bool} (h : Calls P f args w fun e w' => e = .returned (.bool b) ∧ Below w.heap.size w w') (hr : b = r) : Calls P f args w fun e w' => e = .returned (.bool r) ∧ Below w.heap.size w w' := hr ▸ h
theorem Calls.int_is {P : Program} {f : FuncId} {args : Array Value} {w : World} {b r : Int} (h : Calls P f args w fun e w' => e = .returned (.int .i64 b) ∧ Below w.heap.size w w') (hr : b = r) : Calls P f args w fun e w' => e = .returned (.int .i64 r) ∧ Below w.heap.size w w' := hr ▸ h

/-! ### Going ahead is a strict order -/
def lexLt (a1 a2 a3 a4 a5 b1 b2 b3 b4 b5 : Int) : Prop := a1 < b1 ∨ a1 = b1 ∧ (a2 < b2 ∨ a2 = b2 ∧ (a3 < b3 ∨ a3 = b3 ∧ (a4 < b4 ∨ a4 = b4 ∧ a5 < b5)))
def key1 (c : Cl) : Int := if emF c.k then 0 else 1
def key2 (per cap : Int) (xs : List Int) (now : Int) (c : Cl) : Int := if emF c.k then -c.k else -levelF per cap xs now c.ph c.k c.si
def key3 (xs : List Int) (c : Cl) : Int := startF xs c.ph c.si
theorem less_lex (per cap : Int) (xs : List Int) (now : Int) (a b : Cl) : lessC per cap xs now a b = true ↔
    lexLt (key1 a) (key2 per cap xs now a) (key3 xs a) a.ag a.id (key1 b) (key2 per cap xs now b) (key3 xs b) b.ag b.id := by
  unfold lessC lessF lexLt key1 key2 key3
  cases hu : emF a.k <;> cases hv : emF b.k <;> simp <;> (try omega)
  all_goals (split <;> (try split) <;> (try split) <;> (try simp) <;> omega)
theorem lex_irr {a1 a2 a3 a4 a5 : Int} : ¬ lexLt a1 a2 a3 a4 a5 a1 a2 a3 a4 a5 := by unfold lexLt; omega
theorem lex_trans {a1 a2 a3 a4 a5 b1 b2 b3 b4 b5 c1 c2 c3 c4 c5 : Int} (h : lexLt a1 a2 a3 a4 a5 b1 b2 b3 b4 b5) (g : lexLt b1 b2 b3 b4 b5 c1 c2 c3 c4 c5) : lexLt a1 a2 a3 a4 a5 c1 c2 c3 c4 c5 := by unfold lexLt at *; omega
theorem lex_total {a1 a2 a3 a4 a5 b1 b2 b3 b4 b5 : Int} (h : ¬ lexLt a1 a2 a3 a4 a5 b1 b2 b3 b4 b5) (g : ¬ lexLt b1 b2 b3 b4 b5 a1 a2 a3 a4 a5) : a1 = b1 ∧ a2 = b2 ∧ a3 = b3 ∧ a4 = b4 ∧ a5 = b5 := by unfold lexLt at *; omega
section
variable {per cap : Int} {xs : List Int} {now : Int} {a b c : Cl}
theorem less_irr : lessC per cap xs now a a = false := by
  cases h : lessC per cap xs now a a with
  | false => rfl
  | true => exact absurd ((less_lex ..).1 h) lex_irr
theorem less_trans (h : lessC per cap xs now a b = true) (g : lessC per cap xs now b c = true) : lessC per cap xs now a c = true := (less_lex ..).2 (lex_trans ((less_lex ..).1 h) ((less_lex ..).1 g))
theorem less_asym (h : lessC per cap xs now a b = true) : lessC per cap xs now b a = false := by
  cases g : lessC per cap xs now b a with
  | false => rfl
  | true =>
    have := less_trans h g
    rw [less_irr] at this
    cases this
theorem less_eq (h : lessC per cap xs now a b = false) (g : lessC per cap xs now b a = false) : key1 a = key1 b ∧ key2 per cap xs now a = key2 per cap xs now b ∧ key3 xs a = key3 xs b ∧ a.ag = b.ag ∧ a.id = b.id :=
  lex_total (fun e => by rw [(less_lex ..).2 e] at h; cases h) (fun e => by rw [(less_lex ..).2 e] at g; cases g)
theorem less_neg (h : lessC per cap xs now a b = false) (g : lessC per cap xs now b c = false) : lessC per cap xs now a c = false := by
  cases e : lessC per cap xs now a c with
  | false => rfl
  | true =>
    have h1 : ¬ lexLt _ _ _ _ _ _ _ _ _ _ := fun x => by rw [(less_lex per cap xs now a b).2 x] at h; cases h
    have h2 : ¬ lexLt _ _ _ _ _ _ _ _ _ _ := fun x => by rw [(less_lex per cap xs now b c).2 x] at g; cases g
    have h3 := (less_lex ..).1 e
    exfalso
    unfold lexLt at h1 h2 h3
    omega
theorem less_em (h : emF a.k = true) (g : emF b.k = false) : lessC per cap xs now a b = true := by simp [lessC, lessF, h, g]
end
/-- The best of the first k claims. -/
theorem bestT_law (per cap lock : Int) (xs : List Int) (now : Int) (cs : List Cl) (k : Nat) :
    (0 ≤ bestT per cap lock xs now cs k → lockC lock xs now (atC cs (bestT per cap lock xs now cs k).toNat) = false) ∧
    ∀ i, i < k → lockC lock xs now (atC cs i) = false → 0 ≤ bestT per cap lock xs now cs k ∧ lessC per cap xs now (atC cs i) (atC cs (bestT per cap lock xs now cs k).toNat) = false := by
  induction k with
  | zero => exact ⟨fun h => by simp [bestT] at h, fun i h => by omega⟩
  | succ k ih =>
    obtain ⟨ih1, ih2⟩ := ih
    unfold bestT
    cases hl : lockC lock xs now (atC cs k) with
    | true =>
      simp only [if_true]
      refine ⟨ih1, fun i hi hli => ?_⟩
      have : i ≠ k := fun e => by rw [e, hl] at hli; cases hli
      exact ih2 i (by omega) hli
    | false =>
      simp only [Bool.false_eq_true, if_false]
      by_cases hb : bestT per cap lock xs now cs k < 0
      · simp only [hb, if_true]
        refine ⟨fun _ => by simpa using hl, fun i hi hli => ⟨by omega, ?_⟩⟩
        by_cases e : i = k
        · subst e; simpa using less_irr
        · have := (ih2 i (by omega) hli).1
          omega
      · simp only [hb, if_false]
        cases hs : lessC per cap xs now (atC cs k) (atC cs (bestT per cap lock xs now cs k).toNat) with
        | true =>
          simp only [if_true]
          refine ⟨fun _ => by simpa using hl, fun i hi hli => ⟨by omega, ?_⟩⟩
          by_cases e : i = k
          · subst e; simpa using less_irr
          · have h1 := (ih2 i (by omega) hli).2
            simpa using less_neg h1 (less_asym hs)
        | false =>
          simp only [Bool.false_eq_true, if_false]
          refine ⟨ih1, fun i hi hli => ?_⟩
          by_cases e : i = k
          · subst e; exact ⟨by omega, hs⟩
          · exact ih2 i (by omega) hli
end Go.Proofs.Ytlabfbpnkjigoaa
