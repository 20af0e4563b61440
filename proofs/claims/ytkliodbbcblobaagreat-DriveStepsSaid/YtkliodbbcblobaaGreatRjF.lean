
/- Rings, the reference: which controls are valid, exactly. -/
import Derived.Test.YtkliodbbcblobaaGreatRjE
namespace Go.Proofs.YtkliodbbcblobaaGreat
namespace Av
set_option linter.unusedSimpArgs false
set_option linter.unusedVariables false
set_option maxRecDepth 4000
set_option maxHeartbeats 1000000
def rkB (rows : List Int) (s : Int) (p q : Nat) : Bool := inS s p && (inS s q && cfP rows p q)
theorem ckB_rk {j : Jn} (J : JV j) (s : Int) (a b : Nat) (ha : a < j.cf.length) : ckB j.cf s a b = rkB j.cf s a b := by
  unfold ckB rkB
  by_cases h : b = a
  · subst h
    rw [J.ir b (by rw [← J.c]; exact ha)]
    simp
  · rw [decide_eq_true h, Bool.true_and]
theorem hasN_take (l : List Nat) (x : Int) (i : Nat) (hi : i < l.length) : hasN (l.take (i + 1)) x = (hasN (l.take i) x || (((l.getD i default : Nat) : Int) == x)) := by
  unfold hasN
  rw [← List.take_append_getElem hi, List.any_append]
  simp [List.getD, hi]
end Av
end Go.Proofs.YtkliodbbcblobaaGreat
