
/- Rings: the junction of the sanity checks. -/
import Derived.Test.YtkliodbbcblobaaGreatRiV
namespace Go.Proofs.YtkliodbbcblobaaGreat
namespace Av
set_option linter.unusedSimpArgs false
set_option linter.unusedVariables false
set_option maxRecDepth 4000
set_option maxHeartbeats 1000000
def ph0 : Ph := ⟨0, 0, 2, 3, 1, 1, 0, 0⟩
def j0 : Jn := ⟨[ph0, ph0], [2, 1], 0⟩
theorem two {p : Nat} (h : p < j0.ph.length) : p = 0 ∨ p = 1 := by
  have : j0.ph.length = 2 := rfl
  omega
theorem jv0 : JV j0 := by
  refine ⟨by decide, rfl, fun i hi => ?_, fun p hp => ?_, fun p q hp hq => ?_, fun p q hp hq hpq _ => ?_, fun p hp => ?_, fun p hp => ?_, fun p hp => ?_, fun p hp g hg0 hg => ?_, by decide⟩
  · rcases two hi with rfl | rfl <;> decide
  · rcases two hp with rfl | rfl <;> decide
  · rcases two hp with rfl | rfl <;> rcases two hq with rfl | rfl <;> decide
  · rcases two hp with rfl | rfl <;> rcases two hq with rfl | rfl
    · exact absurd rfl hpq
    · decide
    · decide
    · exact absurd rfl hpq
  · rcases two hp with rfl | rfl <;> decide
  · rcases two hp with rfl | rfl <;> decide
  · rcases two hp with rfl | rfl <;> decide
  · exfalso
    have : (phO j0 p).group = 0 := by rcases two hp with rfl | rfl <;> rfl
    omega
end Av
end Go.Proofs.YtkliodbbcblobaaGreat
