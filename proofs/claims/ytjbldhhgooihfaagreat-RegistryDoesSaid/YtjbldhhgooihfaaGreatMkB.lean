
/- make: what is left of a deck; Few. -/
import Derived.Test.YtjbldhhgooihfaaGreatMk
import Derived.Test.YtjbldhhgooihfaaGreatAvq
namespace Go.Proofs.YtjbldhhgooihfaaGreat
namespace Av
set_option linter.unusedSimpArgs false
set_option linter.unusedVariables false
set_option maxRecDepth 4000
set_option maxHeartbeats 1000000
def rem (d : Dk) : Nat := d.l.length - d.a
theorem rem_ad (d : Dk) : rem (ad d) ≤ rem d := by unfold ad; split; (unfold rem; dsimp only; omega); exact Nat.le_refl _
theorem rem_lt (d : Dk) (h : d.a < d.l.length) : rem (ad d) + 1 ≤ rem d := by unfold ad; rw [dif_pos h]; unfold rem; dsimp only; omega
end Av
end Go.Proofs.YtjbldhhgooihfaaGreat
