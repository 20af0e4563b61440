/- make: what is left of a deck; Few. -/
import Derived.Test.YtjbldhhgooihfaaMk
import Derived.Test.YtjbldhhgooihfaaAvq
namespace Go.Proofs.Ytjbldhhgooihfaa
namespace Av
set_option linter.unusedSimpArgs false
set_option linter.unusedVariables false
set_option maxRecDepth 4000
set_option maxHeartbeats 1000000
def rem (d : Dk) : Nat := d.l.length - d.a
theorem rem_ad (d : Dk) : rem (ad d) ≤ rem d := by unfold ad; split; (unfold rem; dsimp only; omega); exact Nat.le_refl _
theorem rem_lt (d : Dk) (h : d.a < d.l.length) : rem (ad d) + 1 ≤ rem d := by unfold ad; rw [dif_pos h]; unfold rem; dsimp only; omega
theorem few_c (l : List Int) (hl : l.length ≤ 9223372036854775807) : CallSim Try.prog 27 [slA iA l] [] (bA (decide (l.length ≤ 300))) [] := by
  have hll := map_len iA l
  by_cases h : l.length ≤ 300
  · rw [decide_eq_true h]
    (refine callSim_of tok Try.func27 rfl (fun args w => Try.call27 args w) rfl rfl rfl (fun F hF => ?_))
    (refine WW ?_)
    exact fin_ret [] rfl rfl rfl rfl
  · rw [decide_eq_false h]
    (refine callSim_of tok Try.func27 rfl (fun args w => Try.call27 args w) rfl rfl rfl (fun F hF => ?_))
    (refine WW ?_)
    exact fin_ret [] rfl rfl rfl rfl
end Av
end Go.Proofs.Ytjbldhhgooihfaa
