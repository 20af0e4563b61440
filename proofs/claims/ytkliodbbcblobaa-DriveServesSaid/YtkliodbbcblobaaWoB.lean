/- law12: the sanity check. -/
import Derived.Test.YtkliodbbcblobaaWoA
import Derived.Test.YtkliodbbcblobaaRi0
namespace Go.Proofs.Ytkliodbbcblobaa
namespace Av
set_option linter.unusedSimpArgs false
set_option linter.unusedVariables false
set_option maxRecDepth 4000
set_option maxHeartbeats 1000000
theorem w_tr : trF j0 = 4 := by decide +kernel
def cW : Ct := stF j0 (inF j0) 0
theorem cW_v : CV j0 cW := cv_st jv0 (cv_in jv0) 0
theorem awake12_c : CallSim Try.prog 39 [] [] (bA true) [] := by
  have ci := rinit_c j0 (by decide)
  have cs := rstepC_c j0 jv0 (inF j0) (cv_in jv0) 0
  have ct := wtrans_c j0 jv0
  have r1 := wreach_c j0 jv0 cW cW_v 1 (by decide) 4 (by rw [w_tr]; decide) (by decide +kernel) (by decide +kernel)
  have r0 := wreach_c j0 jv0 cW cW_v 0 (by decide) 0 (by rw [w_tr]; decide) (by decide +kernel) (by decide +kernel)
  have r2 := wreach_o j0 jv0 cW 2 (.inr (by decide))
  rw [w_tr] at ct
  rw [show stF j0 (inF j0) 0 = cW from rfl] at cs
  rw [show jnA j0 = .agg [.sl false [.agg [iA 0, iA 0, iA 2, iA 3, iA 1, iA 1, iA 0, iA 0], .agg [iA 0, iA 0, iA 2, iA 3, iA 1, iA 1, iA 0, iA 0]], .sl false [iA 2, iA 1], iA 0] from rfl] at ci cs ct r0 r1 r2
  generalize cW = c at *
  generalize inF j0 = c0 at *
  (refine callSim_of tok Try.func39 rfl (fun args w => Try.call39 args w) rfl rfl rfl (fun F hF => ?_))
  (have zc1 := ci; have zc2 := cs; have zc3 := ct; have zc4 := r1; have zc5 := r0; have zc6 := r2; refine WL ?_; clear zc1 zc2 zc3 zc4 zc5 zc6)
  exact fin_ret [] rfl rfl rfl rfl
theorem reach_both (j : Jn) (J : JV j) (c : Ct) (C : CV j c) (t : Int) : ∃ v : Int, CallSim Try.prog 35 [jnA j, ctA c, iA t] [] (iA v) [] ∧ CallSim Try.prog 36 [jnA j, ctA c, iA t] [] (iA v) [] := by
  by_cases h : 0 ≤ t ∧ t < j.ph.length
  · obtain ⟨n, rfl⟩ : ∃ n : Nat, t = n := ⟨t.toNat, by omega⟩
    obtain ⟨k, h1, h2, h3⟩ := reach_ex J C (t := n) (by omega)
    exact ⟨k, wreach_c j J c C n (by omega) k h1 h2 h3, rreach_c j J c C n (by omega) k h1 h2 h3⟩
  · exact ⟨-1, wreach_o j J c t (by omega), rreach_o j J c t (by omega)⟩
end Av
end Go.Proofs.Ytkliodbbcblobaa
