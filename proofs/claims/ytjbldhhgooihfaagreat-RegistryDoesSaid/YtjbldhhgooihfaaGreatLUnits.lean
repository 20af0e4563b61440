
/- The law RegistryUnits. -/
import Derived.Test.YtjbldhhgooihfaaGreatRgW
import Derived.Test.YtjbldhhgooihfaaGreatMkB
namespace Go.Proofs.YtjbldhhgooihfaaGreat
namespace Av
set_option linter.unusedSimpArgs false
set_option linter.unusedVariables false
set_option maxRecDepth 4000
set_option maxHeartbeats 1000000
theorem agV_agF (d : Dk) (num rights : Int) (h : 0 ≤ rights ∧ rights ≤ 63) : AgV (agF d num rights) := by
  have b1 := nx_bd d (3 - 1 + 1) (by omega)
  have b2 := nx_bd (ad d) (3 - 1 + 1) (by omega)
  have b3 := nx_bd (ad (ad d)) 3 (by omega)
  have b4 := nx_bd (ad (ad (ad d))) 3 (by omega)
  have b5 := nx_bd (ad (ad (ad (ad d)))) (3 - 1 + 1) (by omega)
  have b6 := nx_bd (ad (ad (ad (ad (ad d))))) (2 - 1 + 1) (by omega)
  have b7 := nx_bd (ad (ad (ad (ad (ad (ad d)))))) (3 - 1 + 1) (by omega)
  have b8 := nx_bd (ad7 d) 5 (by omega)
  unfold agF
  refine ⟨by rw [secF_len]; rfl, rfl, fun n hn => ?_, h, ⟨(show (0 : Int) ≤ 3 by omega), (show (3 : Int) ≤ 3 by omega)⟩, ?_, ?_, ?_, ?_⟩
  · simp only [List.mem_cons, List.mem_nil_iff, or_false] at hn
    rcases hn with rfl | rfl | rfl | rfl <;> omega
  all_goals (dsimp only; omega)
def rgL (a : Ag) (tk : List Tk) (lv : Int) : Rg := ⟨0, a, tk, [], ⟨lv, a.rate, a.burst⟩⟩
theorem pe63 (k : Int) : peF 63 k = true := by
  unfold peF
  rcases ndF_cases k with ⟨_, e⟩ | ⟨_, e⟩ | ⟨_, e⟩ | ⟨_, e⟩ | ⟨_, e⟩ | ⟨_, e⟩ | ⟨_, e⟩ | ⟨_, e⟩ | ⟨_, e⟩ | ⟨_, _, _, _, _, _, _, _, _, e⟩ <;> rw [e] <;> decide
theorem exp_new (a : Ag) : expF (tkN a) 1 = tkN a := by
  unfold expF tkN
  rfl
theorem ck_new (a : Ag) (hs : (a.sec.length : Int) = 8) (hr : a.rights = 63) (k : Int) : ckB (tkN a) 0 (0 :: 0 :: a.sec) k 1 = true := by
  unfold ckB
  rw [decide_eq_true ⟨by simp; omega, rfl⟩]
  have h1 : usF (tkN a) ((0 :: 0 :: a.sec).getD 1 default) = true := rfl
  have h2 : eqY ((0 :: 0 :: a.sec).drop 2) (tkOf (tkN a) (0 :: 0 :: a.sec)).sec = true := eqY_refl _
  have h3 : exF (tkOf (tkN a) (0 :: 0 :: a.sec)) 1 = false := rfl
  have h4 : (tkOf (tkN a) (0 :: 0 :: a.sec)).rights = 63 := hr
  rw [h1, h2, h3, h4, pe63]
  rfl
end Av
end Go.Proofs.YtjbldhhgooihfaaGreat
