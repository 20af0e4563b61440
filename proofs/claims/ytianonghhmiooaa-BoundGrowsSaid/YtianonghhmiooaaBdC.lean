
/- make.Config keeps its bounds. -/
import Derived.Test.YtianonghhmiooaaBdB
import Derived.Test.YtianonghhmiooaaArX
namespace Go.Proofs.Ytianonghhmiooaa
namespace Av
set_option linter.unusedSimpArgs false
set_option linter.unusedVariables false
set_option maxRecDepth 4000
set_option maxHeartbeats 1000000
theorem phF_bd (d : Dk) (s : Int × Int) : PhB (phF d s) := by
  have b0 := nx_bd d (3 - 1 + 1) (by omega)
  have b1 := nx_bd (ad d) (2 - 1 + 1) (by omega)
  have b5 := nx_bd (ad (ad d)) 3 (by omega)
  have b2 := nx_bd (ad (ad (ad (ad d)))) (2 - 1 + 1) (by omega)
  have b3 := nx_bd (ad (ad (ad (ad (ad d))))) (2 - 1 + 1) (by omega)
  unfold phF
  split <;> constructor <;> dsimp only <;> omega
theorem phL_bd (d : Dk) (l : List (Int × Int)) : ∀ i, ∀ p ∈ (phL d l i).1, PhB p
  | 0, p, h => by simp [phL] at h
  | i + 1, p, h => by
    simp only [phL, List.mem_append, List.mem_singleton] at h
    rcases h with h | rfl
    · exact phL_bd d l i p h
    · exact phF_bd _ _
theorem jnF_ph (d : Dk) : (jnF d).ph = (jnP d).1 := rfl
theorem jnP_len (d : Dk) : 1 ≤ (jnP d).1.length ∧ (jnP d).1.length ≤ 8 := by
  unfold jnP
  rw [phL_len]
  exact shapes_len _
theorem jnF_bd (d : Dk) : JnB (jnF d) := by
  have hl := jnP_len d
  have hs := nx_bd (ad d) 3 (by omega)
  have es : (jnF d).st = nx (ad d) 3 := rfl
  constructor
  · rw [jnF_ph]; omega
  · rw [jnF_ph]
    intro i hi
    exact getD_mem' PhB default _ i (phL_bd _ _ _) hi
  · omega
  · omega
theorem cjL_bd (d : Dk) : ∀ i, ∀ p ∈ (cjL d i).1, JnB p
  | 0, p, h => by simp [cjL] at h
  | i + 1, p, h => by
    simp only [cjL, List.mem_append, List.mem_singleton] at h
    rcases h with h | rfl
    · exact cjL_bd d i p h
    · exact jnF_bd _
theorem agF_req (d : Dk) (num rights : Int) : (agF d num rights).req = 1 + nx (ad (ad (ad (ad d)))) (3 - 1 + 1) := by simp only [agF]
theorem caL_bd (d : Dk) (rights : Int) : ∀ i, ∀ p ∈ (caL d rights i).1, 1 ≤ p.req ∧ p.req ≤ 3
  | 0, p, h => by simp [caL] at h
  | i + 1, p, h => by
    simp only [caL, List.mem_append, List.mem_singleton] at h
    rcases h with h | rfl
    · exact caL_bd d rights i p h
    · rw [agF_req]
      have b := nx_bd (ad (ad (ad (ad (caL d rights i).2)))) (3 - 1 + 1) (by omega)
      omega
theorem cfF_bd (d : Dk) (rights : Int) : CfB (cfF d rights) := by
  have b0 := nx_bd d (4 - 1 + 1) (by omega)
  have b1 := nx_bd (ad d) 4 (by omega)
  have b2 := nx_bd (ad (ad d)) (3 - 1 + 1) (by omega)
  have b3 := nx_bd (ad (ad (ad d))) 5 (by omega)
  have hn := nx_bd (ad4 d) 2 (by omega)
  have hm := nx_bd (cfJ d).2 3 (by omega)
  have e1 : (cfF d rights).js = (cfJ d).1 := by simp only [cfF]
  have e2 : (cfF d rights).ags = (cfG d rights).1 := by simp only [cfF]
  have l1 : (cfJ d).1.length = cfN d := by unfold cfJ; exact cjL_len _ _
  have l2 : (cfG d rights).1.length = cfM d := by unfold cfG; exact caL_len _ _ _
  constructor
  · rw [e1, l1]; unfold cfN; omega
  · rw [e2, l2]; unfold cfM; omega
  · rw [e1]; intro i hi; exact getD_mem' JnB default _ i (cjL_bd _ _) hi
  · rw [e2]
    intro i hi
    have := getD_mem' (fun p : Ag => 1 ≤ p.req ∧ p.req ≤ 3) default (cfG d rights).1 i (by unfold cfG; exact caL_bd _ _ _) hi
    omega
  all_goals (unfold cfF; dsimp only; omega)
end Av
end Go.Proofs.Ytianonghhmiooaa
