/- The law JunctionCalm. -/
import Derived.Test.YtkliodbbcblobaaJuC
namespace Go.Proofs.Ytkliodbbcblobaa
namespace Av
set_option linter.unusedSimpArgs false
set_option linter.unusedVariables false
set_option maxRecDepth 4000
set_option maxHeartbeats 1000000
def jcC (j : Jn) (n : Int) (ts : List Int) : Nat → Ct
  | 0 => inF j
  | i + 1 => stF j (jcC j n ts i) (ts.getD i default % (n + 1) - 1)
theorem jcC_v {j : Jn} (J : JV j) (n : Int) (ts : List Int) : ∀ i, CV j (jcC j n ts i)
  | 0 => cv_in J
  | i + 1 => cv_st J (jcC_v J n ts i) _
theorem calm_c (l : List Int) (hl : l.length ≤ 9223372036854775807) (ts : List Int) (hts : ts.length ≤ 9223372036854775807) : CallSim Try.prog 5 [slA iA l, slA iA ts] [] (bA true) [] := by
  have aw := awake11_c
  have hlt := map_len iA ts
  by_cases h150 : 120 < (ts.length : Int)
  · (refine callSim_of tok Try.func5 rfl (fun args w => Try.call5 args w) rfl rfl rfl (fun F hF => ?_))
    (have zc1 := aw; refine WL ?_; clear zc1)
    exact fin_ret [] rfl rfl rfl rfl
  have hn := new_c l hl
  generalize (⟨l, 0, Nat.zero_le _, hl⟩ : Dk) = d0 at *
  have cj := junction_c d0
  have J := jv_jnF d0
  generalize jnF d0 = j at *
  generalize jnD d0 = d1 at *
  have hjn := J.n
  have hlp := map_len phA j.ph
  have c1 := snew_c j J
  have c2 := rinit_c j (by omega)
  have e0 : newS j = ⟨jcC j ((j.ph.map phA).length : Int) ts 0, false⟩ := rfl
  have e1 : inF j = jcC j ((j.ph.map phA).length : Int) ts 0 := rfl
  rw [e0] at c1
  rw [e1] at c2
  clear e0 e1
  have CN := jcC_v J ((j.ph.map phA).length : Int) ts
  (refine callSim_of tok Try.func5 rfl (fun args w => Try.call5 args w) rfl rfl rfl (fun F hF => ?_))
  (have zc1 := aw; have zc2 := hn; have zc3 := cj; have zc4 := c1; have zc5 := c2; refine WL ?_; clear zc1 zc2 zc3 zc4 zc5)
  (refine sim_cnt (ts.length) [6, 7, 5] [5] [5, 6, 7, 22, 23] [24, 5, 6, 7, 22, 23] rfl (fun i T U => ⟨(24, iA i) :: T, (6, .box [slA liA (jcC j ((j.ph.map phA).length : Int) ts i).li, iA (jcC j ((j.ph.map phA).length : Int) ts i).gr, slA iA (jcC j ((j.ph.map phA).length : Int) ts i).nx, iA (jcC j ((j.ph.map phA).length : Int) ts i).wt, bA false]) :: (7, .box [slA liA (jcC j ((j.ph.map phA).length : Int) ts i).li, iA (jcC j ((j.ph.map phA).length : Int) ts i).gr, slA iA (jcC j ((j.ph.map phA).length : Int) ts i).nx, iA (jcC j ((j.ph.map phA).length : Int) ts i).wt]) :: U⟩) ?_; (conv => whnf); refine ⟨by rfl, ?_, ?_⟩)
  · intro u hu
    have hy := map_at iA ts u hu
    have C0 := CN u
    have C1 := CN (u + 1)
    have eN : jcC j ((j.ph.map phA).length : Int) ts (u + 1) = stF j (jcC j ((j.ph.map phA).length : Int) ts u) (ts.getD u default % (((j.ph.map phA).length : Int) + 1) - 1) := rfl
    have cm := mod_c (ts.getD u default) (((j.ph.map phA).length : Int) + 1) (by omega) (by omega)
    have bm := Int.emod_nonneg (ts.getD u default) (show ((j.ph.map phA).length : Int) + 1 ≠ 0 by omega)
    have bm2 := Int.emod_lt_of_pos (ts.getD u default) (show 0 < ((j.ph.map phA).length : Int) + 1 by omega)
    generalize ts.getD u default % (((j.ph.map phA).length : Int) + 1) = q at *
    generalize ts.getD u default = t at *
    have s1 := sstep_c j J ⟨jcC j ((j.ph.map phA).length : Int) ts u, false⟩ C0 (q - 1) (-1)
    have s2 := rstepC_c j J (jcC j ((j.ph.map phA).length : Int) ts u) C0 (q - 1)
    have e1 : sjF j ⟨jcC j ((j.ph.map phA).length : Int) ts u, false⟩ (q - 1) (-1) = ⟨jcC j ((j.ph.map phA).length : Int) ts (u + 1), false⟩ := by
      unfold sjF
      rw [if_neg Bool.false_ne_true]
      dsimp only
      rw [← eN, fb_calm J C1]
    rw [e1] at s1
    rw [← eN] at s2
    clear e1 eN aw CN
    have hC1 := C1.n
    have hC2 := C1.m
    have sa := csame_c (jcC j ((j.ph.map phA).length : Int) ts (u + 1)) (by omega) (by omega)
    generalize jcC j ((j.ph.map phA).length : Int) ts (u + 1) = x1 at *
    generalize jcC j ((j.ph.map phA).length : Int) ts u = x0 at *
    (have zc1 := cm; have zc2 := s1; have zc3 := s2; have zc4 := sa; refine WW ?_; clear zc1 zc2 zc3 zc4)
    rfl
  · clear CN
    (have zc1 := aw; refine WW ?_; clear zc1)
    exact fin_ret [] rfl rfl rfl rfl
end Av
end Go.Proofs.Ytkliodbbcblobaa
