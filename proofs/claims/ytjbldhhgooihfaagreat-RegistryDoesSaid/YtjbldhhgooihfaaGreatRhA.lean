
/- law17: messages that derive or revoke are valid. -/
import Derived.Test.YtjbldhhgooihfaaGreatRgW
import Derived.Test.YtjbldhhgooihfaaGreatLibD
namespace Go.Proofs.YtjbldhhgooihfaaGreat
namespace Av
set_option linter.unusedSimpArgs false
set_option linter.unusedVariables false
set_option maxRecDepth 4000
set_option maxHeartbeats 1000000
theorem vint_c (n : Int) (h : 0 ≤ n ∧ n ≤ 127) : CallSim Tryz.prog 95 [iA n] [] (.tup [slA yA [n], iA 0]) [] := by
  obtain ⟨h1, h2⟩ := h
  (refine callSim_of tok Tryz.func95 rfl (fun args w => Tryz.call95 args w) rfl rfl rfl (fun F hF => ?_))
  (refine WW ?_)
  (refine sim_cnt (0) [11] [] [] [0, 4] rfl (fun i T U => ⟨(0, iA n) :: (4, .ref 11 0 0) :: T, (11, .arr 1 [] false) :: U⟩) ?_; (conv => whnf); refine ⟨by rfl, ?_, ?_⟩)
  · intro i hi
    omega
  · (refine WW ?_)
    exact fin_ret [] rfl rfl rfl rfl
def shF (f : Int) : AV := .agg [iA 10, iA f, iA 0, iA 0, iA 0, iA 0]
theorem shape_c (k f : Int) (h : (k = 2 ∧ f = 3) ∨ (k = 3 ∧ f = 1)) : CallSim Tryz.prog 93 [iA k] [] (.tup [shF f, bA true]) [] := by
  rcases h with ⟨rfl, rfl⟩ | ⟨rfl, rfl⟩
  · (refine callSim_of tok Tryz.func93 rfl (fun args w => Tryz.call93 args w) rfl rfl rfl (fun F hF => ?_))
    (refine WW ?_)
    exact fin_ret [] rfl rfl rfl rfl
  · (refine callSim_of tok Tryz.func93 rfl (fun args w => Tryz.call93 args w) rfl rfl rfl (fun F hF => ?_))
    (refine WW ?_)
    exact fin_ret [] rfl rfl rfl rfl
theorem groups_m (f n : Int) (h : n = f) : CallSim Tryz.prog 94 [shF f, iA n] [] (.tup [iA 0, bA true]) [] := by
  unfold shF
  (refine callSim_of tok Tryz.func94 rfl (fun args w => Tryz.call94 args w) rfl rfl rfl (fun F hF => ?_))
  (refine WW ?_)
  exact fin_ret [] rfl rfl rfl rfl
theorem cloneY_own (l : List Int) (hl : 1 ≤ l.length ∧ l.length ≤ 1073741824) : CallSim Tryz.prog 59 [slA yA l] [] (.ref 1001 0 (l.map yA).length) [(1001, .arr 1 (l.map yA) false)] := by
  have hll := map_len yA l
  (refine callSim_of tok Tryz.func59 rfl (fun args w => Tryz.call59 args w) rfl rfl rfl (fun F hF => ?_))
  refine sim_nsplit 0 rfl (fun cap hx => ?_) ?_
  · exfalso
    have : l = [] := by simpa using hx
    subst this
    simp at hl
  · repeat' (first | (refine is_ops ?_; first | refine x_auto tok rfl rfl ?_ | (refine is_bin ?_; refine x_q (stp_eqlNil_not tok (.inl ⟨rfl, rfl⟩) rfl rfl rfl rfl) rfl ?_) | (refine is_bsl ?_; refine x_w (nw := [1001]) (stp_buildSlice tok 1001 (xs := []) rfl rfl rfl rfl rfl rfl rfl rfl rfl) rfl rfl rfl ?_) | (refine is_app ?_; refine x_appref0 tok rfl rfl rfl rfl rfl rfl rfl (map_hd _ _ (fun _ => rfl)) rfl rfl rfl (by omega) rfl ?_) | refine x_nil ?_) | (first | refine sim_seq ?_ | refine x_region ?_ | refine x_draw rfl ?_ | refine sim_cond_true rfl ?_ | refine sim_cond_false rfl ?_ | refine sim_cond rfl (fun hc => ?_) (fun hc => ?_) | refine sim_skip ?_ | refine sim_ret ?_ | refine sim_exit ?_ | refine sim_block ?_))
    exact fin_own [1001] rfl rfl rfl rfl
def plF (m : Ms) (i : Nat) : List AV := m.tok.map yA ++ (m.args.take i).map yA
theorem plF_len (m : Ms) (i : Nat) (h : i ≤ m.args.length) : (plF m i).length = m.tok.length + i := by simp [plF]; omega
theorem plF_succ (m : Ms) (i : Nat) (h : i < m.args.length) : plF m (i + 1) = plF m i ++ [yA (m.args.getD i default)] := by
  unfold plF
  rw [← List.take_append_getElem h, List.map_append, ← List.append_assoc]
  congr 1
  simp [List.getD, h]
theorem encode_m (m : Ms) (f : Nat) (hk : (m.kind = 2 ∧ (f : Int) = 3) ∨ (m.kind = 3 ∧ (f : Int) = 1)) (ht : (m.tok.length : Int) = 10) (ha : m.args.length = f) (hb : ∀ i, i < f → 0 ≤ m.args.getD i default ∧ m.args.getD i default ≤ 127) (hd : m.data = []) : CallSim Tryz.prog 57 [msA m] [] (.tup [.sl false ((plF m f ++ []).take (plF m f ++ []).length), iA 0]) [] := by
  have hlt := map_len yA m.tok
  have hla := map_len iA m.args
  have hf3 : 1 ≤ f ∧ f ≤ 3 := by omega
  have c1 := shape_c m.kind f hk
  have c2 := groups_m f ((m.args.map iA).length : Int) (by omega)
  have hl0 : ([] : List AV).length = 0 := rfl
  unfold shF at c1 c2
  have c3 := cloneY_own m.tok (by omega)
  have hp0 : plF m 0 = m.tok.map yA := by simp [plF]
  have hpl := plF_len m
  have hps := plF_succ m
  rw [ha] at hpl hps
  obtain ⟨k, tk, ar, da⟩ := m
  dsimp only at *
  subst hd
  generalize plF ⟨k, tk, ar, []⟩ = pl at *
  rw [show msA ⟨k, tk, ar, []⟩ = .agg [iA k, slA yA tk, slA iA ar, .sl false []] from rfl]
  (refine callSim_of tok Tryz.func57 rfl (fun args w => Tryz.call57 args w) rfl rfl rfl (fun F hF => ?_))
  (have zc1 := c1; have zc2 := c2; have zc3 := c3; refine WW ?_; clear zc1 zc2 zc3)
  refine sim_stale 1001 rfl ?_
  (refine sim_cntP (f + 1) [1001, 1, 4] [1, 4] [1, 4, 6, 64] [7, 65, 1, 4, 6, 64] rfl (fun i T U zs => (i ≤ f) ∧ zs = ⟨(7, .ref 1001 0 (pl i).length) :: (65, iA i) :: T, (1001, .arr 1 (pl i) true) :: U⟩) ?_; (conv => whnf); refine ⟨?_, ?_, ?_⟩)
  · refine ⟨Nat.zero_le _, ?_⟩
    rw [hp0]; rfl
  · rintro i st hi ⟨hif, rfl⟩
    have hpi := hpl i hif
    by_cases hie : i = f
    · subst hie
      clear hps hp0 hpl c1 c2 c3 hb
      generalize pl i = xs at *
      have hx0 : (xs ++ ([] : List AV)).length = xs.length := by simp
      (refine WW ?_)
      refine is_ops ?_
      refine is_app ?_
      refine x_appref tok rfl rfl rfl rfl rfl rfl rfl rfl rfl rfl rfl (by intro y hy; cases hy) (by first | omega | (simp; done) | (simp; omega)) rfl ?_
      (refine WW ?_)
      exact fin_ret [] rfl rfl rfl rfl
    · have hbi := hb i (by omega)
      have cv := vint_c (ar.getD i default) hbi
      have hy := map_at iA ar i (by omega)
      rw [hps i (by omega)]
      clear hps hp0 hpl c1 c2 c3 hb
      generalize pl i = xs at *
      generalize ar.getD i default = a at *
      (have zc1 := cv; refine WW ?_; clear zc1)
      exact ⟨by omega, rfl⟩
  · rintro st ⟨hif, rfl⟩
    exfalso; omega
theorem mvalid_c (m : Ms) (f : Nat) (hk : (m.kind = 2 ∧ (f : Int) = 3) ∨ (m.kind = 3 ∧ (f : Int) = 1)) (ht : (m.tok.length : Int) = 10) (ha : m.args.length = f) (hb : ∀ i, i < f → 0 ≤ m.args.getD i default ∧ m.args.getD i default ≤ 127) (hd : m.data = []) : CallSim Tryz.prog 25 [msA m] [] (bA true) [] := by
  have c := encode_m m f hk ht ha hb hd
  generalize (plF m f ++ []).take (plF m f ++ []).length = xs at *
  (refine callSim_of tok Tryz.func25 rfl (fun args w => Tryz.call25 args w) rfl rfl rfl (fun F hF => ?_))
  (have zc1 := c; refine WW ?_; clear zc1)
  exact fin_ret [] rfl rfl rfl rfl
theorem gused_c (l : List Tk) (s : Int) : CallSim Tryz.prog 26 [slA tkA l, iA s] [] (bA (usF l s)) [] := by
  have hl := map_len tkA l
  unfold usF
  by_cases h1 : 0 ≤ s
  · by_cases h2 : s < l.length
    · have hy := map_atI tkA l s h1 h2
      rw [decide_eq_true ⟨h1, h2⟩, Bool.true_and]
      (refine callSim_of tok Tryz.func26 rfl (fun args w => Tryz.call26 args w) rfl rfl rfl (fun F hF => ?_))
      (refine WW ?_)
      exact fin_ret [] rfl rfl rfl rfl
    · rw [decide_eq_false (by omega), Bool.false_and]
      (refine callSim_of tok Tryz.func26 rfl (fun args w => Tryz.call26 args w) rfl rfl rfl (fun F hF => ?_))
      (refine WW ?_)
      exact fin_ret [] rfl rfl rfl rfl
  · rw [decide_eq_false (by omega), Bool.false_and]
    (refine callSim_of tok Tryz.func26 rfl (fun args w => Tryz.call26 args w) rfl rfl rfl (fun F hF => ?_))
    (refine WW ?_)
    exact fin_ret [] rfl rfl rfl rfl
theorem tbytes_c (g s : Int) (l : List Int) (hl : l.length ≤ 1000000) (g0 : 0 ≤ g) (g1 : g < 256) (s0 : 0 ≤ s) (s1 : s < 256) : CallSim Tryz.prog 62 [iA g, iA s, slA yA l] [] (slA yA (g :: s :: l)) [] := by
  have hll := map_len yA l
  (refine callSim_of tok Tryz.func62 rfl (fun args w => Tryz.call62 args w) rfl rfl rfl (fun F hF => ?_))
  (refine WW ?_)
  exact fin_ret [] rfl rfl (congrArg (AV.sl false) (List.take_of_length_le (by simp))) rfl
end Av
end Go.Proofs.YtjbldhhgooihfaaGreat
