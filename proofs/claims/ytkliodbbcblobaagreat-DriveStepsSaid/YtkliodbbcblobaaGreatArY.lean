/- Library: abstract values. -/
import Derived.Test.YtkliodbbcblobaaGreatMk
import Derived.Test.YtkliodbbcblobaaGreatAvq
import Derived.Test.YtkliodbbcblobaaGreatArX
import Derived.Test.YtkliodbbcblobaaGreatLibC
/- make: what is left of a deck; Few. -/
namespace Go.Proofs.YtkliodbbcblobaaGreat
namespace Av
set_option linter.unusedSimpArgs false
set_option linter.unusedVariables false
set_option maxRecDepth 4000
set_option maxHeartbeats 1000000
def rem (d : Dk) : Nat := d.l.length - d.a
theorem rem_ad (d : Dk) : rem (ad d) ≤ rem d := by unfold ad; split; (unfold rem; dsimp only; omega); exact Nat.le_refl _
theorem rem_lt (d : Dk) (h : d.a < d.l.length) : rem (ad d) + 1 ≤ rem d := by unfold ad; rw [dif_pos h]; unfold rem; dsimp only; omega
theorem few_c (l : List Int) (hl : l.length ≤ 9223372036854775807) : CallSim Tryz.prog 4 [slA iA l] [] (bA (decide (l.length ≤ 300))) [] := by
  have hll := map_len iA l
  by_cases h : l.length ≤ 300
  · rw [decide_eq_true h]
    (refine callSim_of tok Tryz.func4 rfl (fun args w => Tryz.call4 args w) rfl rfl rfl (fun F hF => ?_))
    (refine WW ?_)
    exact fin_ret [] rfl rfl rfl rfl
  · rw [decide_eq_false h]
    (refine callSim_of tok Tryz.func4 rfl (fun args w => Tryz.call4 args w) rfl rfl rfl (fun F hF => ?_))
    (refine WW ?_)
    exact fin_ret [] rfl rfl rfl rfl
theorem left_c (d : Dk) : CallSim Tryz.prog 10 [.ptr 1000 0 0] [(1000, dkE d)] (bA (decide (d.a < d.l.length))) [(1000, dkE d)] := by
  have hl : (d.l.map iA).length = d.l.length := by simp
  (refine callSim_of tok Tryz.func10 rfl (fun args w => Tryz.call10 args w) rfl rfl rfl (fun F hF => ?_))
  (repeat' (first | (refine is_ops ?_; (first | refine x_auto tok rfl rfl ?_ | (refine is_grd ?_; first | refine x_on rfl rfl ?_ | refine x_off rfl rfl rfl rfl ?_ | refine x_gsplit rfl rfl (fun hc => ?_) (fun hc => ?_)) | (refine is_bin ?_; first | refine x_q (stp_cmp_t rfl rfl rfl (by unfold cmpP; omega)) rfl ?_ | refine x_q (stp_cmp_f rfl rfl rfl (by unfold cmpP; omega)) rfl ?_ | refine x_q (stp_cmp rfl rfl rfl) rfl ?_ | refine x_q (stp_add rfl rfl ⟨by omega, by omega⟩) rfl ?_ | refine x_q (stp_sub rfl rfl ⟨by omega, by omega⟩) rfl ?_ | refine x_q (stp_mul rfl rfl ⟨by omega, by omega⟩) rfl ?_ | refine x_q (stp_quo rfl rfl (by assumption) (by omega)) rfl ?_ | refine x_q (stp_rem rfl rfl (by omega)) rfl ?_ | refine x_q (stp_xor rfl rfl) rfl ?_ | refine x_q (stp_shift (.inl ⟨rfl, rfl⟩) rfl rfl (by omega)) rfl ?_ | refine x_q (stp_shift (.inr ⟨rfl, rfl⟩) rfl rfl (by omega)) rfl ?_ | refine x_q (stp_bool2 tok rfl rfl rfl rfl (.inl ⟨rfl, rfl⟩)) rfl ?_ | refine x_q (stp_bool2 tok rfl rfl rfl rfl (.inr ⟨rfl, rfl⟩)) rfl ?_ | refine x_q (stp_eqlNil tok (.inl ⟨rfl, rfl⟩) rfl rfl rfl) rfl ?_ | refine x_q (stp_eqlNil_not tok (.inl ⟨rfl, rfl⟩) rfl rfl rfl rfl) rfl ?_) | (refine is_idx ?_; first | refine x_q (stp_indexAddr_sl tok rfl rfl rfl rfl rfl (by omega) (by first | rfl | assumption) rfl rfl) rfl ?_ | refine x_q (stp_indexAddr_r0 tok rfl rfl rfl rfl rfl rfl (by omega) (by omega) rfl) rfl ?_ | refine x_q (stp_indexAddr_box tok rfl rfl rfl rfl rfl rfl (by omega) (by omega)) rfl ?_) | (refine is_load ?_; first | refine x_q (stp_load_fp1 tok rfl rfl rfl (by first | rfl | assumption) rfl) rfl ?_ | refine x_q (stp_load_fpa tok rfl rfl rfl (by first | rfl | assumption) rfl) rfl ?_ | refine x_q (stp_load_arr1 tok rfl rfl rfl rfl (by first | rfl | assumption) rfl) rfl ?_ | refine x_q (stp_load_arra tok rfl rfl rfl rfl (by first | rfl | assumption) rfl) rfl ?_) | (refine is_fad ?_; first | refine x_q (stp_fieldAddr_arr tok rfl rfl rfl rfl rfl rfl rfl rfl) rfl ?_ | refine x_q (stp_fieldAddr_fp tok rfl (by first | rfl | assumption) rfl rfl rfl rfl rfl rfl) rfl ?_) | (refine is_app ?_; first | refine x_appref tok rfl rfl rfl rfl rfl rfl rfl rfl rfl rfl rfl (by first | (intro y hy; cases hy; rfl) | exact map_hd _ _ (fun _ => rfl)) (by first | omega | (simp; done) | (simp; omega)) rfl ?_) | (refine is_un ?_; first | refine x_q (stp_neg rfl ⟨by omega, by omega⟩) rfl ?_) | (refine is_conv ?_; first | refine x_q (stp_conv_in tok rfl rfl rfl rfl ⟨by omega, by omega⟩) rfl ?_ | refine x_q (stp_conv tok rfl rfl rfl rfl) rfl ?_) | refine x_autow tok rfl rfl rfl rfl ?_ | (refine is_sto ?_; first | refine x_autos tok rfl rfl rfl ?_) | refine x_nil ?_ | refine x_nilD (by kernel_rfl) ?_)) | (first | refine sim_seq ?_ | refine x_region ?_ | refine x_draw rfl ?_ | refine sim_cond_true rfl ?_ | refine sim_cond_false rfl ?_ | refine sim_cond rfl (fun hc => ?_) (fun hc => ?_) | refine sim_skip ?_ | refine sim_ret ?_ | refine sim_exit ?_ | refine sim_block ?_)))
  refine fin_own [1000] rfl rfl (congrArg bA ?_) rfl
  simp [cmpB]
end Av
end Go.Proofs.YtkliodbbcblobaaGreat
/- law21: copies, New, Valid, Same, Count, End of the services. -/
namespace Go.Proofs.YtkliodbbcblobaaGreat
namespace Av
set_option linter.unusedSimpArgs false
set_option linter.unusedVariables false
set_option maxRecDepth 4000
set_option maxHeartbeats 1000000
theorem wk_tkA {α : Type} (f : α → AV) (l : List α) : AV.sl false ((l.map f).take (l.map f).length) = slA f l := by rw [List.take_length]; rfl
/-- slices.Clone of numbers: an array of one's own. -/
theorem cloneI_own (l : List Int) (hl : l.length ≤ 1073741824) : CallSim Tryz.prog 36 [slA iA l] [] (.ref 1001 0 (l.map iA).length) [(1001, .arr 1 (l.map iA) false)] := by
  have hll := map_len iA l
  (refine callSim_of tok Tryz.func36 rfl (fun args w => Tryz.call36 args w) rfl rfl rfl (fun F hF => ?_))
  refine sim_nsplit 0 rfl (fun cap hx => ?_) ?_
  · have : l = [] := by simpa using hx
    subst this
    (repeat' (first | (refine is_ops ?_; first | refine x_auto tok rfl rfl ?_ | (refine is_call ?_; fail) | (refine is_grd ?_; first | refine x_on rfl rfl ?_ | refine x_off rfl rfl rfl rfl ?_ | (refine x_gsplit rfl rfl (fun hc => ?_) (fun hc => ?_) <;> (try simp only [cmpB, decide_eq_true_eq, decide_eq_false_iff_not, beq_iff_eq, bne_iff_ne, ne_eq, Bool.not_eq_true, beq_eq_false_iff_ne, bne_eq_false_iff_eq, Int.not_lt, Int.not_le, Decidable.not_not] at hc))) | (refine is_bin ?_; first | refine x_q (stp_cmp_t rfl rfl rfl (by unfold cmpP; omega)) rfl ?_ | refine x_q (stp_cmp_f rfl rfl rfl (by unfold cmpP; omega)) rfl ?_ | refine x_q (stp_cmp rfl rfl rfl) rfl ?_ | refine x_q (stp_add rfl rfl ⟨by omega, by omega⟩) rfl ?_ | refine x_q (stp_sub rfl rfl ⟨by omega, by omega⟩) rfl ?_ | refine x_q (stp_mul rfl rfl ⟨by omega, by omega⟩) rfl ?_ | refine x_q (stp_quo rfl rfl (by assumption) (by omega)) rfl ?_ | refine x_q (stp_rem rfl rfl (by omega)) rfl ?_ | refine x_q (stp_xor rfl rfl) rfl ?_ | refine x_q (stp_shlI rfl rfl (by omega)) rfl ?_ | refine x_q (stp_shrI rfl rfl (by omega)) rfl ?_ | refine x_q (stp_shift (.inl ⟨rfl, rfl⟩) rfl rfl (by omega)) rfl ?_ | refine x_q (stp_shift (.inr ⟨rfl, rfl⟩) rfl rfl (by omega)) rfl ?_ | refine x_q (stp_bool2 tok rfl rfl rfl rfl (.inl ⟨rfl, rfl⟩)) rfl ?_ | refine x_q (stp_bool2 tok rfl rfl rfl rfl (.inr ⟨rfl, rfl⟩)) rfl ?_ | refine x_q (stp_eqlNil tok (.inl ⟨rfl, rfl⟩) rfl rfl rfl) rfl ?_ | refine x_q (stp_eqlNil_not tok (.inl ⟨rfl, rfl⟩) rfl rfl rfl rfl) rfl ?_ | refine x_q (stp_andI rfl rfl) rfl ?_ | refine x_q (stp_orI rfl rfl) rfl ?_ | refine x_q (stp_bicI rfl rfl) rfl ?_ | refine x_q (stp_strEqV rfl rfl (by assumption)) rfl ?_ | refine x_q (stp_strEq rfl rfl) rfl ?_ | refine x_q (stp_strNeV rfl rfl (by assumption)) rfl ?_ | refine x_q (stp_strNe rfl rfl) rfl ?_) | (refine is_idx ?_; first | refine x_q (stp_indexAddr_sl tok rfl rfl rfl rfl rfl (by omega) (by first | rfl | assumption) rfl rfl) rfl ?_ | refine x_q (stp_indexAddr_r0 tok rfl rfl rfl rfl rfl rfl (by omega) (by omega) rfl) rfl ?_ | refine x_q (stp_indexAddr_box tok rfl rfl rfl rfl rfl rfl (by omega) (by omega)) rfl ?_) | (refine is_load ?_; first | refine x_q (stp_load_fp1 tok rfl rfl rfl (by first | rfl | assumption) rfl) rfl ?_ | refine x_q (stp_load_fpa tok rfl rfl rfl (by first | rfl | assumption) rfl) rfl ?_ | refine x_q (stp_load_arr1 tok rfl rfl rfl rfl (by first | rfl | assumption) rfl) rfl ?_ | refine x_q (stp_load_arra tok rfl rfl rfl rfl (by first | rfl | assumption) rfl) rfl ?_) | (refine is_fad ?_; first | refine x_q (stp_fieldAddr_arr tok rfl rfl rfl rfl rfl rfl rfl rfl) rfl ?_ | refine x_q (stp_fieldAddr_fp tok rfl (by first | rfl | assumption) rfl rfl rfl rfl rfl rfl) rfl ?_) | (refine is_app ?_; first | refine x_appref0 tok rfl rfl rfl rfl rfl rfl rfl (by first | (intro y hy; cases hy; rfl) | exact map_hd _ _ (fun _ => rfl)) rfl rfl rfl (by first | omega | (simp; done) | (simp; omega)) rfl ?_ | refine x_appref tok rfl rfl rfl rfl rfl rfl rfl rfl rfl rfl rfl (by first | (intro y hy; cases hy; rfl) | exact map_hd _ _ (fun _ => rfl)) (by first | omega | (simp; done) | (simp; omega)) rfl ?_) | (refine is_un ?_; first | refine x_q (stp_neg rfl ⟨by omega, by omega⟩) rfl ?_) | (refine is_conv ?_; first | refine x_q (stp_conv_in tok rfl rfl rfl rfl ⟨by omega, by omega⟩) rfl ?_ | refine x_q (stp_conv tok rfl rfl rfl rfl) rfl ?_ | refine x_q (stp_convStr tok rfl rfl rfl rfl rfl rfl rfl (by first | rfl | assumption)) rfl ?_) | (refine is_slc ?_; first | refine x_slcL tok rfl rfl rfl rfl rfl (by first | (intro y hy; cases hy; rfl) | exact map_hd _ _ (fun _ => rfl) | (simp; done)) (by omega) (by simp; omega) (by first | exact List.map_drop.symm | rfl) rfl ?_ | refine x_slcH tok rfl rfl rfl rfl rfl (by first | (intro y hy; cases hy; rfl) | exact map_hd _ _ (fun _ => rfl) | (simp; done)) (by omega) (by simp; omega) (by first | exact List.map_take.symm | rfl) rfl ?_) | fail | refine x_autow tok rfl rfl rfl rfl ?_ | (refine is_sto ?_; first | refine x_autos tok rfl rfl rfl ?_ | refine x_stoa tok rfl rfl rfl (by first | rfl | assumption) rfl rfl rfl rfl rfl rfl ?_ | refine x_sto1 tok rfl rfl rfl (by first | rfl | assumption) rfl rfl rfl rfl rfl rfl rfl rfl ?_) | refine x_nil ?_ | refine x_nilD (by kernel_rfl) ?_) | (first | refine sim_seq ?_ | refine x_region ?_ | refine x_draw rfl ?_ | refine sim_cond_true rfl ?_ | refine sim_cond_false rfl ?_ | (refine sim_cond rfl (fun hc => ?_) (fun hc => ?_) <;> (try simp only [cmpB, decide_eq_true_eq, decide_eq_false_iff_not, beq_iff_eq, bne_iff_ne, ne_eq, Bool.not_eq_true, beq_eq_false_iff_ne, bne_eq_false_iff_eq, Int.not_lt, Int.not_le, Decidable.not_not] at hc)) | refine sim_skip ?_ | refine sim_exit ?_ | refine sim_block ?_)))
    refine sim_virtF 2 1001 1 rfl rfl rfl (sim_ret ?_)
    exact fin_own [1001] rfl rfl rfl rfl
  · repeat' (first | (refine is_ops ?_; first | refine x_auto tok rfl rfl ?_ | (refine is_bin ?_; refine x_q (stp_eqlNil_not tok (.inl ⟨rfl, rfl⟩) rfl rfl rfl rfl) rfl ?_) | (refine is_bsl ?_; refine x_w (nw := [1001]) (stp_buildSlice tok 1001 (xs := []) rfl rfl rfl rfl rfl rfl rfl rfl rfl) rfl rfl rfl ?_) | (refine is_app ?_; refine x_appref0 tok rfl rfl rfl rfl rfl rfl rfl (map_hd _ _ (fun _ => rfl)) rfl rfl rfl (by omega) rfl ?_) | refine x_nil ?_) | (first | refine sim_seq ?_ | refine x_region ?_ | refine x_draw rfl ?_ | refine sim_cond_true rfl ?_ | refine sim_cond_false rfl ?_ | refine sim_cond rfl (fun hc => ?_) (fun hc => ?_) | refine sim_skip ?_ | refine sim_ret ?_ | refine sim_exit ?_ | refine sim_block ?_))
    exact fin_own [1001] rfl rfl rfl rfl
theorem cloneI_c (l : List Int) (hl : l.length ≤ 1073741824) : CallSim Tryz.prog 36 [slA iA l] [] (slA iA l) [] := by
  have hll := map_len iA l
  (refine callSim_of tok Tryz.func36 rfl (fun args w => Tryz.call36 args w) rfl rfl rfl (fun F hF => ?_))
  refine sim_nsplit 0 rfl (fun cap hx => ?_) ?_
  · have : l = [] := by simpa using hx
    subst this
    (refine WW ?_)
    exact fin_ret [] rfl rfl rfl rfl
  · (refine WW ?_)
    refine fin_ret [] rfl rfl (wk_tkA _ _) rfl
/-- A service's numbers are few. -/
structure SvB (s : Sv) : Prop where
  n : s.en.length ≤ 100000
theorem copyS_own (s : Sv) (h : SvB s) : CallSim Tryz.prog 37 [svA s] [] (.agg [iA s.ph, iA s.gr, .ref 1001 0 (s.en.map iA).length]) [(1001, .arr 1 (s.en.map iA) false)] := by
  have c := cloneI_own s.en (by have := h.n; omega)
  (refine callSim_of tok Tryz.func37 rfl (fun args w => Tryz.call37 args w) rfl rfl rfl (fun F hF => ?_))
  (have zc1 := c; refine WW ?_; clear zc1)
  exact fin_own [1001] rfl rfl rfl rfl
theorem copyS_c (s : Sv) (h : SvB s) : CallSim Tryz.prog 37 [svA s] [] (svA s) [] := by
  have c := cloneI_c s.en (by have := h.n; omega)
  (refine callSim_of tok Tryz.func37 rfl (fun args w => Tryz.call37 args w) rfl rfl rfl (fun F hF => ?_))
  (have zc1 := c; refine WW ?_; clear zc1)
  exact fin_ret [] rfl rfl rfl rfl
theorem copyS2_c (s : Sv) (h : SvB s) : CallSim Tryz.prog 45 [svA s] [] (svA s) [] := by
  have := h.n
  have hl := map_len iA s.en
  (refine callSim_of tok Tryz.func45 rfl (fun args w => Tryz.call45 args w) rfl rfl rfl (fun F hF => ?_))
  (refine WL ?_)
  exact fin_ret [] rfl rfl rfl rfl
theorem copyS2_own (s : Sv) (h : SvB s) : CallSim Tryz.prog 45 [svA s] [] (.agg [iA s.ph, iA s.gr, .ref 1001 0 (s.en.map iA).length]) [(1001, .arr 1 (s.en.map iA) false)] := by
  have := h.n
  have hl := map_len iA s.en
  (refine callSim_of tok Tryz.func45 rfl (fun args w => Tryz.call45 args w) rfl rfl rfl (fun F hF => ?_))
  (repeat' (first | (refine is_ops ?_; first | refine x_auto tok rfl rfl ?_ | (refine is_call ?_; fail) | (refine is_grd ?_; first | refine x_on rfl rfl ?_ | refine x_off rfl rfl rfl rfl ?_ | (refine x_gsplit rfl rfl (fun hc => ?_) (fun hc => ?_) <;> (try simp only [cmpB, decide_eq_true_eq, decide_eq_false_iff_not, beq_iff_eq, bne_iff_ne, ne_eq, Bool.not_eq_true, beq_eq_false_iff_ne, bne_eq_false_iff_eq, Int.not_lt, Int.not_le, Decidable.not_not] at hc))) | (refine is_bin ?_; first | refine x_q (stp_cmp_t rfl rfl rfl (by unfold cmpP; omega)) rfl ?_ | refine x_q (stp_cmp_f rfl rfl rfl (by unfold cmpP; omega)) rfl ?_ | refine x_q (stp_cmp rfl rfl rfl) rfl ?_ | refine x_q (stp_add rfl rfl ⟨by omega, by omega⟩) rfl ?_ | refine x_q (stp_sub rfl rfl ⟨by omega, by omega⟩) rfl ?_ | refine x_q (stp_mul rfl rfl ⟨by omega, by omega⟩) rfl ?_ | refine x_q (stp_quo rfl rfl (by assumption) (by omega)) rfl ?_ | refine x_q (stp_rem rfl rfl (by omega)) rfl ?_ | refine x_q (stp_xor rfl rfl) rfl ?_ | refine x_q (stp_shlI rfl rfl (by omega)) rfl ?_ | refine x_q (stp_shrI rfl rfl (by omega)) rfl ?_ | refine x_q (stp_shift (.inl ⟨rfl, rfl⟩) rfl rfl (by omega)) rfl ?_ | refine x_q (stp_shift (.inr ⟨rfl, rfl⟩) rfl rfl (by omega)) rfl ?_ | refine x_q (stp_bool2 tok rfl rfl rfl rfl (.inl ⟨rfl, rfl⟩)) rfl ?_ | refine x_q (stp_bool2 tok rfl rfl rfl rfl (.inr ⟨rfl, rfl⟩)) rfl ?_ | refine x_q (stp_eqlNil tok (.inl ⟨rfl, rfl⟩) rfl rfl rfl) rfl ?_ | refine x_q (stp_eqlNil_not tok (.inl ⟨rfl, rfl⟩) rfl rfl rfl rfl) rfl ?_ | refine x_q (stp_andI rfl rfl) rfl ?_ | refine x_q (stp_orI rfl rfl) rfl ?_ | refine x_q (stp_bicI rfl rfl) rfl ?_ | refine x_q (stp_strEqV rfl rfl (by assumption)) rfl ?_ | refine x_q (stp_strEq rfl rfl) rfl ?_ | refine x_q (stp_strNeV rfl rfl (by assumption)) rfl ?_ | refine x_q (stp_strNe rfl rfl) rfl ?_) | (refine is_idx ?_; first | refine x_q (stp_indexAddr_sl tok rfl rfl rfl rfl rfl (by omega) (by first | rfl | assumption) rfl rfl) rfl ?_ | refine x_q (stp_indexAddr_r0 tok rfl rfl rfl rfl rfl rfl (by omega) (by omega) rfl) rfl ?_ | refine x_q (stp_indexAddr_box tok rfl rfl rfl rfl rfl rfl (by omega) (by omega)) rfl ?_) | (refine is_load ?_; first | refine x_q (stp_load_fp1 tok rfl rfl rfl (by first | rfl | assumption) rfl) rfl ?_ | refine x_q (stp_load_fpa tok rfl rfl rfl (by first | rfl | assumption) rfl) rfl ?_ | refine x_q (stp_load_arr1 tok rfl rfl rfl rfl (by first | rfl | assumption) rfl) rfl ?_ | refine x_q (stp_load_arra tok rfl rfl rfl rfl (by first | rfl | assumption) rfl) rfl ?_) | (refine is_fad ?_; first | refine x_q (stp_fieldAddr_arr tok rfl rfl rfl rfl rfl rfl rfl rfl) rfl ?_ | refine x_q (stp_fieldAddr_fp tok rfl (by first | rfl | assumption) rfl rfl rfl rfl rfl rfl) rfl ?_) | (refine is_app ?_; first | refine x_appref0 tok rfl rfl rfl rfl rfl rfl rfl (by first | (intro y hy; cases hy; rfl) | exact map_hd _ _ (fun _ => rfl)) rfl rfl rfl (by first | omega | (simp; done) | (simp; omega)) rfl ?_ | refine x_appref tok rfl rfl rfl rfl rfl rfl rfl rfl rfl rfl rfl (by first | (intro y hy; cases hy; rfl) | exact map_hd _ _ (fun _ => rfl)) (by first | omega | (simp; done) | (simp; omega)) rfl ?_) | (refine is_un ?_; first | refine x_q (stp_neg rfl ⟨by omega, by omega⟩) rfl ?_) | (refine is_conv ?_; first | refine x_q (stp_conv_in tok rfl rfl rfl rfl ⟨by omega, by omega⟩) rfl ?_ | refine x_q (stp_conv tok rfl rfl rfl rfl) rfl ?_ | refine x_q (stp_convStr tok rfl rfl rfl rfl rfl rfl rfl (by first | rfl | assumption)) rfl ?_) | (refine is_slc ?_; first | refine x_slcL tok rfl rfl rfl rfl rfl (by first | (intro y hy; cases hy; rfl) | exact map_hd _ _ (fun _ => rfl) | (simp; done)) (by omega) (by simp; omega) (by first | exact List.map_drop.symm | rfl) rfl ?_ | refine x_slcH tok rfl rfl rfl rfl rfl (by first | (intro y hy; cases hy; rfl) | exact map_hd _ _ (fun _ => rfl) | (simp; done)) (by omega) (by simp; omega) (by first | exact List.map_take.symm | rfl) rfl ?_) | (refine is_app ?_; refine x_appnilK 1001 tok rfl rfl rfl rfl rfl rfl (map_hd _ _ (fun _ => rfl)) rfl rfl rfl (by omega) rfl rfl rfl ?_) | refine x_autow tok rfl rfl rfl rfl ?_ | (refine is_sto ?_; first | refine x_autos tok rfl rfl rfl ?_ | refine x_stoa tok rfl rfl rfl (by first | rfl | assumption) rfl rfl rfl rfl rfl rfl ?_ | refine x_sto1 tok rfl rfl rfl (by first | rfl | assumption) rfl rfl rfl rfl rfl rfl rfl rfl ?_) | refine x_nil ?_ | refine x_nilD (by kernel_rfl) ?_) | (first | refine sim_seq ?_ | refine x_region ?_ | refine x_draw rfl ?_ | refine sim_cond_true rfl ?_ | refine sim_cond_false rfl ?_ | (refine sim_cond rfl (fun hc => ?_) (fun hc => ?_) <;> (try simp only [cmpB, decide_eq_true_eq, decide_eq_false_iff_not, beq_iff_eq, bne_iff_ne, ne_eq, Bool.not_eq_true, beq_eq_false_iff_ne, bne_eq_false_iff_eq, Int.not_lt, Int.not_le, Decidable.not_not] at hc)) | refine sim_skip ?_ | refine sim_ret ?_ | refine sim_exit ?_ | refine sim_block ?_)))
  exact fin_own [1001] rfl rfl rfl rfl
def cntF (s : Sv) (green : Bool) : Sv := if green = true ∧ s.ph ≠ -1 then ⟨s.ph, min s.gr 59 + 1, s.en⟩ else s
theorem count_c (s : Sv) (h : SvB s) (b : Bool) (hg : -1000000 ≤ s.gr) : CallSim Tryz.prog 26 [svA s, bA b] [] (svA (cntF s b)) [] := by
  have c := copyS_c s h
  by_cases h1 : b = true
  · subst h1
    by_cases h2 : s.ph = -1
    · rw [show cntF s true = s by simp [cntF, h2]]
      (refine callSim_of tok Tryz.func26 rfl (fun args w => Tryz.call26 args w) rfl rfl rfl (fun F hF => ?_))
      (have zc1 := c; refine WW ?_; clear zc1)
      exact fin_ret [] rfl rfl rfl rfl
    · rw [show cntF s true = ⟨s.ph, min s.gr 59 + 1, s.en⟩ by simp [cntF, h2]]
      (refine callSim_of tok Tryz.func26 rfl (fun args w => Tryz.call26 args w) rfl rfl rfl (fun F hF => ?_))
      (have zc1 := c; refine WW ?_; clear zc1)
      exact fin_ret [] rfl rfl rfl rfl
  · obtain rfl : b = false := by simpa using h1
    rw [show cntF s false = s by simp [cntF]]
    (refine callSim_of tok Tryz.func26 rfl (fun args w => Tryz.call26 args w) rfl rfl rfl (fun F hF => ?_))
    (have zc1 := c; refine WW ?_; clear zc1)
    exact fin_ret [] rfl rfl rfl rfl
theorem count2_c (s : Sv) (h : SvB s) (b : Bool) (hg : -1000000 ≤ s.gr ∧ s.gr ≤ 1000000) : CallSim Tryz.prog 31 [svA s, bA b] [] (svA (cntF s b)) [] := by
  have c := copyS2_c s h
  by_cases h1 : b = true
  · subst h1
    by_cases h2 : s.ph = -1
    · rw [show cntF s true = s by simp [cntF, h2]]
      (refine callSim_of tok Tryz.func31 rfl (fun args w => Tryz.call31 args w) rfl rfl rfl (fun F hF => ?_))
      (have zc1 := c; refine WW ?_; clear zc1)
      exact fin_ret [] rfl rfl rfl rfl
    · rw [show cntF s true = ⟨s.ph, min (s.gr + 1) 60, s.en⟩ by simp [cntF, h2]; omega]
      (refine callSim_of tok Tryz.func31 rfl (fun args w => Tryz.call31 args w) rfl rfl rfl (fun F hF => ?_))
      (have zc1 := c; refine WW ?_; clear zc1)
      exact fin_ret [] rfl rfl rfl rfl
  · obtain rfl : b = false := by simpa using h1
    rw [show cntF s false = s by simp [cntF]]
    (refine callSim_of tok Tryz.func31 rfl (fun args w => Tryz.call31 args w) rfl rfl rfl (fun F hF => ?_))
    (have zc1 := c; refine WW ?_; clear zc1)
    exact fin_ret [] rfl rfl rfl rfl
def endsF (s : Sv) (now : Int) : Sv := ⟨-1, 0, if 0 < s.gr ∧ 0 ≤ s.ph ∧ s.ph < s.en.length then s.en.set s.ph.toNat now else s.en⟩
theorem set_take {α : Type} (f : α → AV) (l : List α) (i : Nat) (x : α) (n : Nat) (hn : n = l.length) : AV.sl false (((l.map f).set i (f x)).take n) = slA f (l.set i x) := by
  rw [← List.map_set, List.take_of_length_le (by simp; omega)]; rfl
theorem end_c (s : Sv) (h : SvB s) (now : Int) : CallSim Tryz.prog 23 [svA s, iA now] [] (svA (endsF s now)) [] := by
  have c := copyS_own s h
  have hl := map_len iA s.en
  by_cases h1 : 0 < s.gr ∧ 0 ≤ s.ph ∧ s.ph < s.en.length
  · obtain ⟨h2, h3, h4⟩ := h1
    have hy := map_atI iA s.en s.ph h3 h4
    rw [show endsF s now = ⟨-1, 0, s.en.set s.ph.toNat now⟩ by simp [endsF, h2, h3, h4]]
    (refine callSim_of tok Tryz.func23 rfl (fun args w => Tryz.call23 args w) rfl rfl rfl (fun F hF => ?_))
    (have zc1 := c; refine WW ?_; clear zc1)
    refine fin_ret [] rfl rfl (congrArg (fun x => AV.agg [iA (-1), iA 0, x]) (set_take iA s.en s.ph.toNat now _ hl)) rfl
  · rw [show endsF s now = ⟨-1, 0, s.en⟩ by unfold endsF; rw [if_neg h1]]
    (refine callSim_of tok Tryz.func23 rfl (fun args w => Tryz.call23 args w) rfl rfl rfl (fun F hF => ?_))
    (repeat' (first | (refine is_ops ?_; first | refine x_auto tok rfl rfl ?_ | (refine is_call ?_; (first | (refine is_fn 37 ?_; first | refine x_q (stp_call (c) rfl rfl rfl rfl rfl) rfl ?_ | refine x_w (stp_call (c) rfl rfl rfl rfl rfl) rfl rfl rfl ?_ | refine x_d (stp_call (c) rfl rfl rfl rfl rfl) rfl rfl rfl ?_))) | (refine is_grd ?_; first | refine x_on rfl rfl ?_ | refine x_off rfl rfl rfl rfl ?_ | (refine x_gsplit rfl rfl (fun hc => ?_) (fun hc => ?_) <;> (try simp only [cmpB, decide_eq_true_eq, decide_eq_false_iff_not, beq_iff_eq, bne_iff_ne, ne_eq, Bool.not_eq_true, beq_eq_false_iff_ne, bne_eq_false_iff_eq, Int.not_lt, Int.not_le, Decidable.not_not] at hc))) | (refine is_bin ?_; first | refine x_q (stp_cmp_t rfl rfl rfl (by unfold cmpP; omega)) rfl ?_ | refine x_q (stp_cmp_f rfl rfl rfl (by unfold cmpP; omega)) rfl ?_ | refine x_q (stp_cmp rfl rfl rfl) rfl ?_ | refine x_q (stp_add rfl rfl ⟨by omega, by omega⟩) rfl ?_ | refine x_q (stp_sub rfl rfl ⟨by omega, by omega⟩) rfl ?_ | refine x_q (stp_mul rfl rfl ⟨by omega, by omega⟩) rfl ?_ | refine x_q (stp_quo rfl rfl (by assumption) (by omega)) rfl ?_ | refine x_q (stp_rem rfl rfl (by omega)) rfl ?_ | refine x_q (stp_xor rfl rfl) rfl ?_ | refine x_q (stp_shlI rfl rfl (by omega)) rfl ?_ | refine x_q (stp_shrI rfl rfl (by omega)) rfl ?_ | refine x_q (stp_shift (.inl ⟨rfl, rfl⟩) rfl rfl (by omega)) rfl ?_ | refine x_q (stp_shift (.inr ⟨rfl, rfl⟩) rfl rfl (by omega)) rfl ?_ | refine x_q (stp_bool2 tok rfl rfl rfl rfl (.inl ⟨rfl, rfl⟩)) rfl ?_ | refine x_q (stp_bool2 tok rfl rfl rfl rfl (.inr ⟨rfl, rfl⟩)) rfl ?_ | refine x_q (stp_eqlNil tok (.inl ⟨rfl, rfl⟩) rfl rfl rfl) rfl ?_ | refine x_q (stp_eqlNil_not tok (.inl ⟨rfl, rfl⟩) rfl rfl rfl rfl) rfl ?_ | refine x_q (stp_andI rfl rfl) rfl ?_ | refine x_q (stp_orI rfl rfl) rfl ?_ | refine x_q (stp_bicI rfl rfl) rfl ?_ | refine x_q (stp_strEqV rfl rfl (by assumption)) rfl ?_ | refine x_q (stp_strEq rfl rfl) rfl ?_ | refine x_q (stp_strNeV rfl rfl (by assumption)) rfl ?_ | refine x_q (stp_strNe rfl rfl) rfl ?_) | (refine is_idx ?_; first | refine x_q (stp_indexAddr_sl tok rfl rfl rfl rfl rfl (by omega) (by first | rfl | assumption) rfl rfl) rfl ?_ | refine x_q (stp_indexAddr_r0 tok rfl rfl rfl rfl rfl rfl (by omega) (by omega) rfl) rfl ?_ | refine x_q (stp_indexAddr_box tok rfl rfl rfl rfl rfl rfl (by omega) (by omega)) rfl ?_) | (refine is_load ?_; first | refine x_q (stp_load_fp1 tok rfl rfl rfl (by first | rfl | assumption) rfl) rfl ?_ | refine x_q (stp_load_fpa tok rfl rfl rfl (by first | rfl | assumption) rfl) rfl ?_ | refine x_q (stp_load_arr1 tok rfl rfl rfl rfl (by first | rfl | assumption) rfl) rfl ?_ | refine x_q (stp_load_arra tok rfl rfl rfl rfl (by first | rfl | assumption) rfl) rfl ?_) | (refine is_fad ?_; first | refine x_q (stp_fieldAddr_arr tok rfl rfl rfl rfl rfl rfl rfl rfl) rfl ?_ | refine x_q (stp_fieldAddr_fp tok rfl (by first | rfl | assumption) rfl rfl rfl rfl rfl rfl) rfl ?_) | (refine is_app ?_; first | refine x_appref0 tok rfl rfl rfl rfl rfl rfl rfl (by first | (intro y hy; cases hy; rfl) | exact map_hd _ _ (fun _ => rfl)) rfl rfl rfl (by first | omega | (simp; done) | (simp; omega)) rfl ?_ | refine x_appref tok rfl rfl rfl rfl rfl rfl rfl rfl rfl rfl rfl (by first | (intro y hy; cases hy; rfl) | exact map_hd _ _ (fun _ => rfl)) (by first | omega | (simp; done) | (simp; omega)) rfl ?_) | (refine is_un ?_; first | refine x_q (stp_neg rfl ⟨by omega, by omega⟩) rfl ?_) | (refine is_conv ?_; first | refine x_q (stp_conv_in tok rfl rfl rfl rfl ⟨by omega, by omega⟩) rfl ?_ | refine x_q (stp_conv tok rfl rfl rfl rfl) rfl ?_ | refine x_q (stp_convStr tok rfl rfl rfl rfl rfl rfl rfl (by first | rfl | assumption)) rfl ?_) | (refine is_slc ?_; first | refine x_slcL tok rfl rfl rfl rfl rfl (by first | (intro y hy; cases hy; rfl) | exact map_hd _ _ (fun _ => rfl) | (simp; done)) (by omega) (by simp; omega) (by first | exact List.map_drop.symm | rfl) rfl ?_ | refine x_slcH tok rfl rfl rfl rfl rfl (by first | (intro y hy; cases hy; rfl) | exact map_hd _ _ (fun _ => rfl) | (simp; done)) (by omega) (by simp; omega) (by first | exact List.map_take.symm | rfl) rfl ?_) | (refine is_mks ?_; refine x_mks tok rfl rfl rfl rfl rfl rfl rfl rfl rfl rfl rfl rfl rfl (by omega) (by omega) rfl rfl rfl ?_) | refine x_autow tok rfl rfl rfl rfl ?_ | (refine is_sto ?_; first | refine x_autos tok rfl rfl rfl ?_ | refine x_stoa tok rfl rfl rfl (by first | rfl | assumption) rfl rfl rfl rfl rfl rfl ?_ | refine x_sto1 tok rfl rfl rfl (by first | rfl | assumption) rfl rfl rfl rfl rfl rfl rfl rfl ?_) | refine x_nil ?_ | refine x_nilD (by kernel_rfl) ?_) | (first | refine sim_seq ?_ | refine x_region ?_ | refine x_draw rfl ?_ | refine sim_cond_true rfl ?_ | refine sim_cond_false rfl ?_ | (refine sim_cond rfl (fun hc => ?_) (fun hc => ?_) <;> (try simp only [cmpB, decide_eq_true_eq, decide_eq_false_iff_not, beq_iff_eq, bne_iff_ne, ne_eq, Bool.not_eq_true, beq_eq_false_iff_ne, bne_eq_false_iff_eq, Int.not_lt, Int.not_le, Decidable.not_not] at hc)) | refine sim_skip ?_ | refine sim_ret ?_ | refine sim_exit ?_ | refine sim_block ?_)))
    all_goals (try omega)
    all_goals refine fin_ret [] rfl rfl (congrArg (fun x => AV.agg [iA (-1), iA 0, x]) (wk_tkA iA s.en)) rfl
theorem end2_c (s : Sv) (h : SvB s) (now : Int) : CallSim Tryz.prog 28 [svA s, iA now] [] (svA (endsF s now)) [] := by
  have c := copyS2_own s h
  have hl := map_len iA s.en
  by_cases h1 : 0 < s.gr ∧ 0 ≤ s.ph ∧ s.ph < s.en.length
  · obtain ⟨h2, h3, h4⟩ := h1
    have hy := map_atI iA s.en s.ph h3 h4
    rw [show endsF s now = ⟨-1, 0, s.en.set s.ph.toNat now⟩ by simp [endsF, h2, h3, h4]]
    (refine callSim_of tok Tryz.func28 rfl (fun args w => Tryz.call28 args w) rfl rfl rfl (fun F hF => ?_))
    (have zc1 := c; refine WW ?_; clear zc1)
    refine fin_ret [] rfl rfl (congrArg (fun x => AV.agg [iA (-1), iA 0, x]) (set_take iA s.en s.ph.toNat now _ hl)) rfl
  · rw [show endsF s now = ⟨-1, 0, s.en⟩ by unfold endsF; rw [if_neg h1]]
    (refine callSim_of tok Tryz.func28 rfl (fun args w => Tryz.call28 args w) rfl rfl rfl (fun F hF => ?_))
    (repeat' (first | (refine is_ops ?_; first | refine x_auto tok rfl rfl ?_ | (refine is_call ?_; (first | (refine is_fn 45 ?_; first | refine x_q (stp_call (c) rfl rfl rfl rfl rfl) rfl ?_ | refine x_w (stp_call (c) rfl rfl rfl rfl rfl) rfl rfl rfl ?_ | refine x_d (stp_call (c) rfl rfl rfl rfl rfl) rfl rfl rfl ?_))) | (refine is_grd ?_; first | refine x_on rfl rfl ?_ | refine x_off rfl rfl rfl rfl ?_ | (refine x_gsplit rfl rfl (fun hc => ?_) (fun hc => ?_) <;> (try simp only [cmpB, decide_eq_true_eq, decide_eq_false_iff_not, beq_iff_eq, bne_iff_ne, ne_eq, Bool.not_eq_true, beq_eq_false_iff_ne, bne_eq_false_iff_eq, Int.not_lt, Int.not_le, Decidable.not_not] at hc))) | (refine is_bin ?_; first | refine x_q (stp_cmp_t rfl rfl rfl (by unfold cmpP; omega)) rfl ?_ | refine x_q (stp_cmp_f rfl rfl rfl (by unfold cmpP; omega)) rfl ?_ | refine x_q (stp_cmp rfl rfl rfl) rfl ?_ | refine x_q (stp_add rfl rfl ⟨by omega, by omega⟩) rfl ?_ | refine x_q (stp_sub rfl rfl ⟨by omega, by omega⟩) rfl ?_ | refine x_q (stp_mul rfl rfl ⟨by omega, by omega⟩) rfl ?_ | refine x_q (stp_quo rfl rfl (by assumption) (by omega)) rfl ?_ | refine x_q (stp_rem rfl rfl (by omega)) rfl ?_ | refine x_q (stp_xor rfl rfl) rfl ?_ | refine x_q (stp_shlI rfl rfl (by omega)) rfl ?_ | refine x_q (stp_shrI rfl rfl (by omega)) rfl ?_ | refine x_q (stp_shift (.inl ⟨rfl, rfl⟩) rfl rfl (by omega)) rfl ?_ | refine x_q (stp_shift (.inr ⟨rfl, rfl⟩) rfl rfl (by omega)) rfl ?_ | refine x_q (stp_bool2 tok rfl rfl rfl rfl (.inl ⟨rfl, rfl⟩)) rfl ?_ | refine x_q (stp_bool2 tok rfl rfl rfl rfl (.inr ⟨rfl, rfl⟩)) rfl ?_ | refine x_q (stp_eqlNil tok (.inl ⟨rfl, rfl⟩) rfl rfl rfl) rfl ?_ | refine x_q (stp_eqlNil_not tok (.inl ⟨rfl, rfl⟩) rfl rfl rfl rfl) rfl ?_ | refine x_q (stp_andI rfl rfl) rfl ?_ | refine x_q (stp_orI rfl rfl) rfl ?_ | refine x_q (stp_bicI rfl rfl) rfl ?_ | refine x_q (stp_strEqV rfl rfl (by assumption)) rfl ?_ | refine x_q (stp_strEq rfl rfl) rfl ?_ | refine x_q (stp_strNeV rfl rfl (by assumption)) rfl ?_ | refine x_q (stp_strNe rfl rfl) rfl ?_) | (refine is_idx ?_; first | refine x_q (stp_indexAddr_sl tok rfl rfl rfl rfl rfl (by omega) (by first | rfl | assumption) rfl rfl) rfl ?_ | refine x_q (stp_indexAddr_r0 tok rfl rfl rfl rfl rfl rfl (by omega) (by omega) rfl) rfl ?_ | refine x_q (stp_indexAddr_box tok rfl rfl rfl rfl rfl rfl (by omega) (by omega)) rfl ?_) | (refine is_load ?_; first | refine x_q (stp_load_fp1 tok rfl rfl rfl (by first | rfl | assumption) rfl) rfl ?_ | refine x_q (stp_load_fpa tok rfl rfl rfl (by first | rfl | assumption) rfl) rfl ?_ | refine x_q (stp_load_arr1 tok rfl rfl rfl rfl (by first | rfl | assumption) rfl) rfl ?_ | refine x_q (stp_load_arra tok rfl rfl rfl rfl (by first | rfl | assumption) rfl) rfl ?_) | (refine is_fad ?_; first | refine x_q (stp_fieldAddr_arr tok rfl rfl rfl rfl rfl rfl rfl rfl) rfl ?_ | refine x_q (stp_fieldAddr_fp tok rfl (by first | rfl | assumption) rfl rfl rfl rfl rfl rfl) rfl ?_) | (refine is_app ?_; first | refine x_appref0 tok rfl rfl rfl rfl rfl rfl rfl (by first | (intro y hy; cases hy; rfl) | exact map_hd _ _ (fun _ => rfl)) rfl rfl rfl (by first | omega | (simp; done) | (simp; omega)) rfl ?_ | refine x_appref tok rfl rfl rfl rfl rfl rfl rfl rfl rfl rfl rfl (by first | (intro y hy; cases hy; rfl) | exact map_hd _ _ (fun _ => rfl)) (by first | omega | (simp; done) | (simp; omega)) rfl ?_) | (refine is_un ?_; first | refine x_q (stp_neg rfl ⟨by omega, by omega⟩) rfl ?_) | (refine is_conv ?_; first | refine x_q (stp_conv_in tok rfl rfl rfl rfl ⟨by omega, by omega⟩) rfl ?_ | refine x_q (stp_conv tok rfl rfl rfl rfl) rfl ?_ | refine x_q (stp_convStr tok rfl rfl rfl rfl rfl rfl rfl (by first | rfl | assumption)) rfl ?_) | (refine is_slc ?_; first | refine x_slcL tok rfl rfl rfl rfl rfl (by first | (intro y hy; cases hy; rfl) | exact map_hd _ _ (fun _ => rfl) | (simp; done)) (by omega) (by simp; omega) (by first | exact List.map_drop.symm | rfl) rfl ?_ | refine x_slcH tok rfl rfl rfl rfl rfl (by first | (intro y hy; cases hy; rfl) | exact map_hd _ _ (fun _ => rfl) | (simp; done)) (by omega) (by simp; omega) (by first | exact List.map_take.symm | rfl) rfl ?_) | (refine is_mks ?_; refine x_mks tok rfl rfl rfl rfl rfl rfl rfl rfl rfl rfl rfl rfl rfl (by omega) (by omega) rfl rfl rfl ?_) | refine x_autow tok rfl rfl rfl rfl ?_ | (refine is_sto ?_; first | refine x_autos tok rfl rfl rfl ?_ | refine x_stoa tok rfl rfl rfl (by first | rfl | assumption) rfl rfl rfl rfl rfl rfl ?_ | refine x_sto1 tok rfl rfl rfl (by first | rfl | assumption) rfl rfl rfl rfl rfl rfl rfl rfl ?_) | refine x_nil ?_ | refine x_nilD (by kernel_rfl) ?_) | (first | refine sim_seq ?_ | refine x_region ?_ | refine x_draw rfl ?_ | refine sim_cond_true rfl ?_ | refine sim_cond_false rfl ?_ | (refine sim_cond rfl (fun hc => ?_) (fun hc => ?_) <;> (try simp only [cmpB, decide_eq_true_eq, decide_eq_false_iff_not, beq_iff_eq, bne_iff_ne, ne_eq, Bool.not_eq_true, beq_eq_false_iff_ne, bne_eq_false_iff_eq, Int.not_lt, Int.not_le, Decidable.not_not] at hc)) | refine sim_skip ?_ | refine sim_ret ?_ | refine sim_exit ?_ | refine sim_block ?_)))
    all_goals (try omega)
    all_goals refine fin_ret [] rfl rfl (congrArg (fun x => AV.agg [iA (-1), iA 0, x]) (wk_tkA iA s.en)) rfl
end Av
end Go.Proofs.YtkliodbbcblobaaGreat
/- law21: New, Valid, Same. -/
namespace Go.Proofs.YtkliodbbcblobaaGreat
namespace Av
set_option linter.unusedSimpArgs false
set_option linter.unusedVariables false
set_option maxRecDepth 4000
set_option maxHeartbeats 1000000
def newF (n : Nat) : Sv := ⟨-1, 0, List.replicate n (-1)⟩
theorem set_rep (n i : Nat) (h : i < n) : ((List.replicate i (-1 : Int) ++ List.replicate (n - i) 0).map iA).set i (iA (-1)) = (List.replicate (i + 1) (-1 : Int) ++ List.replicate (n - (i + 1)) 0).map iA := by
  rw [← List.map_set, show n - i = (n - (i + 1)) + 1 by omega, List.replicate_succ, List.set_append_right _ _ (by simp), List.length_replicate, Nat.sub_self, List.set_cons_zero, List.replicate_succ', List.append_assoc]
  rfl
theorem newA2_c (n : Nat) (h : n ≤ 100000) : CallSim Tryz.prog 9 [iA n] [] (svA (newF n)) [] := by
  (refine callSim_of tok Tryz.func9 rfl (fun args w => Tryz.call9 args w) rfl rfl rfl (fun F hF => ?_))
  (repeat' (first | (refine is_ops ?_; first | refine x_auto tok rfl rfl ?_ | (refine is_call ?_; fail) | (refine is_grd ?_; first | refine x_on rfl rfl ?_ | refine x_off rfl rfl rfl rfl ?_ | (refine x_gsplit rfl rfl (fun hc => ?_) (fun hc => ?_) <;> (try simp only [cmpB, decide_eq_true_eq, decide_eq_false_iff_not, beq_iff_eq, bne_iff_ne, ne_eq, Bool.not_eq_true, beq_eq_false_iff_ne, bne_eq_false_iff_eq, Int.not_lt, Int.not_le, Decidable.not_not] at hc))) | (refine is_bin ?_; first | refine x_q (stp_cmp_t rfl rfl rfl (by unfold cmpP; omega)) rfl ?_ | refine x_q (stp_cmp_f rfl rfl rfl (by unfold cmpP; omega)) rfl ?_ | refine x_q (stp_cmp rfl rfl rfl) rfl ?_ | refine x_q (stp_add rfl rfl ⟨by omega, by omega⟩) rfl ?_ | refine x_q (stp_sub rfl rfl ⟨by omega, by omega⟩) rfl ?_ | refine x_q (stp_mul rfl rfl ⟨by omega, by omega⟩) rfl ?_ | refine x_q (stp_quo rfl rfl (by assumption) (by omega)) rfl ?_ | refine x_q (stp_rem rfl rfl (by omega)) rfl ?_ | refine x_q (stp_xor rfl rfl) rfl ?_ | refine x_q (stp_shlI rfl rfl (by omega)) rfl ?_ | refine x_q (stp_shrI rfl rfl (by omega)) rfl ?_ | refine x_q (stp_shift (.inl ⟨rfl, rfl⟩) rfl rfl (by omega)) rfl ?_ | refine x_q (stp_shift (.inr ⟨rfl, rfl⟩) rfl rfl (by omega)) rfl ?_ | refine x_q (stp_bool2 tok rfl rfl rfl rfl (.inl ⟨rfl, rfl⟩)) rfl ?_ | refine x_q (stp_bool2 tok rfl rfl rfl rfl (.inr ⟨rfl, rfl⟩)) rfl ?_ | refine x_q (stp_eqlNil tok (.inl ⟨rfl, rfl⟩) rfl rfl rfl) rfl ?_ | refine x_q (stp_eqlNil_not tok (.inl ⟨rfl, rfl⟩) rfl rfl rfl rfl) rfl ?_ | refine x_q (stp_andI rfl rfl) rfl ?_ | refine x_q (stp_orI rfl rfl) rfl ?_ | refine x_q (stp_bicI rfl rfl) rfl ?_ | refine x_q (stp_strEqV rfl rfl (by assumption)) rfl ?_ | refine x_q (stp_strEq rfl rfl) rfl ?_ | refine x_q (stp_strNeV rfl rfl (by assumption)) rfl ?_ | refine x_q (stp_strNe rfl rfl) rfl ?_) | (refine is_idx ?_; first | refine x_q (stp_indexAddr_sl tok rfl rfl rfl rfl rfl (by omega) (by first | rfl | assumption) rfl rfl) rfl ?_ | refine x_q (stp_indexAddr_r0 tok rfl rfl rfl rfl rfl rfl (by omega) (by omega) rfl) rfl ?_ | refine x_q (stp_indexAddr_box tok rfl rfl rfl rfl rfl rfl (by omega) (by omega)) rfl ?_) | (refine is_load ?_; first | refine x_q (stp_load_fp1 tok rfl rfl rfl (by first | rfl | assumption) rfl) rfl ?_ | refine x_q (stp_load_fpa tok rfl rfl rfl (by first | rfl | assumption) rfl) rfl ?_ | refine x_q (stp_load_arr1 tok rfl rfl rfl rfl (by first | rfl | assumption) rfl) rfl ?_ | refine x_q (stp_load_arra tok rfl rfl rfl rfl (by first | rfl | assumption) rfl) rfl ?_) | (refine is_fad ?_; first | refine x_q (stp_fieldAddr_arr tok rfl rfl rfl rfl rfl rfl rfl rfl) rfl ?_ | refine x_q (stp_fieldAddr_fp tok rfl (by first | rfl | assumption) rfl rfl rfl rfl rfl rfl) rfl ?_) | (refine is_app ?_; first | refine x_appref0 tok rfl rfl rfl rfl rfl rfl rfl (by first | (intro y hy; cases hy; rfl) | exact map_hd _ _ (fun _ => rfl)) rfl rfl rfl (by first | omega | (simp; done) | (simp; omega)) rfl ?_ | refine x_appref tok rfl rfl rfl rfl rfl rfl rfl rfl rfl rfl rfl (by first | (intro y hy; cases hy; rfl) | exact map_hd _ _ (fun _ => rfl)) (by first | omega | (simp; done) | (simp; omega)) rfl ?_) | (refine is_un ?_; first | refine x_q (stp_neg rfl ⟨by omega, by omega⟩) rfl ?_) | (refine is_conv ?_; first | refine x_q (stp_conv_in tok rfl rfl rfl rfl ⟨by omega, by omega⟩) rfl ?_ | refine x_q (stp_conv tok rfl rfl rfl rfl) rfl ?_ | refine x_q (stp_convStr tok rfl rfl rfl rfl rfl rfl rfl (by first | rfl | assumption)) rfl ?_) | (refine is_slc ?_; first | refine x_slcL tok rfl rfl rfl rfl rfl (by first | (intro y hy; cases hy; rfl) | exact map_hd _ _ (fun _ => rfl) | (simp; done)) (by omega) (by simp; omega) (by first | exact List.map_drop.symm | rfl) rfl ?_ | refine x_slcH tok rfl rfl rfl rfl rfl (by first | (intro y hy; cases hy; rfl) | exact map_hd _ _ (fun _ => rfl) | (simp; done)) (by omega) (by simp; omega) (by first | exact List.map_take.symm | rfl) rfl ?_) | fail | refine x_autow tok rfl rfl rfl rfl ?_ | (refine is_sto ?_; first | refine x_autos tok rfl rfl rfl ?_ | refine x_stoa tok rfl rfl rfl (by first | rfl | assumption) rfl rfl rfl rfl rfl rfl ?_ | refine x_sto1 tok rfl rfl rfl (by first | rfl | assumption) rfl rfl rfl rfl rfl rfl rfl rfl ?_) | refine x_nil ?_ | refine x_nilD (by kernel_rfl) ?_) | (first | refine sim_seq ?_ | refine x_region ?_ | refine x_draw rfl ?_ | refine sim_cond_true rfl ?_ | refine sim_cond_false rfl ?_ | (refine sim_cond rfl (fun hc => ?_) (fun hc => ?_) <;> (try simp only [cmpB, decide_eq_true_eq, decide_eq_false_iff_not, beq_iff_eq, bne_iff_ne, ne_eq, Bool.not_eq_true, beq_eq_false_iff_ne, bne_eq_false_iff_eq, Int.not_lt, Int.not_le, Decidable.not_not] at hc)) | refine sim_skip ?_ | refine sim_ret ?_ | refine sim_exit ?_ | refine sim_block ?_)))
  refine sim_virt 4 1001 1 rfl rfl rfl ?_
  (refine sim_cnt (n) [1001, 2, 3] [2, 3] [2, 3, 6] [4, 7, 2, 3, 6] rfl (fun i T U => ⟨(4, .ref 1001 0 ((List.replicate i (-1 : Int)).map iA).length) :: (7, iA i) :: T, (1001, .arr 1 ((List.replicate i (-1 : Int)).map iA) true) :: U⟩) ?_; (conv => whnf); refine ⟨by rfl, ?_, ?_⟩)
  · intro i hi
    have hll : ((List.replicate i (-1 : Int)).map iA).length = i := by simp
    have e : (List.replicate (i + 1) (-1 : Int)).map iA = (List.replicate i (-1 : Int)).map iA ++ [iA (-1)] := by rw [List.replicate_succ']; simp
    rw [e]
    generalize (List.replicate i (-1 : Int)).map iA = xs at *
    (refine WL ?_)
    rfl
  · (refine WW ?_)
    exact fin_ret [] rfl rfl (congrArg (fun x => AV.agg [iA (-1), iA 0, x]) (wk_tkA _ _)) rfl
def validF (s : Sv) (n : Int) : Bool := decide ((s.en.length : Int) = n ∧ -1 ≤ s.ph ∧ s.ph < n ∧ (∀ e ∈ s.en, -1 ≤ e ∧ e ≤ 1073741824) ∧ 0 ≤ s.gr ∧ s.gr ≤ 60 ∧ (s.ph = -1 → s.gr = 0))
def sameF (a b : Sv) : Bool := decide (a.ph = b.ph ∧ a.gr = b.gr ∧ a.en = b.en)
theorem same_c (a b : Sv) (ha : SvB a) (hb : SvB b) : CallSim Tryz.prog 16 [svA a, svA b] [] (bA (sameF a b)) [] := by
  have hla := map_len iA a.en
  have hlb := map_len iA b.en
  have := ha.n
  by_cases h : a.ph = b.ph ∧ a.gr = b.gr ∧ a.en.length = b.en.length
  case neg =>
    rw [show sameF a b = false from decide_eq_false (fun g => h ⟨g.1, g.2.1, congrArg _ g.2.2⟩)]
    (refine callSim_of tok Tryz.func16 rfl (fun args w => Tryz.call16 args w) rfl rfl rfl (fun F hF => ?_))
    (repeat' (first | (refine is_ops ?_; first | refine x_auto tok rfl rfl ?_ | (refine is_call ?_; fail) | (refine is_grd ?_; first | refine x_on rfl rfl ?_ | refine x_off rfl rfl rfl rfl ?_ | (refine x_gsplit rfl rfl (fun hc => ?_) (fun hc => ?_) <;> (try simp only [cmpB, decide_eq_true_eq, decide_eq_false_iff_not, beq_iff_eq, bne_iff_ne, ne_eq, Bool.not_eq_true, beq_eq_false_iff_ne, bne_eq_false_iff_eq, Int.not_lt, Int.not_le, Decidable.not_not] at hc))) | (refine is_bin ?_; first | refine x_q (stp_cmp_t rfl rfl rfl (by unfold cmpP; omega)) rfl ?_ | refine x_q (stp_cmp_f rfl rfl rfl (by unfold cmpP; omega)) rfl ?_ | refine x_q (stp_cmp rfl rfl rfl) rfl ?_ | refine x_q (stp_add rfl rfl ⟨by omega, by omega⟩) rfl ?_ | refine x_q (stp_sub rfl rfl ⟨by omega, by omega⟩) rfl ?_ | refine x_q (stp_mul rfl rfl ⟨by omega, by omega⟩) rfl ?_ | refine x_q (stp_quo rfl rfl (by assumption) (by omega)) rfl ?_ | refine x_q (stp_rem rfl rfl (by omega)) rfl ?_ | refine x_q (stp_xor rfl rfl) rfl ?_ | refine x_q (stp_shlI rfl rfl (by omega)) rfl ?_ | refine x_q (stp_shrI rfl rfl (by omega)) rfl ?_ | refine x_q (stp_shift (.inl ⟨rfl, rfl⟩) rfl rfl (by omega)) rfl ?_ | refine x_q (stp_shift (.inr ⟨rfl, rfl⟩) rfl rfl (by omega)) rfl ?_ | refine x_q (stp_bool2 tok rfl rfl rfl rfl (.inl ⟨rfl, rfl⟩)) rfl ?_ | refine x_q (stp_bool2 tok rfl rfl rfl rfl (.inr ⟨rfl, rfl⟩)) rfl ?_ | refine x_q (stp_eqlNil tok (.inl ⟨rfl, rfl⟩) rfl rfl rfl) rfl ?_ | refine x_q (stp_eqlNil_not tok (.inl ⟨rfl, rfl⟩) rfl rfl rfl rfl) rfl ?_ | refine x_q (stp_andI rfl rfl) rfl ?_ | refine x_q (stp_orI rfl rfl) rfl ?_ | refine x_q (stp_bicI rfl rfl) rfl ?_ | refine x_q (stp_strEqV rfl rfl (by assumption)) rfl ?_ | refine x_q (stp_strEq rfl rfl) rfl ?_ | refine x_q (stp_strNeV rfl rfl (by assumption)) rfl ?_ | refine x_q (stp_strNe rfl rfl) rfl ?_) | (refine is_idx ?_; first | refine x_q (stp_indexAddr_sl tok rfl rfl rfl rfl rfl (by omega) (by first | rfl | assumption) rfl rfl) rfl ?_ | refine x_q (stp_indexAddr_r0 tok rfl rfl rfl rfl rfl rfl (by omega) (by omega) rfl) rfl ?_ | refine x_q (stp_indexAddr_box tok rfl rfl rfl rfl rfl rfl (by omega) (by omega)) rfl ?_) | (refine is_load ?_; first | refine x_q (stp_load_fp1 tok rfl rfl rfl (by first | rfl | assumption) rfl) rfl ?_ | refine x_q (stp_load_fpa tok rfl rfl rfl (by first | rfl | assumption) rfl) rfl ?_ | refine x_q (stp_load_arr1 tok rfl rfl rfl rfl (by first | rfl | assumption) rfl) rfl ?_ | refine x_q (stp_load_arra tok rfl rfl rfl rfl (by first | rfl | assumption) rfl) rfl ?_) | (refine is_fad ?_; first | refine x_q (stp_fieldAddr_arr tok rfl rfl rfl rfl rfl rfl rfl rfl) rfl ?_ | refine x_q (stp_fieldAddr_fp tok rfl (by first | rfl | assumption) rfl rfl rfl rfl rfl rfl) rfl ?_) | (refine is_app ?_; first | refine x_appref0 tok rfl rfl rfl rfl rfl rfl rfl (by first | (intro y hy; cases hy; rfl) | exact map_hd _ _ (fun _ => rfl)) rfl rfl rfl (by first | omega | (simp; done) | (simp; omega)) rfl ?_ | refine x_appref tok rfl rfl rfl rfl rfl rfl rfl rfl rfl rfl rfl (by first | (intro y hy; cases hy; rfl) | exact map_hd _ _ (fun _ => rfl)) (by first | omega | (simp; done) | (simp; omega)) rfl ?_) | (refine is_un ?_; first | refine x_q (stp_neg rfl ⟨by omega, by omega⟩) rfl ?_) | (refine is_conv ?_; first | refine x_q (stp_conv_in tok rfl rfl rfl rfl ⟨by omega, by omega⟩) rfl ?_ | refine x_q (stp_conv tok rfl rfl rfl rfl) rfl ?_ | refine x_q (stp_convStr tok rfl rfl rfl rfl rfl rfl rfl (by first | rfl | assumption)) rfl ?_) | (refine is_slc ?_; first | refine x_slcL tok rfl rfl rfl rfl rfl (by first | (intro y hy; cases hy; rfl) | exact map_hd _ _ (fun _ => rfl) | (simp; done)) (by omega) (by simp; omega) (by first | exact List.map_drop.symm | rfl) rfl ?_ | refine x_slcH tok rfl rfl rfl rfl rfl (by first | (intro y hy; cases hy; rfl) | exact map_hd _ _ (fun _ => rfl) | (simp; done)) (by omega) (by simp; omega) (by first | exact List.map_take.symm | rfl) rfl ?_) | (refine is_mks ?_; refine x_mks tok rfl rfl rfl rfl rfl rfl rfl rfl rfl rfl rfl rfl rfl (by omega) (by omega) rfl rfl rfl ?_) | refine x_autow tok rfl rfl rfl rfl ?_ | (refine is_sto ?_; first | refine x_autos tok rfl rfl rfl ?_ | refine x_stoa tok rfl rfl rfl (by first | rfl | assumption) rfl rfl rfl rfl rfl rfl ?_ | refine x_sto1 tok rfl rfl rfl (by first | rfl | assumption) rfl rfl rfl rfl rfl rfl rfl rfl ?_) | refine x_nil ?_ | refine x_nilD (by kernel_rfl) ?_) | (first | refine sim_seq ?_ | refine x_region ?_ | refine x_draw rfl ?_ | refine sim_cond_true rfl ?_ | refine sim_cond_false rfl ?_ | (refine sim_cond rfl (fun hc => ?_) (fun hc => ?_) <;> (try simp only [cmpB, decide_eq_true_eq, decide_eq_false_iff_not, beq_iff_eq, bne_iff_ne, ne_eq, Bool.not_eq_true, beq_eq_false_iff_ne, bne_eq_false_iff_eq, Int.not_lt, Int.not_le, Decidable.not_not] at hc)) | refine sim_skip ?_ | refine sim_ret ?_ | refine sim_exit ?_ | refine sim_block ?_)))
    all_goals (first | omega | exact fin_ret [] rfl rfl rfl rfl)
  obtain ⟨h1, h2, h3⟩ := h
  (refine callSim_of tok Tryz.func16 rfl (fun args w => Tryz.call16 args w) rfl rfl rfl (fun F hF => ?_))
  (refine WW ?_)
  (refine sim_rngP (a.en) [3] [3] [3, 29, 30] [31, 3, 29, 30] rfl (fun i pre T U zs => (pre = b.en.take i) ∧ zs = ⟨(31, iA i) :: T, U⟩) ?_; (conv => whnf); refine ⟨?_, ?_, ?_⟩)
  · exact ⟨by simp, rfl⟩
  · rintro i pre x post st hx hi ⟨hp, rfl⟩
    have hy := rng_at iA hx hi
    have hlt := rng_lt hx hi
    have hz := idx_at iA b.en i (by omega)
    by_cases hv : b.en[i] = x
    · rw [hv] at hz
      (refine WW ?_)
      exact ⟨by rw [← hv, hp, List.take_append_getElem], rfl⟩
    · rw [show sameF a b = false from decide_eq_false (fun g => hv (by
        have e := g.2.2
        have : a.en[i]'(by omega) = x := by simp only [hx, ← hi]; simp
        rw [← this]; simp only [e]))]
      (refine WW ?_)
      all_goals (first | omega | exact fin_ret [] rfl rfl rfl rfl)
  · rintro st ⟨hp, rfl⟩
    rw [show sameF a b = true from decide_eq_true ⟨h1, h2, by rw [hp, h3, List.take_length]⟩]
    (refine WW ?_)
    exact fin_ret [] rfl rfl rfl rfl
theorem sameF_self (a : Sv) : sameF a a = true := by simp [sameF]
end Av
end Go.Proofs.YtkliodbbcblobaaGreat
/- law21: which service is over; ContainsFunc. -/
namespace Go.Proofs.YtkliodbbcblobaaGreat
namespace Av
set_option linter.unusedSimpArgs false
set_option linter.unusedVariables false
set_option maxRecDepth 4000
set_option maxHeartbeats 1000000
/-- The first index at which p holds, or -1. -/
def idxF {α : Type} (p : α → Bool) (l : List α) : Int := if l.any p = true then (l.findIdx p : Int) else -1
theorem idxF_hit {α : Type} {p : α → Bool} {l pre post : List α} {x : α} (h : l = pre ++ x :: post) (hn : ∀ y ∈ pre, p y = false) (hx : p x = true) : idxF p l = (pre.length : Int) := by
  subst h
  have h1 : (pre ++ x :: post).any p = true := by simp [hx]
  have h2 : pre.findIdx p = pre.length := List.findIdx_eq_length.2 (fun y hy => by simpa using hn y hy)
  unfold idxF
  rw [if_pos h1, List.findIdx_append, h2, if_neg (by omega), List.findIdx_cons, hx]
  simp
theorem idxF_none {α : Type} {p : α → Bool} {l : List α} (hn : ∀ y ∈ l, p y = false) : idxF p l = -1 := by
  unfold idxF
  rw [if_neg (by simpa using hn)]
theorem idxF_any {α : Type} (p : α → Bool) (l : List α) : (0 ≤ idxF p l) = (l.any p = true) := by
  unfold idxF
  split <;> simp_all
theorem idxF_bd {α : Type} (p : α → Bool) (l : List α) : -1 ≤ idxF p l ∧ idxF p l ≤ l.length := by
  unfold idxF
  have := List.findIdx_le_length (p := p) (xs := l)
  split <;> omega
theorem indexEm_c (l : List Cl) (hb : l.length ≤ 1073741824) : CallSim Tryz.prog 76 [slA clA l, .fn 54 []] [] (iA (idxF (fun c => emF c.k) l)) [] := by
  have hl := map_len clA l
  (refine callSim_of tok Tryz.func76 rfl (fun args w => Tryz.call76 args w) rfl rfl rfl (fun F hF => ?_))
  (refine WW ?_)
  (refine sim_rngP (l) [] [] [0, 1, 7] [8, 0, 1, 7] rfl (fun i pre T U zs => (∀ y ∈ pre, emF y.k = false) ∧ zs = ⟨(8, iA i) :: T, U⟩) ?_; (conv => whnf); refine ⟨?_, ?_, ?_⟩)
  · exact ⟨by simp, rfl⟩
  · rintro i pre x post st hx hi ⟨hp, rfl⟩
    have hy := rng_at clA hx hi
    have hlt := rng_lt hx hi
    have c := emergency_c x
    have hit := idxF_hit (p := fun c => emF c.k) hx hp
    cases he : emF x.k <;> rw [he] at c
    · (repeat' (first | (refine is_ops ?_; first | refine x_auto tok rfl rfl ?_ | (refine is_call ?_; (refine is_cv ?_; first | refine x_q (stp_call (c) rfl rfl rfl rfl rfl) rfl ?_ | refine x_w (stp_call (c) rfl rfl rfl rfl rfl) rfl rfl rfl ?_ | refine x_d (stp_call (c) rfl rfl rfl rfl rfl) rfl rfl rfl ?_)) | (refine is_grd ?_; first | refine x_on rfl rfl ?_ | refine x_off rfl rfl rfl rfl ?_ | (refine x_gsplit rfl rfl (fun hc => ?_) (fun hc => ?_) <;> (try simp only [cmpB, decide_eq_true_eq, decide_eq_false_iff_not, beq_iff_eq, bne_iff_ne, ne_eq, Bool.not_eq_true, beq_eq_false_iff_ne, bne_eq_false_iff_eq, Int.not_lt, Int.not_le, Decidable.not_not] at hc))) | (refine is_bin ?_; first | refine x_q (stp_cmp_t rfl rfl rfl (by unfold cmpP; omega)) rfl ?_ | refine x_q (stp_cmp_f rfl rfl rfl (by unfold cmpP; omega)) rfl ?_ | refine x_q (stp_cmp rfl rfl rfl) rfl ?_ | refine x_q (stp_add rfl rfl ⟨by omega, by omega⟩) rfl ?_ | refine x_q (stp_sub rfl rfl ⟨by omega, by omega⟩) rfl ?_ | refine x_q (stp_mul rfl rfl ⟨by omega, by omega⟩) rfl ?_ | refine x_q (stp_quo rfl rfl (by assumption) (by omega)) rfl ?_ | refine x_q (stp_rem rfl rfl (by omega)) rfl ?_ | refine x_q (stp_xor rfl rfl) rfl ?_ | refine x_q (stp_shlI rfl rfl (by omega)) rfl ?_ | refine x_q (stp_shrI rfl rfl (by omega)) rfl ?_ | refine x_q (stp_shift (.inl ⟨rfl, rfl⟩) rfl rfl (by omega)) rfl ?_ | refine x_q (stp_shift (.inr ⟨rfl, rfl⟩) rfl rfl (by omega)) rfl ?_ | refine x_q (stp_bool2 tok rfl rfl rfl rfl (.inl ⟨rfl, rfl⟩)) rfl ?_ | refine x_q (stp_bool2 tok rfl rfl rfl rfl (.inr ⟨rfl, rfl⟩)) rfl ?_ | refine x_q (stp_eqlNil tok (.inl ⟨rfl, rfl⟩) rfl rfl rfl) rfl ?_ | refine x_q (stp_eqlNil_not tok (.inl ⟨rfl, rfl⟩) rfl rfl rfl rfl) rfl ?_ | refine x_q (stp_andI rfl rfl) rfl ?_ | refine x_q (stp_orI rfl rfl) rfl ?_ | refine x_q (stp_bicI rfl rfl) rfl ?_ | refine x_q (stp_strEqV rfl rfl (by assumption)) rfl ?_ | refine x_q (stp_strEq rfl rfl) rfl ?_ | refine x_q (stp_strNeV rfl rfl (by assumption)) rfl ?_ | refine x_q (stp_strNe rfl rfl) rfl ?_) | (refine is_idx ?_; first | refine x_q (stp_indexAddr_sl tok rfl rfl rfl rfl rfl (by omega) (by first | rfl | assumption) rfl rfl) rfl ?_ | refine x_q (stp_indexAddr_r0 tok rfl rfl rfl rfl rfl rfl (by omega) (by omega) rfl) rfl ?_ | refine x_q (stp_indexAddr_box tok rfl rfl rfl rfl rfl rfl (by omega) (by omega)) rfl ?_) | (refine is_load ?_; first | refine x_q (stp_load_fp1 tok rfl rfl rfl (by first | rfl | assumption) rfl) rfl ?_ | refine x_q (stp_load_fpa tok rfl rfl rfl (by first | rfl | assumption) rfl) rfl ?_ | refine x_q (stp_load_arr1 tok rfl rfl rfl rfl (by first | rfl | assumption) rfl) rfl ?_ | refine x_q (stp_load_arra tok rfl rfl rfl rfl (by first | rfl | assumption) rfl) rfl ?_) | (refine is_fad ?_; first | refine x_q (stp_fieldAddr_arr tok rfl rfl rfl rfl rfl rfl rfl rfl) rfl ?_ | refine x_q (stp_fieldAddr_fp tok rfl (by first | rfl | assumption) rfl rfl rfl rfl rfl rfl) rfl ?_) | (refine is_app ?_; first | refine x_appref0 tok rfl rfl rfl rfl rfl rfl rfl (by first | (intro y hy; cases hy; rfl) | exact map_hd _ _ (fun _ => rfl)) rfl rfl rfl (by first | omega | (simp; done) | (simp; omega)) rfl ?_ | refine x_appref tok rfl rfl rfl rfl rfl rfl rfl rfl rfl rfl rfl (by first | (intro y hy; cases hy; rfl) | exact map_hd _ _ (fun _ => rfl)) (by first | omega | (simp; done) | (simp; omega)) rfl ?_) | (refine is_un ?_; first | refine x_q (stp_neg rfl ⟨by omega, by omega⟩) rfl ?_) | (refine is_conv ?_; first | refine x_q (stp_conv_in tok rfl rfl rfl rfl ⟨by omega, by omega⟩) rfl ?_ | refine x_q (stp_conv tok rfl rfl rfl rfl) rfl ?_ | refine x_q (stp_convStr tok rfl rfl rfl rfl rfl rfl rfl (by first | rfl | assumption)) rfl ?_) | (refine is_slc ?_; first | refine x_slcL tok rfl rfl rfl rfl rfl (by first | (intro y hy; cases hy; rfl) | exact map_hd _ _ (fun _ => rfl) | (simp; done)) (by omega) (by simp; omega) (by first | exact List.map_drop.symm | rfl) rfl ?_ | refine x_slcH tok rfl rfl rfl rfl rfl (by first | (intro y hy; cases hy; rfl) | exact map_hd _ _ (fun _ => rfl) | (simp; done)) (by omega) (by simp; omega) (by first | exact List.map_take.symm | rfl) rfl ?_) | (refine is_mks ?_; refine x_mks tok rfl rfl rfl rfl rfl rfl rfl rfl rfl rfl rfl rfl rfl (by omega) (by omega) rfl rfl rfl ?_) | refine x_autow tok rfl rfl rfl rfl ?_ | (refine is_sto ?_; first | refine x_autos tok rfl rfl rfl ?_ | refine x_stoa tok rfl rfl rfl (by first | rfl | assumption) rfl rfl rfl rfl rfl rfl ?_ | refine x_sto1 tok rfl rfl rfl (by first | rfl | assumption) rfl rfl rfl rfl rfl rfl rfl rfl ?_) | refine x_nil ?_ | refine x_nilD (by kernel_rfl) ?_) | (first | refine sim_seq ?_ | refine x_region ?_ | refine x_draw rfl ?_ | refine sim_cond_true rfl ?_ | refine sim_cond_false rfl ?_ | (refine sim_cond rfl (fun hc => ?_) (fun hc => ?_) <;> (try simp only [cmpB, decide_eq_true_eq, decide_eq_false_iff_not, beq_iff_eq, bne_iff_ne, ne_eq, Bool.not_eq_true, beq_eq_false_iff_ne, bne_eq_false_iff_eq, Int.not_lt, Int.not_le, Decidable.not_not] at hc)) | refine sim_skip ?_ | refine sim_ret ?_ | refine sim_exit ?_ | refine sim_block ?_)))
      exact ⟨fun y hy => by simp at hy; rcases hy with hy | rfl; exact hp y hy; exact he, rfl⟩
    · rw [hit he, hi]
      (repeat' (first | (refine is_ops ?_; first | refine x_auto tok rfl rfl ?_ | (refine is_call ?_; (refine is_cv ?_; first | refine x_q (stp_call (c) rfl rfl rfl rfl rfl) rfl ?_ | refine x_w (stp_call (c) rfl rfl rfl rfl rfl) rfl rfl rfl ?_ | refine x_d (stp_call (c) rfl rfl rfl rfl rfl) rfl rfl rfl ?_)) | (refine is_grd ?_; first | refine x_on rfl rfl ?_ | refine x_off rfl rfl rfl rfl ?_ | (refine x_gsplit rfl rfl (fun hc => ?_) (fun hc => ?_) <;> (try simp only [cmpB, decide_eq_true_eq, decide_eq_false_iff_not, beq_iff_eq, bne_iff_ne, ne_eq, Bool.not_eq_true, beq_eq_false_iff_ne, bne_eq_false_iff_eq, Int.not_lt, Int.not_le, Decidable.not_not] at hc))) | (refine is_bin ?_; first | refine x_q (stp_cmp_t rfl rfl rfl (by unfold cmpP; omega)) rfl ?_ | refine x_q (stp_cmp_f rfl rfl rfl (by unfold cmpP; omega)) rfl ?_ | refine x_q (stp_cmp rfl rfl rfl) rfl ?_ | refine x_q (stp_add rfl rfl ⟨by omega, by omega⟩) rfl ?_ | refine x_q (stp_sub rfl rfl ⟨by omega, by omega⟩) rfl ?_ | refine x_q (stp_mul rfl rfl ⟨by omega, by omega⟩) rfl ?_ | refine x_q (stp_quo rfl rfl (by assumption) (by omega)) rfl ?_ | refine x_q (stp_rem rfl rfl (by omega)) rfl ?_ | refine x_q (stp_xor rfl rfl) rfl ?_ | refine x_q (stp_shlI rfl rfl (by omega)) rfl ?_ | refine x_q (stp_shrI rfl rfl (by omega)) rfl ?_ | refine x_q (stp_shift (.inl ⟨rfl, rfl⟩) rfl rfl (by omega)) rfl ?_ | refine x_q (stp_shift (.inr ⟨rfl, rfl⟩) rfl rfl (by omega)) rfl ?_ | refine x_q (stp_bool2 tok rfl rfl rfl rfl (.inl ⟨rfl, rfl⟩)) rfl ?_ | refine x_q (stp_bool2 tok rfl rfl rfl rfl (.inr ⟨rfl, rfl⟩)) rfl ?_ | refine x_q (stp_eqlNil tok (.inl ⟨rfl, rfl⟩) rfl rfl rfl) rfl ?_ | refine x_q (stp_eqlNil_not tok (.inl ⟨rfl, rfl⟩) rfl rfl rfl rfl) rfl ?_ | refine x_q (stp_andI rfl rfl) rfl ?_ | refine x_q (stp_orI rfl rfl) rfl ?_ | refine x_q (stp_bicI rfl rfl) rfl ?_ | refine x_q (stp_strEqV rfl rfl (by assumption)) rfl ?_ | refine x_q (stp_strEq rfl rfl) rfl ?_ | refine x_q (stp_strNeV rfl rfl (by assumption)) rfl ?_ | refine x_q (stp_strNe rfl rfl) rfl ?_) | (refine is_idx ?_; first | refine x_q (stp_indexAddr_sl tok rfl rfl rfl rfl rfl (by omega) (by first | rfl | assumption) rfl rfl) rfl ?_ | refine x_q (stp_indexAddr_r0 tok rfl rfl rfl rfl rfl rfl (by omega) (by omega) rfl) rfl ?_ | refine x_q (stp_indexAddr_box tok rfl rfl rfl rfl rfl rfl (by omega) (by omega)) rfl ?_) | (refine is_load ?_; first | refine x_q (stp_load_fp1 tok rfl rfl rfl (by first | rfl | assumption) rfl) rfl ?_ | refine x_q (stp_load_fpa tok rfl rfl rfl (by first | rfl | assumption) rfl) rfl ?_ | refine x_q (stp_load_arr1 tok rfl rfl rfl rfl (by first | rfl | assumption) rfl) rfl ?_ | refine x_q (stp_load_arra tok rfl rfl rfl rfl (by first | rfl | assumption) rfl) rfl ?_) | (refine is_fad ?_; first | refine x_q (stp_fieldAddr_arr tok rfl rfl rfl rfl rfl rfl rfl rfl) rfl ?_ | refine x_q (stp_fieldAddr_fp tok rfl (by first | rfl | assumption) rfl rfl rfl rfl rfl rfl) rfl ?_) | (refine is_app ?_; first | refine x_appref0 tok rfl rfl rfl rfl rfl rfl rfl (by first | (intro y hy; cases hy; rfl) | exact map_hd _ _ (fun _ => rfl)) rfl rfl rfl (by first | omega | (simp; done) | (simp; omega)) rfl ?_ | refine x_appref tok rfl rfl rfl rfl rfl rfl rfl rfl rfl rfl rfl (by first | (intro y hy; cases hy; rfl) | exact map_hd _ _ (fun _ => rfl)) (by first | omega | (simp; done) | (simp; omega)) rfl ?_) | (refine is_un ?_; first | refine x_q (stp_neg rfl ⟨by omega, by omega⟩) rfl ?_) | (refine is_conv ?_; first | refine x_q (stp_conv_in tok rfl rfl rfl rfl ⟨by omega, by omega⟩) rfl ?_ | refine x_q (stp_conv tok rfl rfl rfl rfl) rfl ?_ | refine x_q (stp_convStr tok rfl rfl rfl rfl rfl rfl rfl (by first | rfl | assumption)) rfl ?_) | (refine is_slc ?_; first | refine x_slcL tok rfl rfl rfl rfl rfl (by first | (intro y hy; cases hy; rfl) | exact map_hd _ _ (fun _ => rfl) | (simp; done)) (by omega) (by simp; omega) (by first | exact List.map_drop.symm | rfl) rfl ?_ | refine x_slcH tok rfl rfl rfl rfl rfl (by first | (intro y hy; cases hy; rfl) | exact map_hd _ _ (fun _ => rfl) | (simp; done)) (by omega) (by simp; omega) (by first | exact List.map_take.symm | rfl) rfl ?_) | (refine is_mks ?_; refine x_mks tok rfl rfl rfl rfl rfl rfl rfl rfl rfl rfl rfl rfl rfl (by omega) (by omega) rfl rfl rfl ?_) | refine x_autow tok rfl rfl rfl rfl ?_ | (refine is_sto ?_; first | refine x_autos tok rfl rfl rfl ?_ | refine x_stoa tok rfl rfl rfl (by first | rfl | assumption) rfl rfl rfl rfl rfl rfl ?_ | refine x_sto1 tok rfl rfl rfl (by first | rfl | assumption) rfl rfl rfl rfl rfl rfl rfl rfl ?_) | refine x_nil ?_ | refine x_nilD (by kernel_rfl) ?_) | (first | refine sim_seq ?_ | refine x_region ?_ | refine x_draw rfl ?_ | refine sim_cond_true rfl ?_ | refine sim_cond_false rfl ?_ | (refine sim_cond rfl (fun hc => ?_) (fun hc => ?_) <;> (try simp only [cmpB, decide_eq_true_eq, decide_eq_false_iff_not, beq_iff_eq, bne_iff_ne, ne_eq, Bool.not_eq_true, beq_eq_false_iff_ne, bne_eq_false_iff_eq, Int.not_lt, Int.not_le, Decidable.not_not] at hc)) | refine sim_skip ?_ | refine sim_ret ?_ | refine sim_exit ?_ | refine sim_block ?_)))
      exact fin_ret [] rfl rfl rfl rfl
  · rintro st ⟨hp, rfl⟩
    rw [idxF_none hp]
    (refine WW ?_)
    exact fin_ret [] rfl rfl rfl rfl
theorem containsEm_c (l : List Cl) (hb : l.length ≤ 1073741824) : CallSim Tryz.prog 55 [slA clA l, .fn 54 []] [] (bA (l.any fun c => emF c.k)) [] := by
  have c := indexEm_c l hb
  have h := idxF_any (fun c : Cl => emF c.k) l
  have h2 := idxF_bd (fun c : Cl => emF c.k) l
  generalize idxF (fun c : Cl => emF c.k) l = n at *
  cases ha : (l.any fun c => emF c.k) <;> rw [ha] at h <;> simp at h
  · (refine callSim_of tok Tryz.func55 rfl (fun args w => Tryz.call55 args w) rfl rfl rfl (fun F hF => ?_))
    (have zc1 := c; refine WW ?_; clear zc1)
    exact fin_ret [] rfl rfl rfl rfl
  · (refine callSim_of tok Tryz.func55 rfl (fun args w => Tryz.call55 args w) rfl rfl rfl (fun F hF => ?_))
    (have zc1 := c; refine WW ?_; clear zc1)
    exact fin_ret [] rfl rfl rfl rfl
def mineB (s : Sv) : Ent := .box [iA s.ph, iA s.gr, slA iA s.en]
theorem mine_c (s : Sv) (x : Cl) : CallSim Tryz.prog 52 [clA x, .ptr 4 0 0] [(4, mineB s)] (bA (x.ph == s.ph)) [(4, mineB s)] := by
  (refine callSim_of tok Tryz.func52 rfl (fun args w => Tryz.call52 args w) rfl rfl rfl (fun F hF => ?_))
  (refine WW ?_)
  exact fin_own [4] rfl rfl rfl rfl
theorem urgent_c (s : Sv) (x : Cl) : CallSim Tryz.prog 53 [clA x, .ptr 7 0 0] [(7, .box [.fn 52 [.ptr 4 0 0]]), (4, mineB s)] (bA (x.ph == s.ph && emF x.k)) [(7, .box [.fn 52 [.ptr 4 0 0]]), (4, mineB s)] := by
  have c := mine_c s x
  have e := emergency_c x
  cases h : (x.ph == s.ph) <;> rw [h] at c
  · (refine callSim_of tok Tryz.func53 rfl (fun args w => Tryz.call53 args w) rfl rfl rfl (fun F hF => ?_))
    (repeat' (first | (refine is_ops ?_; first | refine x_auto tok rfl rfl ?_ | (refine is_call ?_; first | (refine is_cv ?_; first | refine x_q (stp_call (c) rfl rfl rfl rfl rfl) rfl ?_ | refine x_w (stp_call (c) rfl rfl rfl rfl rfl) rfl rfl rfl ?_ | refine x_d (stp_call (c) rfl rfl rfl rfl rfl) rfl rfl rfl ?_) | (first | (refine is_fn 54 ?_; first | refine x_q (stp_call (e) rfl rfl rfl rfl rfl) rfl ?_ | refine x_w (stp_call (e) rfl rfl rfl rfl rfl) rfl rfl rfl ?_ | refine x_d (stp_call (e) rfl rfl rfl rfl rfl) rfl rfl rfl ?_))) | (refine is_grd ?_; first | refine x_on rfl rfl ?_ | refine x_off rfl rfl rfl rfl ?_ | (refine x_gsplit rfl rfl (fun hc => ?_) (fun hc => ?_) <;> (try simp only [cmpB, decide_eq_true_eq, decide_eq_false_iff_not, beq_iff_eq, bne_iff_ne, ne_eq, Bool.not_eq_true, beq_eq_false_iff_ne, bne_eq_false_iff_eq, Int.not_lt, Int.not_le, Decidable.not_not] at hc))) | (refine is_bin ?_; first | refine x_q (stp_cmp_t rfl rfl rfl (by unfold cmpP; omega)) rfl ?_ | refine x_q (stp_cmp_f rfl rfl rfl (by unfold cmpP; omega)) rfl ?_ | refine x_q (stp_cmp rfl rfl rfl) rfl ?_ | refine x_q (stp_add rfl rfl ⟨by omega, by omega⟩) rfl ?_ | refine x_q (stp_sub rfl rfl ⟨by omega, by omega⟩) rfl ?_ | refine x_q (stp_mul rfl rfl ⟨by omega, by omega⟩) rfl ?_ | refine x_q (stp_quo rfl rfl (by assumption) (by omega)) rfl ?_ | refine x_q (stp_rem rfl rfl (by omega)) rfl ?_ | refine x_q (stp_xor rfl rfl) rfl ?_ | refine x_q (stp_shlI rfl rfl (by omega)) rfl ?_ | refine x_q (stp_shrI rfl rfl (by omega)) rfl ?_ | refine x_q (stp_shift (.inl ⟨rfl, rfl⟩) rfl rfl (by omega)) rfl ?_ | refine x_q (stp_shift (.inr ⟨rfl, rfl⟩) rfl rfl (by omega)) rfl ?_ | refine x_q (stp_bool2 tok rfl rfl rfl rfl (.inl ⟨rfl, rfl⟩)) rfl ?_ | refine x_q (stp_bool2 tok rfl rfl rfl rfl (.inr ⟨rfl, rfl⟩)) rfl ?_ | refine x_q (stp_eqlNil tok (.inl ⟨rfl, rfl⟩) rfl rfl rfl) rfl ?_ | refine x_q (stp_eqlNil_not tok (.inl ⟨rfl, rfl⟩) rfl rfl rfl rfl) rfl ?_ | refine x_q (stp_andI rfl rfl) rfl ?_ | refine x_q (stp_orI rfl rfl) rfl ?_ | refine x_q (stp_bicI rfl rfl) rfl ?_ | refine x_q (stp_strEqV rfl rfl (by assumption)) rfl ?_ | refine x_q (stp_strEq rfl rfl) rfl ?_ | refine x_q (stp_strNeV rfl rfl (by assumption)) rfl ?_ | refine x_q (stp_strNe rfl rfl) rfl ?_) | (refine is_idx ?_; first | refine x_q (stp_indexAddr_sl tok rfl rfl rfl rfl rfl (by omega) (by first | rfl | assumption) rfl rfl) rfl ?_ | refine x_q (stp_indexAddr_r0 tok rfl rfl rfl rfl rfl rfl (by omega) (by omega) rfl) rfl ?_ | refine x_q (stp_indexAddr_box tok rfl rfl rfl rfl rfl rfl (by omega) (by omega)) rfl ?_) | (refine is_load ?_; first | refine x_q (stp_load_fp1 tok rfl rfl rfl (by first | rfl | assumption) rfl) rfl ?_ | refine x_q (stp_load_fpa tok rfl rfl rfl (by first | rfl | assumption) rfl) rfl ?_ | refine x_q (stp_load_arr1 tok rfl rfl rfl rfl (by first | rfl | assumption) rfl) rfl ?_ | refine x_q (stp_load_arra tok rfl rfl rfl rfl (by first | rfl | assumption) rfl) rfl ?_) | (refine is_fad ?_; first | refine x_q (stp_fieldAddr_arr tok rfl rfl rfl rfl rfl rfl rfl rfl) rfl ?_ | refine x_q (stp_fieldAddr_fp tok rfl (by first | rfl | assumption) rfl rfl rfl rfl rfl rfl) rfl ?_) | (refine is_app ?_; first | refine x_appref0 tok rfl rfl rfl rfl rfl rfl rfl (by first | (intro y hy; cases hy; rfl) | exact map_hd _ _ (fun _ => rfl)) rfl rfl rfl (by first | omega | (simp; done) | (simp; omega)) rfl ?_ | refine x_appref tok rfl rfl rfl rfl rfl rfl rfl rfl rfl rfl rfl (by first | (intro y hy; cases hy; rfl) | exact map_hd _ _ (fun _ => rfl)) (by first | omega | (simp; done) | (simp; omega)) rfl ?_) | (refine is_un ?_; first | refine x_q (stp_neg rfl ⟨by omega, by omega⟩) rfl ?_) | (refine is_conv ?_; first | refine x_q (stp_conv_in tok rfl rfl rfl rfl ⟨by omega, by omega⟩) rfl ?_ | refine x_q (stp_conv tok rfl rfl rfl rfl) rfl ?_ | refine x_q (stp_convStr tok rfl rfl rfl rfl rfl rfl rfl (by first | rfl | assumption)) rfl ?_) | (refine is_slc ?_; first | refine x_slcL tok rfl rfl rfl rfl rfl (by first | (intro y hy; cases hy; rfl) | exact map_hd _ _ (fun _ => rfl) | (simp; done)) (by omega) (by simp; omega) (by first | exact List.map_drop.symm | rfl) rfl ?_ | refine x_slcH tok rfl rfl rfl rfl rfl (by first | (intro y hy; cases hy; rfl) | exact map_hd _ _ (fun _ => rfl) | (simp; done)) (by omega) (by simp; omega) (by first | exact List.map_take.symm | rfl) rfl ?_) | (refine is_mks ?_; refine x_mks tok rfl rfl rfl rfl rfl rfl rfl rfl rfl rfl rfl rfl rfl (by omega) (by omega) rfl rfl rfl ?_) | refine x_autow tok rfl rfl rfl rfl ?_ | (refine is_sto ?_; first | refine x_autos tok rfl rfl rfl ?_ | refine x_stoa tok rfl rfl rfl (by first | rfl | assumption) rfl rfl rfl rfl rfl rfl ?_ | refine x_sto1 tok rfl rfl rfl (by first | rfl | assumption) rfl rfl rfl rfl rfl rfl rfl rfl ?_) | refine x_nil ?_ | refine x_nilD (by kernel_rfl) ?_) | (first | refine sim_seq ?_ | refine x_region ?_ | refine x_draw rfl ?_ | refine sim_cond_true rfl ?_ | refine sim_cond_false rfl ?_ | (refine sim_cond rfl (fun hc => ?_) (fun hc => ?_) <;> (try simp only [cmpB, decide_eq_true_eq, decide_eq_false_iff_not, beq_iff_eq, bne_iff_ne, ne_eq, Bool.not_eq_true, beq_eq_false_iff_ne, bne_eq_false_iff_eq, Int.not_lt, Int.not_le, Decidable.not_not] at hc)) | refine sim_skip ?_ | refine sim_ret ?_ | refine sim_exit ?_ | refine sim_block ?_)))
    exact fin_own [7, 4] rfl rfl rfl rfl
  · rw [Bool.true_and]
    (refine callSim_of tok Tryz.func53 rfl (fun args w => Tryz.call53 args w) rfl rfl rfl (fun F hF => ?_))
    (repeat' (first | (refine is_ops ?_; first | refine x_auto tok rfl rfl ?_ | (refine is_call ?_; first | (refine is_cv ?_; first | refine x_q (stp_call (c) rfl rfl rfl rfl rfl) rfl ?_ | refine x_w (stp_call (c) rfl rfl rfl rfl rfl) rfl rfl rfl ?_ | refine x_d (stp_call (c) rfl rfl rfl rfl rfl) rfl rfl rfl ?_) | (first | (refine is_fn 54 ?_; first | refine x_q (stp_call (e) rfl rfl rfl rfl rfl) rfl ?_ | refine x_w (stp_call (e) rfl rfl rfl rfl rfl) rfl rfl rfl ?_ | refine x_d (stp_call (e) rfl rfl rfl rfl rfl) rfl rfl rfl ?_))) | (refine is_grd ?_; first | refine x_on rfl rfl ?_ | refine x_off rfl rfl rfl rfl ?_ | (refine x_gsplit rfl rfl (fun hc => ?_) (fun hc => ?_) <;> (try simp only [cmpB, decide_eq_true_eq, decide_eq_false_iff_not, beq_iff_eq, bne_iff_ne, ne_eq, Bool.not_eq_true, beq_eq_false_iff_ne, bne_eq_false_iff_eq, Int.not_lt, Int.not_le, Decidable.not_not] at hc))) | (refine is_bin ?_; first | refine x_q (stp_cmp_t rfl rfl rfl (by unfold cmpP; omega)) rfl ?_ | refine x_q (stp_cmp_f rfl rfl rfl (by unfold cmpP; omega)) rfl ?_ | refine x_q (stp_cmp rfl rfl rfl) rfl ?_ | refine x_q (stp_add rfl rfl ⟨by omega, by omega⟩) rfl ?_ | refine x_q (stp_sub rfl rfl ⟨by omega, by omega⟩) rfl ?_ | refine x_q (stp_mul rfl rfl ⟨by omega, by omega⟩) rfl ?_ | refine x_q (stp_quo rfl rfl (by assumption) (by omega)) rfl ?_ | refine x_q (stp_rem rfl rfl (by omega)) rfl ?_ | refine x_q (stp_xor rfl rfl) rfl ?_ | refine x_q (stp_shlI rfl rfl (by omega)) rfl ?_ | refine x_q (stp_shrI rfl rfl (by omega)) rfl ?_ | refine x_q (stp_shift (.inl ⟨rfl, rfl⟩) rfl rfl (by omega)) rfl ?_ | refine x_q (stp_shift (.inr ⟨rfl, rfl⟩) rfl rfl (by omega)) rfl ?_ | refine x_q (stp_bool2 tok rfl rfl rfl rfl (.inl ⟨rfl, rfl⟩)) rfl ?_ | refine x_q (stp_bool2 tok rfl rfl rfl rfl (.inr ⟨rfl, rfl⟩)) rfl ?_ | refine x_q (stp_eqlNil tok (.inl ⟨rfl, rfl⟩) rfl rfl rfl) rfl ?_ | refine x_q (stp_eqlNil_not tok (.inl ⟨rfl, rfl⟩) rfl rfl rfl rfl) rfl ?_ | refine x_q (stp_andI rfl rfl) rfl ?_ | refine x_q (stp_orI rfl rfl) rfl ?_ | refine x_q (stp_bicI rfl rfl) rfl ?_ | refine x_q (stp_strEqV rfl rfl (by assumption)) rfl ?_ | refine x_q (stp_strEq rfl rfl) rfl ?_ | refine x_q (stp_strNeV rfl rfl (by assumption)) rfl ?_ | refine x_q (stp_strNe rfl rfl) rfl ?_) | (refine is_idx ?_; first | refine x_q (stp_indexAddr_sl tok rfl rfl rfl rfl rfl (by omega) (by first | rfl | assumption) rfl rfl) rfl ?_ | refine x_q (stp_indexAddr_r0 tok rfl rfl rfl rfl rfl rfl (by omega) (by omega) rfl) rfl ?_ | refine x_q (stp_indexAddr_box tok rfl rfl rfl rfl rfl rfl (by omega) (by omega)) rfl ?_) | (refine is_load ?_; first | refine x_q (stp_load_fp1 tok rfl rfl rfl (by first | rfl | assumption) rfl) rfl ?_ | refine x_q (stp_load_fpa tok rfl rfl rfl (by first | rfl | assumption) rfl) rfl ?_ | refine x_q (stp_load_arr1 tok rfl rfl rfl rfl (by first | rfl | assumption) rfl) rfl ?_ | refine x_q (stp_load_arra tok rfl rfl rfl rfl (by first | rfl | assumption) rfl) rfl ?_) | (refine is_fad ?_; first | refine x_q (stp_fieldAddr_arr tok rfl rfl rfl rfl rfl rfl rfl rfl) rfl ?_ | refine x_q (stp_fieldAddr_fp tok rfl (by first | rfl | assumption) rfl rfl rfl rfl rfl rfl) rfl ?_) | (refine is_app ?_; first | refine x_appref0 tok rfl rfl rfl rfl rfl rfl rfl (by first | (intro y hy; cases hy; rfl) | exact map_hd _ _ (fun _ => rfl)) rfl rfl rfl (by first | omega | (simp; done) | (simp; omega)) rfl ?_ | refine x_appref tok rfl rfl rfl rfl rfl rfl rfl rfl rfl rfl rfl (by first | (intro y hy; cases hy; rfl) | exact map_hd _ _ (fun _ => rfl)) (by first | omega | (simp; done) | (simp; omega)) rfl ?_) | (refine is_un ?_; first | refine x_q (stp_neg rfl ⟨by omega, by omega⟩) rfl ?_) | (refine is_conv ?_; first | refine x_q (stp_conv_in tok rfl rfl rfl rfl ⟨by omega, by omega⟩) rfl ?_ | refine x_q (stp_conv tok rfl rfl rfl rfl) rfl ?_ | refine x_q (stp_convStr tok rfl rfl rfl rfl rfl rfl rfl (by first | rfl | assumption)) rfl ?_) | (refine is_slc ?_; first | refine x_slcL tok rfl rfl rfl rfl rfl (by first | (intro y hy; cases hy; rfl) | exact map_hd _ _ (fun _ => rfl) | (simp; done)) (by omega) (by simp; omega) (by first | exact List.map_drop.symm | rfl) rfl ?_ | refine x_slcH tok rfl rfl rfl rfl rfl (by first | (intro y hy; cases hy; rfl) | exact map_hd _ _ (fun _ => rfl) | (simp; done)) (by omega) (by simp; omega) (by first | exact List.map_take.symm | rfl) rfl ?_) | (refine is_mks ?_; refine x_mks tok rfl rfl rfl rfl rfl rfl rfl rfl rfl rfl rfl rfl rfl (by omega) (by omega) rfl rfl rfl ?_) | refine x_autow tok rfl rfl rfl rfl ?_ | (refine is_sto ?_; first | refine x_autos tok rfl rfl rfl ?_ | refine x_stoa tok rfl rfl rfl (by first | rfl | assumption) rfl rfl rfl rfl rfl rfl ?_ | refine x_sto1 tok rfl rfl rfl (by first | rfl | assumption) rfl rfl rfl rfl rfl rfl rfl rfl ?_) | refine x_nil ?_ | refine x_nilD (by kernel_rfl) ?_) | (first | refine sim_seq ?_ | refine x_region ?_ | refine x_draw rfl ?_ | refine sim_cond_true rfl ?_ | refine sim_cond_false rfl ?_ | (refine sim_cond rfl (fun hc => ?_) (fun hc => ?_) <;> (try simp only [cmpB, decide_eq_true_eq, decide_eq_false_iff_not, beq_iff_eq, bne_iff_ne, ne_eq, Bool.not_eq_true, beq_eq_false_iff_ne, bne_eq_false_iff_eq, Int.not_lt, Int.not_le, Decidable.not_not] at hc)) | refine sim_skip ?_ | refine sim_ret ?_ | refine sim_exit ?_ | refine sim_block ?_)))
    exact fin_own [7, 4] rfl rfl rfl rfl
theorem indexMine_c (s : Sv) (l : List Cl) (hb : l.length ≤ 1073741824) : CallSim Tryz.prog 76 [slA clA l, .fn 52 [.ptr 4 0 0]] [(4, mineB s)] (iA (idxF (fun x : Cl => x.ph == s.ph) l)) [(4, mineB s)] := by
  have hl := map_len clA l
  (refine callSim_of tok Tryz.func76 rfl (fun args w => Tryz.call76 args w) rfl rfl rfl (fun F hF => ?_))
  (refine WW ?_)
  (refine sim_rngP (l) [4] [4] [0, 1, 7] [8, 0, 1, 7] rfl (fun i pre T U zs => (∀ y ∈ pre, ((fun x : Cl => x.ph == s.ph)) y = false) ∧ zs = ⟨(8, iA i) :: T, U⟩) ?_; (conv => whnf); refine ⟨?_, ?_, ?_⟩)
  · exact ⟨by simp, rfl⟩
  · rintro i pre x post st hx hi ⟨hp, rfl⟩
    have hy := rng_at clA hx hi
    have hlt := rng_lt hx hi
    have c := mine_c s x
    have hit := idxF_hit (p := (fun x : Cl => x.ph == s.ph)) hx hp
    try dsimp only at hit
    cases he : ((fun x : Cl => x.ph == s.ph)) x <;> (dsimp only at he; rw [he] at c)
    · (repeat' (first | (refine is_ops ?_; first | refine x_auto tok rfl rfl ?_ | (refine is_call ?_; (refine is_cv ?_; first | refine x_q (stp_call (c) rfl rfl rfl rfl rfl) rfl ?_ | refine x_w (stp_call (c) rfl rfl rfl rfl rfl) rfl rfl rfl ?_ | refine x_d (stp_call (c) rfl rfl rfl rfl rfl) rfl rfl rfl ?_)) | (refine is_grd ?_; first | refine x_on rfl rfl ?_ | refine x_off rfl rfl rfl rfl ?_ | (refine x_gsplit rfl rfl (fun hc => ?_) (fun hc => ?_) <;> (try simp only [cmpB, decide_eq_true_eq, decide_eq_false_iff_not, beq_iff_eq, bne_iff_ne, ne_eq, Bool.not_eq_true, beq_eq_false_iff_ne, bne_eq_false_iff_eq, Int.not_lt, Int.not_le, Decidable.not_not] at hc))) | (refine is_bin ?_; first | refine x_q (stp_cmp_t rfl rfl rfl (by unfold cmpP; omega)) rfl ?_ | refine x_q (stp_cmp_f rfl rfl rfl (by unfold cmpP; omega)) rfl ?_ | refine x_q (stp_cmp rfl rfl rfl) rfl ?_ | refine x_q (stp_add rfl rfl ⟨by omega, by omega⟩) rfl ?_ | refine x_q (stp_sub rfl rfl ⟨by omega, by omega⟩) rfl ?_ | refine x_q (stp_mul rfl rfl ⟨by omega, by omega⟩) rfl ?_ | refine x_q (stp_quo rfl rfl (by assumption) (by omega)) rfl ?_ | refine x_q (stp_rem rfl rfl (by omega)) rfl ?_ | refine x_q (stp_xor rfl rfl) rfl ?_ | refine x_q (stp_shlI rfl rfl (by omega)) rfl ?_ | refine x_q (stp_shrI rfl rfl (by omega)) rfl ?_ | refine x_q (stp_shift (.inl ⟨rfl, rfl⟩) rfl rfl (by omega)) rfl ?_ | refine x_q (stp_shift (.inr ⟨rfl, rfl⟩) rfl rfl (by omega)) rfl ?_ | refine x_q (stp_bool2 tok rfl rfl rfl rfl (.inl ⟨rfl, rfl⟩)) rfl ?_ | refine x_q (stp_bool2 tok rfl rfl rfl rfl (.inr ⟨rfl, rfl⟩)) rfl ?_ | refine x_q (stp_eqlNil tok (.inl ⟨rfl, rfl⟩) rfl rfl rfl) rfl ?_ | refine x_q (stp_eqlNil_not tok (.inl ⟨rfl, rfl⟩) rfl rfl rfl rfl) rfl ?_ | refine x_q (stp_andI rfl rfl) rfl ?_ | refine x_q (stp_orI rfl rfl) rfl ?_ | refine x_q (stp_bicI rfl rfl) rfl ?_ | refine x_q (stp_strEqV rfl rfl (by assumption)) rfl ?_ | refine x_q (stp_strEq rfl rfl) rfl ?_ | refine x_q (stp_strNeV rfl rfl (by assumption)) rfl ?_ | refine x_q (stp_strNe rfl rfl) rfl ?_) | (refine is_idx ?_; first | refine x_q (stp_indexAddr_sl tok rfl rfl rfl rfl rfl (by omega) (by first | rfl | assumption) rfl rfl) rfl ?_ | refine x_q (stp_indexAddr_r0 tok rfl rfl rfl rfl rfl rfl (by omega) (by omega) rfl) rfl ?_ | refine x_q (stp_indexAddr_box tok rfl rfl rfl rfl rfl rfl (by omega) (by omega)) rfl ?_) | (refine is_load ?_; first | refine x_q (stp_load_fp1 tok rfl rfl rfl (by first | rfl | assumption) rfl) rfl ?_ | refine x_q (stp_load_fpa tok rfl rfl rfl (by first | rfl | assumption) rfl) rfl ?_ | refine x_q (stp_load_arr1 tok rfl rfl rfl rfl (by first | rfl | assumption) rfl) rfl ?_ | refine x_q (stp_load_arra tok rfl rfl rfl rfl (by first | rfl | assumption) rfl) rfl ?_) | (refine is_fad ?_; first | refine x_q (stp_fieldAddr_arr tok rfl rfl rfl rfl rfl rfl rfl rfl) rfl ?_ | refine x_q (stp_fieldAddr_fp tok rfl (by first | rfl | assumption) rfl rfl rfl rfl rfl rfl) rfl ?_) | (refine is_app ?_; first | refine x_appref0 tok rfl rfl rfl rfl rfl rfl rfl (by first | (intro y hy; cases hy; rfl) | exact map_hd _ _ (fun _ => rfl)) rfl rfl rfl (by first | omega | (simp; done) | (simp; omega)) rfl ?_ | refine x_appref tok rfl rfl rfl rfl rfl rfl rfl rfl rfl rfl rfl (by first | (intro y hy; cases hy; rfl) | exact map_hd _ _ (fun _ => rfl)) (by first | omega | (simp; done) | (simp; omega)) rfl ?_) | (refine is_un ?_; first | refine x_q (stp_neg rfl ⟨by omega, by omega⟩) rfl ?_) | (refine is_conv ?_; first | refine x_q (stp_conv_in tok rfl rfl rfl rfl ⟨by omega, by omega⟩) rfl ?_ | refine x_q (stp_conv tok rfl rfl rfl rfl) rfl ?_ | refine x_q (stp_convStr tok rfl rfl rfl rfl rfl rfl rfl (by first | rfl | assumption)) rfl ?_) | (refine is_slc ?_; first | refine x_slcL tok rfl rfl rfl rfl rfl (by first | (intro y hy; cases hy; rfl) | exact map_hd _ _ (fun _ => rfl) | (simp; done)) (by omega) (by simp; omega) (by first | exact List.map_drop.symm | rfl) rfl ?_ | refine x_slcH tok rfl rfl rfl rfl rfl (by first | (intro y hy; cases hy; rfl) | exact map_hd _ _ (fun _ => rfl) | (simp; done)) (by omega) (by simp; omega) (by first | exact List.map_take.symm | rfl) rfl ?_) | (refine is_mks ?_; refine x_mks tok rfl rfl rfl rfl rfl rfl rfl rfl rfl rfl rfl rfl rfl (by omega) (by omega) rfl rfl rfl ?_) | refine x_autow tok rfl rfl rfl rfl ?_ | (refine is_sto ?_; first | refine x_autos tok rfl rfl rfl ?_ | refine x_stoa tok rfl rfl rfl (by first | rfl | assumption) rfl rfl rfl rfl rfl rfl ?_ | refine x_sto1 tok rfl rfl rfl (by first | rfl | assumption) rfl rfl rfl rfl rfl rfl rfl rfl ?_) | refine x_nil ?_ | refine x_nilD (by kernel_rfl) ?_) | (first | refine sim_seq ?_ | refine x_region ?_ | refine x_draw rfl ?_ | refine sim_cond_true rfl ?_ | refine sim_cond_false rfl ?_ | (refine sim_cond rfl (fun hc => ?_) (fun hc => ?_) <;> (try simp only [cmpB, decide_eq_true_eq, decide_eq_false_iff_not, beq_iff_eq, bne_iff_ne, ne_eq, Bool.not_eq_true, beq_eq_false_iff_ne, bne_eq_false_iff_eq, Int.not_lt, Int.not_le, Decidable.not_not] at hc)) | refine sim_skip ?_ | refine sim_ret ?_ | refine sim_exit ?_ | refine sim_block ?_)))
      exact ⟨fun y hy => by simp only [List.mem_append, List.mem_singleton] at hy; rcases hy with hy | rfl; exact hp y hy; exact he, rfl⟩
    · rw [hit he, hi]
      (repeat' (first | (refine is_ops ?_; first | refine x_auto tok rfl rfl ?_ | (refine is_call ?_; (refine is_cv ?_; first | refine x_q (stp_call (c) rfl rfl rfl rfl rfl) rfl ?_ | refine x_w (stp_call (c) rfl rfl rfl rfl rfl) rfl rfl rfl ?_ | refine x_d (stp_call (c) rfl rfl rfl rfl rfl) rfl rfl rfl ?_)) | (refine is_grd ?_; first | refine x_on rfl rfl ?_ | refine x_off rfl rfl rfl rfl ?_ | (refine x_gsplit rfl rfl (fun hc => ?_) (fun hc => ?_) <;> (try simp only [cmpB, decide_eq_true_eq, decide_eq_false_iff_not, beq_iff_eq, bne_iff_ne, ne_eq, Bool.not_eq_true, beq_eq_false_iff_ne, bne_eq_false_iff_eq, Int.not_lt, Int.not_le, Decidable.not_not] at hc))) | (refine is_bin ?_; first | refine x_q (stp_cmp_t rfl rfl rfl (by unfold cmpP; omega)) rfl ?_ | refine x_q (stp_cmp_f rfl rfl rfl (by unfold cmpP; omega)) rfl ?_ | refine x_q (stp_cmp rfl rfl rfl) rfl ?_ | refine x_q (stp_add rfl rfl ⟨by omega, by omega⟩) rfl ?_ | refine x_q (stp_sub rfl rfl ⟨by omega, by omega⟩) rfl ?_ | refine x_q (stp_mul rfl rfl ⟨by omega, by omega⟩) rfl ?_ | refine x_q (stp_quo rfl rfl (by assumption) (by omega)) rfl ?_ | refine x_q (stp_rem rfl rfl (by omega)) rfl ?_ | refine x_q (stp_xor rfl rfl) rfl ?_ | refine x_q (stp_shlI rfl rfl (by omega)) rfl ?_ | refine x_q (stp_shrI rfl rfl (by omega)) rfl ?_ | refine x_q (stp_shift (.inl ⟨rfl, rfl⟩) rfl rfl (by omega)) rfl ?_ | refine x_q (stp_shift (.inr ⟨rfl, rfl⟩) rfl rfl (by omega)) rfl ?_ | refine x_q (stp_bool2 tok rfl rfl rfl rfl (.inl ⟨rfl, rfl⟩)) rfl ?_ | refine x_q (stp_bool2 tok rfl rfl rfl rfl (.inr ⟨rfl, rfl⟩)) rfl ?_ | refine x_q (stp_eqlNil tok (.inl ⟨rfl, rfl⟩) rfl rfl rfl) rfl ?_ | refine x_q (stp_eqlNil_not tok (.inl ⟨rfl, rfl⟩) rfl rfl rfl rfl) rfl ?_ | refine x_q (stp_andI rfl rfl) rfl ?_ | refine x_q (stp_orI rfl rfl) rfl ?_ | refine x_q (stp_bicI rfl rfl) rfl ?_ | refine x_q (stp_strEqV rfl rfl (by assumption)) rfl ?_ | refine x_q (stp_strEq rfl rfl) rfl ?_ | refine x_q (stp_strNeV rfl rfl (by assumption)) rfl ?_ | refine x_q (stp_strNe rfl rfl) rfl ?_) | (refine is_idx ?_; first | refine x_q (stp_indexAddr_sl tok rfl rfl rfl rfl rfl (by omega) (by first | rfl | assumption) rfl rfl) rfl ?_ | refine x_q (stp_indexAddr_r0 tok rfl rfl rfl rfl rfl rfl (by omega) (by omega) rfl) rfl ?_ | refine x_q (stp_indexAddr_box tok rfl rfl rfl rfl rfl rfl (by omega) (by omega)) rfl ?_) | (refine is_load ?_; first | refine x_q (stp_load_fp1 tok rfl rfl rfl (by first | rfl | assumption) rfl) rfl ?_ | refine x_q (stp_load_fpa tok rfl rfl rfl (by first | rfl | assumption) rfl) rfl ?_ | refine x_q (stp_load_arr1 tok rfl rfl rfl rfl (by first | rfl | assumption) rfl) rfl ?_ | refine x_q (stp_load_arra tok rfl rfl rfl rfl (by first | rfl | assumption) rfl) rfl ?_) | (refine is_fad ?_; first | refine x_q (stp_fieldAddr_arr tok rfl rfl rfl rfl rfl rfl rfl rfl) rfl ?_ | refine x_q (stp_fieldAddr_fp tok rfl (by first | rfl | assumption) rfl rfl rfl rfl rfl rfl) rfl ?_) | (refine is_app ?_; first | refine x_appref0 tok rfl rfl rfl rfl rfl rfl rfl (by first | (intro y hy; cases hy; rfl) | exact map_hd _ _ (fun _ => rfl)) rfl rfl rfl (by first | omega | (simp; done) | (simp; omega)) rfl ?_ | refine x_appref tok rfl rfl rfl rfl rfl rfl rfl rfl rfl rfl rfl (by first | (intro y hy; cases hy; rfl) | exact map_hd _ _ (fun _ => rfl)) (by first | omega | (simp; done) | (simp; omega)) rfl ?_) | (refine is_un ?_; first | refine x_q (stp_neg rfl ⟨by omega, by omega⟩) rfl ?_) | (refine is_conv ?_; first | refine x_q (stp_conv_in tok rfl rfl rfl rfl ⟨by omega, by omega⟩) rfl ?_ | refine x_q (stp_conv tok rfl rfl rfl rfl) rfl ?_ | refine x_q (stp_convStr tok rfl rfl rfl rfl rfl rfl rfl (by first | rfl | assumption)) rfl ?_) | (refine is_slc ?_; first | refine x_slcL tok rfl rfl rfl rfl rfl (by first | (intro y hy; cases hy; rfl) | exact map_hd _ _ (fun _ => rfl) | (simp; done)) (by omega) (by simp; omega) (by first | exact List.map_drop.symm | rfl) rfl ?_ | refine x_slcH tok rfl rfl rfl rfl rfl (by first | (intro y hy; cases hy; rfl) | exact map_hd _ _ (fun _ => rfl) | (simp; done)) (by omega) (by simp; omega) (by first | exact List.map_take.symm | rfl) rfl ?_) | (refine is_mks ?_; refine x_mks tok rfl rfl rfl rfl rfl rfl rfl rfl rfl rfl rfl rfl rfl (by omega) (by omega) rfl rfl rfl ?_) | refine x_autow tok rfl rfl rfl rfl ?_ | (refine is_sto ?_; first | refine x_autos tok rfl rfl rfl ?_ | refine x_stoa tok rfl rfl rfl (by first | rfl | assumption) rfl rfl rfl rfl rfl rfl ?_ | refine x_sto1 tok rfl rfl rfl (by first | rfl | assumption) rfl rfl rfl rfl rfl rfl rfl rfl ?_) | refine x_nil ?_ | refine x_nilD (by kernel_rfl) ?_) | (first | refine sim_seq ?_ | refine x_region ?_ | refine x_draw rfl ?_ | refine sim_cond_true rfl ?_ | refine sim_cond_false rfl ?_ | (refine sim_cond rfl (fun hc => ?_) (fun hc => ?_) <;> (try simp only [cmpB, decide_eq_true_eq, decide_eq_false_iff_not, beq_iff_eq, bne_iff_ne, ne_eq, Bool.not_eq_true, beq_eq_false_iff_ne, bne_eq_false_iff_eq, Int.not_lt, Int.not_le, Decidable.not_not] at hc)) | refine sim_skip ?_ | refine sim_ret ?_ | refine sim_exit ?_ | refine sim_block ?_)))
      exact fin_own [4] rfl rfl rfl rfl
  · rintro st ⟨hp, rfl⟩
    rw [idxF_none hp]
    (refine WW ?_)
    exact fin_own [4] rfl rfl rfl rfl
theorem containsMine_c (s : Sv) (l : List Cl) (hb : l.length ≤ 1073741824) : CallSim Tryz.prog 55 [slA clA l, .fn 52 [.ptr 4 0 0]] [(4, mineB s)] (bA (l.any (fun x : Cl => x.ph == s.ph))) [(4, mineB s)] := by
  have c := indexMine_c s l hb
  have h := idxF_any (fun x : Cl => x.ph == s.ph) l
  have h2 := idxF_bd (fun x : Cl => x.ph == s.ph) l
  generalize idxF (fun x : Cl => x.ph == s.ph) l = n at *
  cases ha : l.any (fun x : Cl => x.ph == s.ph) <;> rw [ha] at h <;> simp at h
  · (refine callSim_of tok Tryz.func55 rfl (fun args w => Tryz.call55 args w) rfl rfl rfl (fun F hF => ?_))
    (have zc1 := c; refine WW ?_; clear zc1)
    exact fin_own [4] rfl rfl rfl rfl
  · (refine callSim_of tok Tryz.func55 rfl (fun args w => Tryz.call55 args w) rfl rfl rfl (fun F hF => ?_))
    (have zc1 := c; refine WW ?_; clear zc1)
    exact fin_own [4] rfl rfl rfl rfl
theorem indexUrg_c (s : Sv) (l : List Cl) (hb : l.length ≤ 1073741824) : CallSim Tryz.prog 76 [slA clA l, .fn 53 [.ptr 7 0 0]] [(7, .box [.fn 52 [.ptr 4 0 0]]), (4, mineB s)] (iA (idxF (fun x : Cl => x.ph == s.ph && emF x.k) l)) [(7, .box [.fn 52 [.ptr 4 0 0]]), (4, mineB s)] := by
  have hl := map_len clA l
  (refine callSim_of tok Tryz.func76 rfl (fun args w => Tryz.call76 args w) rfl rfl rfl (fun F hF => ?_))
  (refine WW ?_)
  (refine sim_rngP (l) [7, 4] [7, 4] [0, 1, 7] [8, 0, 1, 7] rfl (fun i pre T U zs => (∀ y ∈ pre, ((fun x : Cl => x.ph == s.ph && emF x.k)) y = false) ∧ zs = ⟨(8, iA i) :: T, U⟩) ?_; (conv => whnf); refine ⟨?_, ?_, ?_⟩)
  · exact ⟨by simp, rfl⟩
  · rintro i pre x post st hx hi ⟨hp, rfl⟩
    have hy := rng_at clA hx hi
    have hlt := rng_lt hx hi
    have c := urgent_c s x
    have hit := idxF_hit (p := (fun x : Cl => x.ph == s.ph && emF x.k)) hx hp
    try dsimp only at hit
    cases he : ((fun x : Cl => x.ph == s.ph && emF x.k)) x <;> (dsimp only at he; rw [he] at c)
    · (repeat' (first | (refine is_ops ?_; first | refine x_auto tok rfl rfl ?_ | (refine is_call ?_; (refine is_cv ?_; first | refine x_q (stp_call (c) rfl rfl rfl rfl rfl) rfl ?_ | refine x_w (stp_call (c) rfl rfl rfl rfl rfl) rfl rfl rfl ?_ | refine x_d (stp_call (c) rfl rfl rfl rfl rfl) rfl rfl rfl ?_)) | (refine is_grd ?_; first | refine x_on rfl rfl ?_ | refine x_off rfl rfl rfl rfl ?_ | (refine x_gsplit rfl rfl (fun hc => ?_) (fun hc => ?_) <;> (try simp only [cmpB, decide_eq_true_eq, decide_eq_false_iff_not, beq_iff_eq, bne_iff_ne, ne_eq, Bool.not_eq_true, beq_eq_false_iff_ne, bne_eq_false_iff_eq, Int.not_lt, Int.not_le, Decidable.not_not] at hc))) | (refine is_bin ?_; first | refine x_q (stp_cmp_t rfl rfl rfl (by unfold cmpP; omega)) rfl ?_ | refine x_q (stp_cmp_f rfl rfl rfl (by unfold cmpP; omega)) rfl ?_ | refine x_q (stp_cmp rfl rfl rfl) rfl ?_ | refine x_q (stp_add rfl rfl ⟨by omega, by omega⟩) rfl ?_ | refine x_q (stp_sub rfl rfl ⟨by omega, by omega⟩) rfl ?_ | refine x_q (stp_mul rfl rfl ⟨by omega, by omega⟩) rfl ?_ | refine x_q (stp_quo rfl rfl (by assumption) (by omega)) rfl ?_ | refine x_q (stp_rem rfl rfl (by omega)) rfl ?_ | refine x_q (stp_xor rfl rfl) rfl ?_ | refine x_q (stp_shlI rfl rfl (by omega)) rfl ?_ | refine x_q (stp_shrI rfl rfl (by omega)) rfl ?_ | refine x_q (stp_shift (.inl ⟨rfl, rfl⟩) rfl rfl (by omega)) rfl ?_ | refine x_q (stp_shift (.inr ⟨rfl, rfl⟩) rfl rfl (by omega)) rfl ?_ | refine x_q (stp_bool2 tok rfl rfl rfl rfl (.inl ⟨rfl, rfl⟩)) rfl ?_ | refine x_q (stp_bool2 tok rfl rfl rfl rfl (.inr ⟨rfl, rfl⟩)) rfl ?_ | refine x_q (stp_eqlNil tok (.inl ⟨rfl, rfl⟩) rfl rfl rfl) rfl ?_ | refine x_q (stp_eqlNil_not tok (.inl ⟨rfl, rfl⟩) rfl rfl rfl rfl) rfl ?_ | refine x_q (stp_andI rfl rfl) rfl ?_ | refine x_q (stp_orI rfl rfl) rfl ?_ | refine x_q (stp_bicI rfl rfl) rfl ?_ | refine x_q (stp_strEqV rfl rfl (by assumption)) rfl ?_ | refine x_q (stp_strEq rfl rfl) rfl ?_ | refine x_q (stp_strNeV rfl rfl (by assumption)) rfl ?_ | refine x_q (stp_strNe rfl rfl) rfl ?_) | (refine is_idx ?_; first | refine x_q (stp_indexAddr_sl tok rfl rfl rfl rfl rfl (by omega) (by first | rfl | assumption) rfl rfl) rfl ?_ | refine x_q (stp_indexAddr_r0 tok rfl rfl rfl rfl rfl rfl (by omega) (by omega) rfl) rfl ?_ | refine x_q (stp_indexAddr_box tok rfl rfl rfl rfl rfl rfl (by omega) (by omega)) rfl ?_) | (refine is_load ?_; first | refine x_q (stp_load_fp1 tok rfl rfl rfl (by first | rfl | assumption) rfl) rfl ?_ | refine x_q (stp_load_fpa tok rfl rfl rfl (by first | rfl | assumption) rfl) rfl ?_ | refine x_q (stp_load_arr1 tok rfl rfl rfl rfl (by first | rfl | assumption) rfl) rfl ?_ | refine x_q (stp_load_arra tok rfl rfl rfl rfl (by first | rfl | assumption) rfl) rfl ?_) | (refine is_fad ?_; first | refine x_q (stp_fieldAddr_arr tok rfl rfl rfl rfl rfl rfl rfl rfl) rfl ?_ | refine x_q (stp_fieldAddr_fp tok rfl (by first | rfl | assumption) rfl rfl rfl rfl rfl rfl) rfl ?_) | (refine is_app ?_; first | refine x_appref0 tok rfl rfl rfl rfl rfl rfl rfl (by first | (intro y hy; cases hy; rfl) | exact map_hd _ _ (fun _ => rfl)) rfl rfl rfl (by first | omega | (simp; done) | (simp; omega)) rfl ?_ | refine x_appref tok rfl rfl rfl rfl rfl rfl rfl rfl rfl rfl rfl (by first | (intro y hy; cases hy; rfl) | exact map_hd _ _ (fun _ => rfl)) (by first | omega | (simp; done) | (simp; omega)) rfl ?_) | (refine is_un ?_; first | refine x_q (stp_neg rfl ⟨by omega, by omega⟩) rfl ?_) | (refine is_conv ?_; first | refine x_q (stp_conv_in tok rfl rfl rfl rfl ⟨by omega, by omega⟩) rfl ?_ | refine x_q (stp_conv tok rfl rfl rfl rfl) rfl ?_ | refine x_q (stp_convStr tok rfl rfl rfl rfl rfl rfl rfl (by first | rfl | assumption)) rfl ?_) | (refine is_slc ?_; first | refine x_slcL tok rfl rfl rfl rfl rfl (by first | (intro y hy; cases hy; rfl) | exact map_hd _ _ (fun _ => rfl) | (simp; done)) (by omega) (by simp; omega) (by first | exact List.map_drop.symm | rfl) rfl ?_ | refine x_slcH tok rfl rfl rfl rfl rfl (by first | (intro y hy; cases hy; rfl) | exact map_hd _ _ (fun _ => rfl) | (simp; done)) (by omega) (by simp; omega) (by first | exact List.map_take.symm | rfl) rfl ?_) | (refine is_mks ?_; refine x_mks tok rfl rfl rfl rfl rfl rfl rfl rfl rfl rfl rfl rfl rfl (by omega) (by omega) rfl rfl rfl ?_) | refine x_autow tok rfl rfl rfl rfl ?_ | (refine is_sto ?_; first | refine x_autos tok rfl rfl rfl ?_ | refine x_stoa tok rfl rfl rfl (by first | rfl | assumption) rfl rfl rfl rfl rfl rfl ?_ | refine x_sto1 tok rfl rfl rfl (by first | rfl | assumption) rfl rfl rfl rfl rfl rfl rfl rfl ?_) | refine x_nil ?_ | refine x_nilD (by kernel_rfl) ?_) | (first | refine sim_seq ?_ | refine x_region ?_ | refine x_draw rfl ?_ | refine sim_cond_true rfl ?_ | refine sim_cond_false rfl ?_ | (refine sim_cond rfl (fun hc => ?_) (fun hc => ?_) <;> (try simp only [cmpB, decide_eq_true_eq, decide_eq_false_iff_not, beq_iff_eq, bne_iff_ne, ne_eq, Bool.not_eq_true, beq_eq_false_iff_ne, bne_eq_false_iff_eq, Int.not_lt, Int.not_le, Decidable.not_not] at hc)) | refine sim_skip ?_ | refine sim_ret ?_ | refine sim_exit ?_ | refine sim_block ?_)))
      exact ⟨fun y hy => by simp only [List.mem_append, List.mem_singleton] at hy; rcases hy with hy | rfl; exact hp y hy; exact he, rfl⟩
    · rw [hit he, hi]
      (repeat' (first | (refine is_ops ?_; first | refine x_auto tok rfl rfl ?_ | (refine is_call ?_; (refine is_cv ?_; first | refine x_q (stp_call (c) rfl rfl rfl rfl rfl) rfl ?_ | refine x_w (stp_call (c) rfl rfl rfl rfl rfl) rfl rfl rfl ?_ | refine x_d (stp_call (c) rfl rfl rfl rfl rfl) rfl rfl rfl ?_)) | (refine is_grd ?_; first | refine x_on rfl rfl ?_ | refine x_off rfl rfl rfl rfl ?_ | (refine x_gsplit rfl rfl (fun hc => ?_) (fun hc => ?_) <;> (try simp only [cmpB, decide_eq_true_eq, decide_eq_false_iff_not, beq_iff_eq, bne_iff_ne, ne_eq, Bool.not_eq_true, beq_eq_false_iff_ne, bne_eq_false_iff_eq, Int.not_lt, Int.not_le, Decidable.not_not] at hc))) | (refine is_bin ?_; first | refine x_q (stp_cmp_t rfl rfl rfl (by unfold cmpP; omega)) rfl ?_ | refine x_q (stp_cmp_f rfl rfl rfl (by unfold cmpP; omega)) rfl ?_ | refine x_q (stp_cmp rfl rfl rfl) rfl ?_ | refine x_q (stp_add rfl rfl ⟨by omega, by omega⟩) rfl ?_ | refine x_q (stp_sub rfl rfl ⟨by omega, by omega⟩) rfl ?_ | refine x_q (stp_mul rfl rfl ⟨by omega, by omega⟩) rfl ?_ | refine x_q (stp_quo rfl rfl (by assumption) (by omega)) rfl ?_ | refine x_q (stp_rem rfl rfl (by omega)) rfl ?_ | refine x_q (stp_xor rfl rfl) rfl ?_ | refine x_q (stp_shlI rfl rfl (by omega)) rfl ?_ | refine x_q (stp_shrI rfl rfl (by omega)) rfl ?_ | refine x_q (stp_shift (.inl ⟨rfl, rfl⟩) rfl rfl (by omega)) rfl ?_ | refine x_q (stp_shift (.inr ⟨rfl, rfl⟩) rfl rfl (by omega)) rfl ?_ | refine x_q (stp_bool2 tok rfl rfl rfl rfl (.inl ⟨rfl, rfl⟩)) rfl ?_ | refine x_q (stp_bool2 tok rfl rfl rfl rfl (.inr ⟨rfl, rfl⟩)) rfl ?_ | refine x_q (stp_eqlNil tok (.inl ⟨rfl, rfl⟩) rfl rfl rfl) rfl ?_ | refine x_q (stp_eqlNil_not tok (.inl ⟨rfl, rfl⟩) rfl rfl rfl rfl) rfl ?_ | refine x_q (stp_andI rfl rfl) rfl ?_ | refine x_q (stp_orI rfl rfl) rfl ?_ | refine x_q (stp_bicI rfl rfl) rfl ?_ | refine x_q (stp_strEqV rfl rfl (by assumption)) rfl ?_ | refine x_q (stp_strEq rfl rfl) rfl ?_ | refine x_q (stp_strNeV rfl rfl (by assumption)) rfl ?_ | refine x_q (stp_strNe rfl rfl) rfl ?_) | (refine is_idx ?_; first | refine x_q (stp_indexAddr_sl tok rfl rfl rfl rfl rfl (by omega) (by first | rfl | assumption) rfl rfl) rfl ?_ | refine x_q (stp_indexAddr_r0 tok rfl rfl rfl rfl rfl rfl (by omega) (by omega) rfl) rfl ?_ | refine x_q (stp_indexAddr_box tok rfl rfl rfl rfl rfl rfl (by omega) (by omega)) rfl ?_) | (refine is_load ?_; first | refine x_q (stp_load_fp1 tok rfl rfl rfl (by first | rfl | assumption) rfl) rfl ?_ | refine x_q (stp_load_fpa tok rfl rfl rfl (by first | rfl | assumption) rfl) rfl ?_ | refine x_q (stp_load_arr1 tok rfl rfl rfl rfl (by first | rfl | assumption) rfl) rfl ?_ | refine x_q (stp_load_arra tok rfl rfl rfl rfl (by first | rfl | assumption) rfl) rfl ?_) | (refine is_fad ?_; first | refine x_q (stp_fieldAddr_arr tok rfl rfl rfl rfl rfl rfl rfl rfl) rfl ?_ | refine x_q (stp_fieldAddr_fp tok rfl (by first | rfl | assumption) rfl rfl rfl rfl rfl rfl) rfl ?_) | (refine is_app ?_; first | refine x_appref0 tok rfl rfl rfl rfl rfl rfl rfl (by first | (intro y hy; cases hy; rfl) | exact map_hd _ _ (fun _ => rfl)) rfl rfl rfl (by first | omega | (simp; done) | (simp; omega)) rfl ?_ | refine x_appref tok rfl rfl rfl rfl rfl rfl rfl rfl rfl rfl rfl (by first | (intro y hy; cases hy; rfl) | exact map_hd _ _ (fun _ => rfl)) (by first | omega | (simp; done) | (simp; omega)) rfl ?_) | (refine is_un ?_; first | refine x_q (stp_neg rfl ⟨by omega, by omega⟩) rfl ?_) | (refine is_conv ?_; first | refine x_q (stp_conv_in tok rfl rfl rfl rfl ⟨by omega, by omega⟩) rfl ?_ | refine x_q (stp_conv tok rfl rfl rfl rfl) rfl ?_ | refine x_q (stp_convStr tok rfl rfl rfl rfl rfl rfl rfl (by first | rfl | assumption)) rfl ?_) | (refine is_slc ?_; first | refine x_slcL tok rfl rfl rfl rfl rfl (by first | (intro y hy; cases hy; rfl) | exact map_hd _ _ (fun _ => rfl) | (simp; done)) (by omega) (by simp; omega) (by first | exact List.map_drop.symm | rfl) rfl ?_ | refine x_slcH tok rfl rfl rfl rfl rfl (by first | (intro y hy; cases hy; rfl) | exact map_hd _ _ (fun _ => rfl) | (simp; done)) (by omega) (by simp; omega) (by first | exact List.map_take.symm | rfl) rfl ?_) | (refine is_mks ?_; refine x_mks tok rfl rfl rfl rfl rfl rfl rfl rfl rfl rfl rfl rfl rfl (by omega) (by omega) rfl rfl rfl ?_) | refine x_autow tok rfl rfl rfl rfl ?_ | (refine is_sto ?_; first | refine x_autos tok rfl rfl rfl ?_ | refine x_stoa tok rfl rfl rfl (by first | rfl | assumption) rfl rfl rfl rfl rfl rfl ?_ | refine x_sto1 tok rfl rfl rfl (by first | rfl | assumption) rfl rfl rfl rfl rfl rfl rfl rfl ?_) | refine x_nil ?_ | refine x_nilD (by kernel_rfl) ?_) | (first | refine sim_seq ?_ | refine x_region ?_ | refine x_draw rfl ?_ | refine sim_cond_true rfl ?_ | refine sim_cond_false rfl ?_ | (refine sim_cond rfl (fun hc => ?_) (fun hc => ?_) <;> (try simp only [cmpB, decide_eq_true_eq, decide_eq_false_iff_not, beq_iff_eq, bne_iff_ne, ne_eq, Bool.not_eq_true, beq_eq_false_iff_ne, bne_eq_false_iff_eq, Int.not_lt, Int.not_le, Decidable.not_not] at hc)) | refine sim_skip ?_ | refine sim_ret ?_ | refine sim_exit ?_ | refine sim_block ?_)))
      exact fin_own [7, 4] rfl rfl rfl rfl
  · rintro st ⟨hp, rfl⟩
    rw [idxF_none hp]
    (refine WW ?_)
    exact fin_own [7, 4] rfl rfl rfl rfl
theorem containsUrg_c (s : Sv) (l : List Cl) (hb : l.length ≤ 1073741824) : CallSim Tryz.prog 55 [slA clA l, .fn 53 [.ptr 7 0 0]] [(7, .box [.fn 52 [.ptr 4 0 0]]), (4, mineB s)] (bA (l.any (fun x : Cl => x.ph == s.ph && emF x.k))) [(7, .box [.fn 52 [.ptr 4 0 0]]), (4, mineB s)] := by
  have c := indexUrg_c s l hb
  have h := idxF_any (fun x : Cl => x.ph == s.ph && emF x.k) l
  have h2 := idxF_bd (fun x : Cl => x.ph == s.ph && emF x.k) l
  generalize idxF (fun x : Cl => x.ph == s.ph && emF x.k) l = n at *
  cases ha : l.any (fun x : Cl => x.ph == s.ph && emF x.k) <;> rw [ha] at h <;> simp at h
  · (refine callSim_of tok Tryz.func55 rfl (fun args w => Tryz.call55 args w) rfl rfl rfl (fun F hF => ?_))
    (have zc1 := c; refine WW ?_; clear zc1)
    exact fin_own [7, 4] rfl rfl rfl rfl
  · (refine callSim_of tok Tryz.func55 rfl (fun args w => Tryz.call55 args w) rfl rfl rfl (fun F hF => ?_))
    (have zc1 := c; refine WW ?_; clear zc1)
    exact fin_own [7, 4] rfl rfl rfl rfl
def overF (g : Cf) (s : Sv) (l : List Cl) : Bool := !(l.any fun x => x.ph == s.ph) || decide (g.hold ≤ s.gr) || ((l.any fun c => emF c.k) && !(l.any fun x => x.ph == s.ph && emF x.k))
theorem over_c (g : Cf) (s : Sv) (l : List Cl) (hb : l.length ≤ 1073741824) : CallSim Tryz.prog 38 [cfA g, svA s, slA clA l] [] (bA (overF g s l)) [] := by
  have c1 := containsMine_c s l hb
  have c2 := containsUrg_c s l hb
  have c3 := containsEm_c l hb
  unfold overF
  generalize (l.any fun x => x.ph == s.ph) = m at *
  generalize (l.any fun x => x.ph == s.ph && emF x.k) = u at *
  generalize (l.any fun c => emF c.k) = e at *
  by_cases h : g.hold ≤ s.gr
  · rw [decide_eq_true h]
    cases m <;> cases u <;> cases e <;> (simp only [Bool.not_true, Bool.not_false, Bool.true_or, Bool.false_or, Bool.or_true, Bool.and_true, Bool.and_false]; (refine callSim_of tok Tryz.func38 rfl (fun args w => Tryz.call38 args w) rfl rfl rfl (fun F hF => ?_)); (have zc1 := c1; have zc2 := c3; have zc3 := c2; refine WW ?_; clear zc1 zc2 zc3); exact fin_ret [] rfl rfl rfl rfl)
  · rw [decide_eq_false h]
    cases m <;> cases u <;> cases e <;> (simp only [Bool.not_true, Bool.not_false, Bool.true_or, Bool.false_or, Bool.or_true, Bool.or_false, Bool.and_true, Bool.and_false]; (refine callSim_of tok Tryz.func38 rfl (fun args w => Tryz.call38 args w) rfl rfl rfl (fun F hF => ?_)); (have zc1 := c1; have zc2 := c3; have zc3 := c2; refine WW ?_; clear zc1 zc2 zc3); exact fin_ret [] rfl rfl rfl rfl)
def dec1 (g : Cf) (s : Sv) (l : List Cl) (now : Int) : Sv := if s.ph ≠ -1 ∧ overF g s l = true then endsF s now else s
def decF (g : Cf) (s : Sv) (l : List Cl) (now : Int) : Sv :=
  if (dec1 g s l now).ph = -1 ∧ 0 ≤ bestN g (dec1 g s l now) now l l.length then ⟨(l.getD (bestN g (dec1 g s l now) now l l.length).toNat default).ph, 0, (dec1 g s l now).en⟩ else dec1 g s l now
theorem endsF_len (s : Sv) (now : Int) : (endsF s now).en.length = s.en.length := by unfold endsF; dsimp only; split <;> simp
theorem dec1_len (g : Cf) (s : Sv) (l : List Cl) (now : Int) : (dec1 g s l now).en.length = s.en.length := by unfold dec1; split; exact endsF_len s now; rfl
/-- The claims and the ticks keep their bounds. -/
structure DcB (g : Cf) (s : Sv) (l : List Cl) (now : Int) : Prop where
  p : 1 ≤ g.per
  c0 : -1000000 ≤ g.cap
  c1 : g.cap ≤ 1000000
  n0 : 0 ≤ now
  n1 : now ≤ 1000000000
  en : ∀ e ∈ s.en, -1 ≤ e ∧ e ≤ now
  k : ∀ c ∈ l, 0 ≤ c.k ∧ c.k ≤ 3
  si : ∀ c ∈ l, 0 ≤ c.si ∧ c.si ≤ now
  len : l.length ≤ 1000
  sl : s.en.length ≤ 1000
theorem endsF_en (s : Sv) (now : Int) (h0 : 0 ≤ now) (h : ∀ e ∈ s.en, -1 ≤ e ∧ e ≤ now) : ∀ e ∈ (endsF s now).en, -1 ≤ e ∧ e ≤ now := by
  unfold endsF
  dsimp only
  split
  · intro e he
    rcases List.mem_or_eq_of_mem_set he with he | rfl
    · exact h e he
    · omega
  · exact h
theorem dec1_en (g : Cf) (s : Sv) (l : List Cl) (now : Int) (h0 : 0 ≤ now) (h : ∀ e ∈ s.en, -1 ≤ e ∧ e ≤ now) : ∀ e ∈ (dec1 g s l now).en, -1 ≤ e ∧ e ≤ now := by
  unfold dec1; split; exact endsF_en s now h0 h; exact h
theorem DcB.ok {g : Cf} {s : Sv} {l : List Cl} {now : Int} (H : DcB g s l now) (s' : Sv) (he : ∀ e ∈ s'.en, -1 ≤ e ∧ e ≤ now) : ∀ i, i < l.length → COk g.per now s'.en (l.getD i default) := fun i hi => by
  have hk := getD_mem' (fun c : Cl => 0 ≤ c.k ∧ c.k ≤ 3) default l i H.k hi
  have hs := getD_mem' (fun c : Cl => 0 ≤ c.si ∧ c.si ≤ now) default l i H.si hi
  have he := endF_bd s'.en now (l.getD i default).ph H.n0 he
  have := H.p
  have := H.n0
  have := H.n1
  constructor <;> (try unfold staF) <;> omega
theorem DcB.sta {g : Cf} {s : Sv} {l : List Cl} {now : Int} (H : DcB g s l now) (s' : Sv) (he : ∀ e ∈ s'.en, -1 ≤ e ∧ e ≤ now) : ∀ i, i < l.length → staF s'.en (l.getD i default).ph (l.getD i default).si ≤ now := fun i hi => by
  have hs := getD_mem' (fun c : Cl => 0 ≤ c.si ∧ c.si ≤ now) default l i H.si hi
  have he := endF_bd s'.en now (l.getD i default).ph H.n0 he
  unfold staF; omega
theorem decide_c (g : Cf) (s : Sv) (l : List Cl) (now : Int) (H : DcB g s l now) : CallSim Tryz.prog 24 [cfA g, svA s, slA clA l, iA now] [] (svA (decF g s l now)) [] := by
  have hb : SvB s := ⟨by have := H.sl; omega⟩
  have c1 := copyS_c s hb
  have c2 := over_c g s l (by have := H.len; omega)
  have c3 := end_c s hb now
  have hl := map_len clA l
  have hll := H.len
  have he := dec1_en g s l now H.n0 H.en
  have c4 := best_c g (dec1 g s l now) now l (by omega) (H.ok _ he)
  have hbd := bestN_bd g (dec1 g s l now) now l l.length
  have hd : dec1 g s l now = if s.ph ≠ -1 ∧ overF g s l = true then endsF s now else s := rfl
  unfold decF
  generalize dec1 g s l now = s1 at *
  generalize bestN g s1 now l l.length = b at *
  generalize overF g s l = ov at *
  generalize endsF s now = s2 at *
  by_cases h1 : s.ph = -1
  · rw [if_neg (by simp [h1])] at hd
    subst hd
    by_cases h2 : 0 ≤ b
    · rw [if_pos ⟨h1, h2⟩]
      have hy := map_atI clA l b h2 (by omega)
      generalize l.getD b.toNat default = cl at *
      (refine callSim_of tok Tryz.func24 rfl (fun args w => Tryz.call24 args w) rfl rfl rfl (fun F hF => ?_))
      (have zc1 := c1; have zc2 := c4; refine WW ?_; clear zc1 zc2)
      exact fin_ret [] rfl rfl rfl rfl
    · rw [if_neg (fun h => h2 h.2)]
      (refine callSim_of tok Tryz.func24 rfl (fun args w => Tryz.call24 args w) rfl rfl rfl (fun F hF => ?_))
      (have zc1 := c1; have zc2 := c4; refine WW ?_; clear zc1 zc2)
      exact fin_ret [] rfl rfl rfl rfl
  cases ov with
  | false =>
    rw [if_neg (by simp)] at hd
    subst hd
    rw [if_neg (fun h => h1 h.1)]
    (refine callSim_of tok Tryz.func24 rfl (fun args w => Tryz.call24 args w) rfl rfl rfl (fun F hF => ?_))
    (have zc1 := c1; have zc2 := c2; refine WW ?_; clear zc1 zc2)
    exact fin_ret [] rfl rfl rfl rfl
  | true =>
    rw [if_pos ⟨h1, rfl⟩] at hd
    subst hd
    by_cases h3 : s1.ph = -1
    · by_cases h2 : 0 ≤ b
      · rw [if_pos ⟨h3, h2⟩]
        have hy := map_atI clA l b h2 (by omega)
        generalize l.getD b.toNat default = cl at *
        (refine callSim_of tok Tryz.func24 rfl (fun args w => Tryz.call24 args w) rfl rfl rfl (fun F hF => ?_))
        (have zc1 := c1; have zc2 := c2; have zc3 := c3; have zc4 := c4; refine WW ?_; clear zc1 zc2 zc3 zc4)
        exact fin_ret [] rfl rfl rfl rfl
      · rw [if_neg (fun h => h2 h.2)]
        (refine callSim_of tok Tryz.func24 rfl (fun args w => Tryz.call24 args w) rfl rfl rfl (fun F hF => ?_))
        (have zc1 := c1; have zc2 := c2; have zc3 := c3; have zc4 := c4; refine WW ?_; clear zc1 zc2 zc3 zc4)
        exact fin_ret [] rfl rfl rfl rfl
    · rw [if_neg (fun h => h3 h.1)]
      (refine callSim_of tok Tryz.func24 rfl (fun args w => Tryz.call24 args w) rfl rfl rfl (fun F hF => ?_))
      (have zc1 := c1; have zc2 := c2; have zc3 := c3; have zc4 := c4; refine WW ?_; clear zc1 zc2 zc3 zc4)
      exact fin_ret [] rfl rfl rfl rfl
end Av
end Go.Proofs.YtkliodbbcblobaaGreat
/- law21: the reference's Decide; awake. -/
namespace Go.Proofs.YtkliodbbcblobaaGreat
namespace Av
set_option linter.unusedSimpArgs false
set_option linter.unusedVariables false
set_option maxRecDepth 4000
set_option maxHeartbeats 1000000
theorem any_snoc {α : Type} (p : α → Bool) (l : List α) (x : α) : (l ++ [x]).any p = (l.any p || p x) := by simp
theorem decide2_c (g : Cf) (s : Sv) (l : List Cl) (now : Int) (H : DcB g s l now) : CallSim Tryz.prog 29 [cfA g, svA s, slA clA l, iA now] [] (svA (decF g s l now)) [] := by
  have hb : SvB s := ⟨by have := H.sl; omega⟩
  have c1 := copyS2_c s hb
  have c3 := end2_c s hb now
  have hl := map_len clA l
  have hll := H.len
  have he := dec1_en g s l now H.n0 H.en
  have c4 := best2_c g (dec1 g s l now) now l (by omega) (H.ok _ he) (H.sta _ he) ⟨H.c0, H.c1⟩
  have hbd := bestN_bd g (dec1 g s l now) now l l.length
  have hd : dec1 g s l now = if s.ph ≠ -1 ∧ overF g s l = true then endsF s now else s := rfl
  have ho : overF g s l = (!(l.any fun x => x.ph == s.ph) || decide (g.hold ≤ s.gr) || ((l.any fun c => emF c.k) && !(l.any fun x => x.ph == s.ph && emF x.k))) := rfl
  unfold decF
  generalize dec1 g s l now = s1 at *
  generalize bestN g s1 now l l.length = b at *
  generalize overF g s l = ov at *
  generalize endsF s now = s2 at *
  by_cases h1 : s.ph = -1
  · rw [if_neg (by simp [h1])] at hd
    subst hd
    by_cases h2 : 0 ≤ b
    · rw [if_pos ⟨h1, h2⟩]
      have hy := map_atI clA l b h2 (by omega)
      generalize l.getD b.toNat default = cl at *
      (refine callSim_of tok Tryz.func29 rfl (fun args w => Tryz.call29 args w) rfl rfl rfl (fun F hF => ?_))
      (have zc1 := c1; have zc2 := c4; refine WW ?_; clear zc1 zc2)
      exact fin_ret [] rfl rfl rfl rfl
    · rw [if_neg (fun h => h2 h.2)]
      (refine callSim_of tok Tryz.func29 rfl (fun args w => Tryz.call29 args w) rfl rfl rfl (fun F hF => ?_))
      (have zc1 := c1; have zc2 := c4; refine WW ?_; clear zc1 zc2)
      exact fin_ret [] rfl rfl rfl rfl
  (refine callSim_of tok Tryz.func29 rfl (fun args w => Tryz.call29 args w) rfl rfl rfl (fun F hF => ?_))
  (have zc1 := c1; refine WW ?_; clear zc1)
  (refine sim_rng (l) [4, 5, 8, 9] [4, 5, 8, 9] [2, 3, 4, 5, 8, 9, 21, 22] [10, 11, 12, 23, 2, 3, 4, 5, 8, 9, 21, 22] rfl (fun i pre T U => ⟨(10, bA (pre.any fun x => x.ph == s.ph)) :: (11, bA (pre.any fun x => x.ph == s.ph && emF x.k)) :: (12, bA (pre.any fun c => emF c.k)) :: (23, iA i) :: T, U⟩) ?_; (conv => whnf); refine ⟨by rfl, ?_, ?_⟩)
  · intro i pre x post hx hi
    have hy := rng_at clA hx hi
    have hlt := rng_lt hx hi
    have e := emergency2_c x
    simp only [any_snoc]
    generalize (pre.any fun x => x.ph == s.ph) = m at *
    generalize (pre.any fun x => x.ph == s.ph && emF x.k) = u at *
    generalize (pre.any fun c => emF c.k) = w at *
    generalize emF x.k = ex at *
    by_cases h3 : x.ph = s.ph
    · rw [show (x.ph == s.ph) = true by simpa using h3]
      cases m <;> cases u <;> cases w <;> cases ex <;> ((have zc1 := e; refine WW ?_; clear zc1); rfl)
    · rw [show (x.ph == s.ph) = false by simpa using h3]
      cases m <;> cases u <;> cases w <;> cases ex <;> ((have zc1 := e; refine WW ?_; clear zc1); rfl)
  · generalize (l.any fun x => x.ph == s.ph) = m at *
    generalize (l.any fun x => x.ph == s.ph && emF x.k) = u at *
    generalize (l.any fun c => emF c.k) = w at *
    have hh : (m = true ∧ s.gr < g.hold ∧ (w = false ∨ u = true) ∧ ov = false) ∨ ov = true := by
      by_cases h : g.hold ≤ s.gr <;> cases m <;> cases u <;> cases w <;> simp_all <;> omega
    rcases hh with ⟨hm, hg, hw, hov⟩ | hov
    · subst hm hov
      rw [if_neg (by simp)] at hd
      subst hd
      rw [if_neg (fun h => h1 h.1)]
      cases u <;> cases w <;> first | (simp at hw; done) | ((refine WW ?_); exact fin_ret [] rfl rfl rfl rfl)
    · subst hov
      rw [if_pos ⟨h1, rfl⟩] at hd
      subst hd
      have hh : g.hold ≤ s.gr ∨ s.gr < g.hold ∧ (m = false ∨ (w = true ∧ u = false)) := by
        by_cases h : g.hold ≤ s.gr <;> cases m <;> cases u <;> cases w <;> simp_all <;> omega
      clear ho
      by_cases h3 : s1.ph = -1
      · by_cases h2 : 0 ≤ b
        · rw [if_pos ⟨h3, h2⟩]
          have hy := map_atI clA l b h2 (by omega)
          generalize l.getD b.toNat default = cl at *
          by_cases h : g.hold ≤ s.gr
          · cases m <;> cases u <;> cases w <;> ((have zc1 := c3; have zc2 := c4; refine WW ?_; clear zc1 zc2); exact fin_ret [] rfl rfl rfl rfl)
          · cases m <;> cases u <;> cases w <;> first | (exfalso; simp at hh; omega) | ((have zc1 := c3; have zc2 := c4; refine WW ?_; clear zc1 zc2); exact fin_ret [] rfl rfl rfl rfl)
        · rw [if_neg (fun h => h2 h.2)]
          by_cases h : g.hold ≤ s.gr
          · cases m <;> cases u <;> cases w <;> ((have zc1 := c3; have zc2 := c4; refine WW ?_; clear zc1 zc2); exact fin_ret [] rfl rfl rfl rfl)
          · cases m <;> cases u <;> cases w <;> first | (exfalso; simp at hh; omega) | ((have zc1 := c3; have zc2 := c4; refine WW ?_; clear zc1 zc2); exact fin_ret [] rfl rfl rfl rfl)
      · rw [if_neg (fun h => h3 h.1)]
        by_cases h : g.hold ≤ s.gr
        · cases m <;> cases u <;> cases w <;> ((have zc1 := c3; have zc2 := c4; refine WW ?_; clear zc1 zc2); exact fin_ret [] rfl rfl rfl rfl)
        · cases m <;> cases u <;> cases w <;> first | (exfalso; simp at hh; omega) | ((have zc1 := c3; have zc2 := c4; refine WW ?_; clear zc1 zc2); exact fin_ret [] rfl rfl rfl rfl)
end Av
end Go.Proofs.YtkliodbbcblobaaGreat
/- law21: ends of services; awake; the law ArbiterEnds. -/
namespace Go.Proofs.YtkliodbbcblobaaGreat
namespace Av
set_option linter.unusedSimpArgs false
set_option linter.unusedVariables false
set_option maxRecDepth 4000
set_option maxHeartbeats 1000000
theorem clL_rem (ph now : Int) (d : Dk) : ∀ i, rem (clL ph now d i).2 ≤ rem d
  | 0 => Nat.le_refl _
  | i + 1 => by
    have := clL_rem ph now d i
    have h1 := rem_ad (clL ph now d i).2
    have h2 := rem_ad (ad (clL ph now d i).2)
    have h3 := rem_ad (ad (ad (clL ph now d i).2))
    have h4 := rem_ad (ad (ad (ad (clL ph now d i).2)))
    have h5 := rem_ad (ad (ad (ad (ad (clL ph now d i).2))))
    simp only [clL]
    omega
theorem claims_ex (d : Dk) (n : Nat) (now : Int) (h1 : 1 ≤ n) (h2 : n ≤ 1000) (h3 : 0 ≤ now) (h4 : now ≤ 1000000) : ∃ c d', c.length ≤ 5 ∧ (∀ x ∈ c, ClB n now x) ∧ rem d' ≤ rem (ad d) ∧ CallSim Tryz.prog 12 [.ptr 1000 0 0, iA n, iA now] [(1000, dkE d)] (slA clA c) [(1000, dkE d')] := by
  have hb := nx_bd d 6 (by omega)
  refine ⟨clF d n now, clD d n now, by unfold clF; rw [clL_len]; omega, clL_bd n now (ad d) h3 (by omega) _, ?_, claims_c d n now (by omega) (by omega) h3 h4⟩
  unfold clD
  exact clL_rem _ _ _ _
theorem decF_en (g : Cf) (s : Sv) (l : List Cl) (now : Int) : (decF g s l now).en = (dec1 g s l now).en := by unfold decF; split <;> rfl
theorem dec_len (g : Cf) (s : Sv) (l : List Cl) (now : Int) : (decF g s l now).en.length = s.en.length := by rw [decF_en]; exact dec1_len g s l now
theorem dec1_cases (g : Cf) (s : Sv) (l : List Cl) (now : Int) : (dec1 g s l now = s ∨ (s.ph ≠ -1 ∧ overF g s l = true ∧ dec1 g s l now = endsF s now)) := by
  unfold dec1; split
  · rename_i h; exact .inr ⟨h.1, h.2, rfl⟩
  · exact .inl rfl
theorem dec_chg (g : Cf) (s : Sv) (l : List Cl) (now : Int) (p : Nat) (h : p < s.en.length) (h' : p < (decF g s l now).en.length) (hc : (decF g s l now).en[p] ≠ s.en[p]) : (p : Int) = s.ph ∧ 0 < s.gr ∧ (decF g s l now).en[p] = now := by
  have e := decF_en g s l now
  have h2 : p < (dec1 g s l now).en.length := by rw [dec1_len]; exact h
  have e2 : (decF g s l now).en[p] = (dec1 g s l now).en[p] := by simp only [e]
  rw [e2] at hc ⊢
  rcases dec1_cases g s l now with hd | ⟨_, _, hd⟩
  · exact absurd (by simp only [hd]) hc
  · have e3 : (dec1 g s l now).en[p] = (endsF s now).en[p]'(by rw [endsF_len]; exact h) := by simp only [hd]
    rw [e3] at hc ⊢
    unfold endsF at hc ⊢
    by_cases hh : 0 < s.gr ∧ 0 ≤ s.ph ∧ s.ph < s.en.length
    · simp only [if_pos hh, List.getElem_set] at hc ⊢
      by_cases hp : s.ph.toNat = p
      · rw [if_pos hp]; exact ⟨by omega, hh.1, rfl⟩
      · rw [if_neg hp] at hc; exact absurd rfl hc
    · simp only [if_neg hh] at hc; exact absurd rfl hc
theorem dec_end (g : Cf) (s : Sv) (l : List Cl) (now : Int) (p : Nat) (h : p < s.en.length) (h' : p < (decF g s l now).en.length) (hp : (p : Int) = s.ph) (hh : 1 ≤ g.hold) (hg : g.hold ≤ s.gr) (hn : s.en[p] ≠ now) : (decF g s l now).en[p] ≠ s.en[p] := by
  have e := decF_en g s l now
  have ho : overF g s l = true := by unfold overF; rw [decide_eq_true hg]; simp
  have hd : dec1 g s l now = endsF s now := by unfold dec1; rw [if_pos ⟨by omega, ho⟩]
  have e2 : (decF g s l now).en[p] = (endsF s now).en[p]'(by rw [endsF_len]; exact h) := by simp only [e, hd]
  rw [e2]
  unfold endsF
  simp only [if_pos (show 0 < s.gr ∧ 0 ≤ s.ph ∧ s.ph < s.en.length by omega), List.getElem_set, if_pos (show s.ph.toNat = p by omega)]
  exact fun h => hn h.symm
theorem dec1_ph (g : Cf) (s : Sv) (l : List Cl) (now : Int) : (dec1 g s l now).ph = s.ph ∧ (dec1 g s l now).gr = s.gr ∨ (dec1 g s l now).ph = -1 ∧ (dec1 g s l now).gr = 0 := by
  rcases dec1_cases g s l now with hd | ⟨_, _, hd⟩
  · exact .inl (by rw [hd]; exact ⟨rfl, rfl⟩)
  · exact .inr (by rw [hd]; exact ⟨rfl, rfl⟩)
theorem dec_ph (g : Cf) (s : Sv) (l : List Cl) (now : Int) (n : Int) (hl : ∀ c ∈ l, 0 ≤ c.ph ∧ c.ph < n) (h : -1 ≤ s.ph ∧ s.ph < n ∧ 0 ≤ s.gr ∧ s.gr ≤ 60) (h0 : 0 ≤ n) : -1 ≤ (decF g s l now).ph ∧ (decF g s l now).ph < n ∧ 0 ≤ (decF g s l now).gr ∧ (decF g s l now).gr ≤ 60 := by
  have h1 := dec1_ph g s l now
  have hb := bestN_bd g (dec1 g s l now) now l l.length
  unfold decF
  split
  · rename_i hh
    have := getD_mem' (fun c : Cl => 0 ≤ c.ph ∧ c.ph < n) default l (bestN g (dec1 g s l now) now l l.length).toNat hl (by omega)
    dsimp only
    omega
  · omega
theorem dec_en (g : Cf) (s : Sv) (l : List Cl) (now : Int) (h0 : 0 ≤ now) (h : ∀ e ∈ s.en, -1 ≤ e ∧ e ≤ now) : ∀ e ∈ (decF g s l now).en, -1 ≤ e ∧ e ≤ now := by rw [decF_en]; exact dec1_en g s l now h0 h
theorem cnt_en (s : Sv) (b : Bool) : (cntF s b).en = s.en ∧ (cntF s b).ph = s.ph := by unfold cntF; split <;> exact ⟨rfl, rfl⟩
theorem cnt_gr (s : Sv) (b : Bool) (h : 0 ≤ s.gr ∧ s.gr ≤ 60) : 0 ≤ (cntF s b).gr ∧ (cntF s b).gr ≤ 60 := by unfold cntF; split; (dsimp only; omega); exact h
theorem cnt_z (s : Sv) (b : Bool) (hz : s.ph = -1 → s.gr = 0) : (cntF s b).ph = -1 → (cntF s b).gr = 0 := by
  unfold cntF; split
  · rename_i h; intro h2; exact absurd h2 h.2
  · exact hz
theorem dec_z (g : Cf) (s : Sv) (l : List Cl) (now : Int) (hz : s.ph = -1 → s.gr = 0) : (decF g s l now).ph = -1 → (decF g s l now).gr = 0 := by
  have h1 := dec1_ph g s l now
  unfold decF
  split
  · exact fun _ => rfl
  · intro h2; rcases h1 with h1 | h1
    · rw [h1.2]; exact hz (by omega)
    · exact h1.2
/-- What stays as it is while ticks pass. -/
structure EI (n : Nat) (d : Dk) (s : Sv) (now : Int) : Prop where
  len : s.en.length = n
  en : ∀ e ∈ s.en, -1 ≤ e ∧ e < now
  p0 : -1 ≤ s.ph
  p1 : s.ph < n
  g0 : 0 ≤ s.gr
  g1 : s.gr ≤ 60
  n0 : 1 ≤ now
  n1 : now + rem d ≤ 301
  z : s.ph = -1 → s.gr = 0
theorem EI.dcb {n : Nat} {d : Dk} {s : Sv} {now : Int} (H : EI n d s now) (hn : n ≤ 1000) (g : Cf) (hp : 1 ≤ g.per) (hc : 0 ≤ g.cap ∧ g.cap ≤ 100) (c : List Cl) (h5 : c.length ≤ 5) (hcl : ∀ x ∈ c, ClB n now x) : DcB g s c now := by
  have := H.n0
  have := H.n1
  have := H.len
  exact ⟨hp, by omega, by omega, by omega, by omega, fun e he => by have := H.en e he; omega, fun x hx => ⟨(hcl x hx).k0, (hcl x hx).k1⟩, fun x hx => ⟨(hcl x hx).s0, (hcl x hx).s1⟩, by omega, by omega⟩
theorem EI.next {n : Nat} {d : Dk} {s : Sv} {now : Int} (H : EI n d s now) (g : Cf) (c : List Cl) (hcl : ∀ x ∈ c, ClB n now x) (b : Bool) (d' : Dk) (hd : rem d' + 1 ≤ rem d) : EI n d' (cntF (decF g s c now) b) (now + 1) := by
  have hp := dec_ph g s c now n (fun x hx => ⟨(hcl x hx).p0, (hcl x hx).p1⟩) ⟨H.p0, H.p1, H.g0, H.g1⟩ (by omega)
  have hg := cnt_gr (decF g s c now) b hp.2.2
  obtain ⟨e1, e2⟩ := cnt_en (decF g s c now) b
  have := H.n0
  have := H.n1
  have he := dec_en g s c now (by omega) (fun e he => by have := H.en e he; omega)
  refine ⟨by rw [e1, dec_len]; exact H.len, fun e h => ?_, by omega, by omega, by omega, by omega, by omega, by omega, fun h => ?_⟩
  case refine_2 => exact cnt_z _ b (dec_z g s c now H.z) h
  rw [e1] at h
  have := he e h
  omega
end Av
end Go.Proofs.YtkliodbbcblobaaGreat
/- law21: what is decided keeps emergencies, locks and holds. -/
namespace Go.Proofs.YtkliodbbcblobaaGreat
namespace Av
set_option linter.unusedSimpArgs false
set_option linter.unusedVariables false
set_option maxRecDepth 4000
set_option maxHeartbeats 1000000
theorem bestN_lck (g : Cf) (s : Sv) (now : Int) (xs : List Cl) : ∀ i, 0 ≤ bestN g s now xs i → lckF g.lock s.en now (xs.getD (bestN g s now xs i).toNat default).ph (xs.getD (bestN g s now xs i).toNat default).k = false
  | 0, h => by simp [bestN] at h
  | i + 1, h => by
    have ih := bestN_lck g s now xs i
    have hs := bestN_succ g s now xs i
    by_cases h1 : lckF g.lock s.en now (xs.getD i default).ph (xs.getD i default).k = true
    · rw [if_pos h1] at hs; rw [hs] at h ⊢; exact ih h
    · rw [if_neg h1] at hs
      by_cases h2 : bestN g s now xs i < 0
      · rw [if_pos h2] at hs; rw [hs]; simpa using h1
      · rw [if_neg h2] at hs
        by_cases h3 : lessF g.per g.cap s.en now (xs.getD i default) (xs.getD (bestN g s now xs i).toNat default) = true
        · rw [if_pos h3] at hs; rw [hs]; simpa using h1
        · rw [if_neg h3] at hs; rw [hs]; exact ih (by omega)
theorem bestN_em (g : Cf) (s : Sv) (now : Int) (xs : List Cl) : ∀ i, i ≤ xs.length → (xs.take i).any (fun c => emF c.k) = true → 0 ≤ bestN g s now xs i ∧ emF (xs.getD (bestN g s now xs i).toNat default).k = true
  | 0, _, h => by simp at h
  | i + 1, hi, h => by
    have ih := bestN_em g s now xs i (by omega)
    have hs := bestN_succ g s now xs i
    have hx : xs[i]'(by omega) = xs.getD i default := by simp [List.getD, show i < xs.length by omega]
    rw [← List.take_append_getElem (by omega), any_snoc, hx] at h
    generalize hgx : xs.getD i default = x at *
    cases he : emF x.k with
    | true =>
      rw [if_neg (by simp [lckF, he])] at hs
      by_cases h2 : bestN g s now xs i < 0
      · rw [if_pos h2] at hs; rw [hs]; exact ⟨by omega, by rw [Int.toNat_natCast, hgx]; exact he⟩
      · rw [if_neg h2] at hs
        by_cases h3 : lessF g.per g.cap s.en now x (xs.getD (bestN g s now xs i).toNat default) = true
        · rw [if_pos h3] at hs; rw [hs]; exact ⟨by omega, by rw [Int.toNat_natCast, hgx]; exact he⟩
        · rw [if_neg h3] at hs; rw [hs]
          refine ⟨by omega, ?_⟩
          cases hb : emF (xs.getD (bestN g s now xs i).toNat default).k with
          | true => rfl
          | false => exact absurd (by unfold lessF; rw [if_pos (by rw [he, hb]; simp)]; exact he) h3
    | false =>
      rw [he, Bool.or_false] at h
      obtain ⟨h1, h2⟩ := ih h
      by_cases h4 : lckF g.lock s.en now x.ph x.k = true
      · rw [if_pos h4] at hs; rw [hs]; exact ⟨h1, h2⟩
      · rw [if_neg h4, if_neg (by omega)] at hs
        by_cases h3 : lessF g.per g.cap s.en now x (xs.getD (bestN g s now xs i).toNat default) = true
        · unfold lessF at h3
          rw [if_pos (by rw [he, h2]; simp), he] at h3
          cases h3
        · rw [if_neg h3] at hs; rw [hs]; exact ⟨h1, h2⟩
theorem any_getD {p : Cl → Bool} {l : List Cl} {i : Nat} (hi : i < l.length) (h : p (l.getD i default) = true) : l.any p = true := by
  rw [List.any_eq_true]
  exact ⟨l[i], List.getElem_mem hi, by simpa [List.getD, hi] using h⟩
theorem overF_not {g : Cf} {s : Sv} {l : List Cl} (h : overF g s l = false) : (l.any fun x => x.ph == s.ph) = true ∧ s.gr < g.hold ∧ ((l.any fun c => emF c.k) = true → (l.any fun x => emF x.k && x.ph == s.ph) = true) := by
  unfold overF at h
  have e : (l.any fun x => emF x.k && x.ph == s.ph) = (l.any fun x => x.ph == s.ph && emF x.k) := by
    congr 1; funext x; exact Bool.and_comm _ _
  rw [e]
  generalize (l.any fun x => x.ph == s.ph) = m at *
  generalize (l.any fun x => x.ph == s.ph && emF x.k) = u at *
  generalize (l.any fun c => emF c.k) = w at *
  by_cases h2 : g.hold ≤ s.gr
  · rw [decide_eq_true h2] at h; simp at h
  · rw [decide_eq_false h2] at h
    refine ⟨?_, by omega, ?_⟩
    · cases m <;> simp_all
    · cases m <;> cases u <;> cases w <;> simp_all
theorem dec_facts (g : Cf) (s : Sv) (l : List Cl) (now : Int) (hh : 1 ≤ g.hold) (hp : -1 ≤ s.ph) (hl : ∀ c ∈ l, 0 ≤ c.ph ∧ c.ph < s.en.length) :
    (0 ≤ (decF g s l now).ph → (l.any fun x => x.ph == (decF g s l now).ph) = true ∧ (decF g s l now).gr < g.hold) ∧
    ((l.any fun c => emF c.k) = true → (l.any fun x => emF x.k && x.ph == (decF g s l now).ph) = true) ∧
    (∀ (h0 : 0 ≤ (decF g s l now).ph) (h1 : (decF g s l now).ph.toNat < s.en.length), s.ph ≠ (decF g s l now).ph → (l.any fun x => emF x.k && x.ph == (decF g s l now).ph) = false → s.en[(decF g s l now).ph.toNat] = -1 ∨ g.lock < now - s.en[(decF g s l now).ph.toNat]) := by
  have hd := dec1_cases g s l now
  have hlen := dec1_len g s l now
  have hbd := bestN_bd g (dec1 g s l now) now l l.length
  have hlk := bestN_lck g (dec1 g s l now) now l l.length
  have hem := bestN_em g (dec1 g s l now) now l l.length (Nat.le_refl _)
  rw [List.take_length] at hem
  by_cases h1 : (dec1 g s l now).ph = -1 ∧ 0 ≤ bestN g (dec1 g s l now) now l l.length
  · -- another service begins
    have e : decF g s l now = ⟨(l.getD (bestN g (dec1 g s l now) now l l.length).toNat default).ph, 0, (dec1 g s l now).en⟩ := by unfold decF; rw [if_pos h1]
    have hlk := hlk h1.2
    have hem := fun h => (hem h).2
    have hi : (bestN g (dec1 g s l now) now l l.length).toNat < l.length := by omega
    rw [e]
    generalize (bestN g (dec1 g s l now) now l l.length).toNat = i at *
    have hm : l.getD i default ∈ l := getD_mem' (fun c => c ∈ l) default l i (fun _ h => h) hi
    generalize l.getD i default = b at *
    dsimp only
    refine ⟨fun _ => ⟨List.any_eq_true.2 ⟨b, hm, by simp⟩, by omega⟩, fun h => List.any_eq_true.2 ⟨b, hm, by simp [hem h]⟩, fun h0 h2 hn hf => ?_⟩
    have hne : emF b.k = false := by
      cases hc : emF b.k with
      | false => rfl
      | true => rw [show _ = true from List.any_eq_true.2 ⟨b, hm, by simp [hc]⟩] at hf; cases hf
    have e2 : endF (dec1 g s l now).en b.ph = s.en[b.ph.toNat] := by
      have hq : (dec1 g s l now).en[b.ph.toNat]'(by omega) = s.en[b.ph.toNat] := by
        rcases hd with hd | ⟨_, _, hd⟩
        · simp only [hd]
        · simp only [hd]
          unfold endsF
          by_cases hq : 0 < s.gr ∧ 0 ≤ s.ph ∧ s.ph < s.en.length
          · simp only [if_pos hq, List.getElem_set]
            rw [if_neg (by omega)]
          · simp only [if_neg hq]
      unfold endF
      rw [if_neg (by omega), ← hq]
      simp [List.getD, show b.ph.toNat < (dec1 g s l now).en.length by omega]
    unfold lckF at hlk
    rw [e2, hne] at hlk
    simp at hlk
    by_cases hq : s.en[b.ph.toNat] = -1
    · exact .inl hq
    · exact .inr (hlk hq)
  · -- as it was, or none
    have e : decF g s l now = dec1 g s l now := by unfold decF; rw [if_neg h1]
    rw [e]
    by_cases h2 : (dec1 g s l now).ph = -1
    · have h3 : ¬ (l.any fun c => emF c.k) = true := fun h => h1 ⟨h2, (hem h).1⟩
      refine ⟨fun h => by omega, fun h => absurd h h3, fun h => by omega⟩
    · rcases hd with hd | ⟨_, _, hd⟩
      · rw [hd] at h2
        have ho : overF g s l = false := by
          cases ho : overF g s l with
          | false => rfl
          | true => exact absurd (show (dec1 g s l now).ph = -1 by unfold dec1; rw [if_pos ⟨h2, ho⟩]; rfl) (by rw [hd]; exact h2)
        obtain ⟨o1, o2, o3⟩ := overF_not ho
        rw [hd]
        exact ⟨fun _ => ⟨o1, o2⟩, o3, fun _ _ hn => absurd rfl hn⟩
      · exact absurd (by rw [hd]; rfl) h2
theorem dec_valid (g : Cf) (s : Sv) (l : List Cl) (now : Int) (n : Nat) (hlen : s.en.length = n) (h0 : 0 ≤ now) (h1 : now ≤ 1000000) (he : ∀ e ∈ s.en, -1 ≤ e ∧ e ≤ now) (hl : ∀ c ∈ l, 0 ≤ c.ph ∧ c.ph < n) (h : -1 ≤ s.ph ∧ s.ph < n ∧ 0 ≤ s.gr ∧ s.gr ≤ 60) (hz : s.ph = -1 → s.gr = 0) :
    validF (decF g s l now) n = true ∧ ((decF g s l now).ph = -1 → (decF g s l now).gr = 0) := by
  have hp := dec_ph g s l now n hl h (by omega)
  have hen := dec_en g s l now h0 he
  have hq : (decF g s l now).ph = -1 → (decF g s l now).gr = 0 := by
    have h1 := dec1_ph g s l now
    have hb := bestN_bd g (dec1 g s l now) now l l.length
    unfold decF
    split
    · exact fun _ => rfl
    · intro h2; rcases h1 with h1 | h1
      · rw [h1.2]; exact hz (by omega)
      · exact h1.2
  refine ⟨decide_eq_true ⟨by rw [dec_len, hlen], hp.1, hp.2.1, fun e h => by have := hen e h; omega, hp.2.2.1, hp.2.2.2, hq⟩, hq⟩
end Av
end Go.Proofs.YtkliodbbcblobaaGreat
