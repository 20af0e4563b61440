
/- monitor and the reference's layer 10: what is seen, and what is forbidden. -/
import Derived.Test.YtkliodbbcblobaaGreatRiN
import Derived.Test.YtkliodbbcblobaaGreatAvac
namespace Go.Proofs.YtkliodbbcblobaaGreat
namespace Av
set_option linter.unusedSimpArgs false
set_option linter.unusedVariables false
set_option maxRecDepth 4000
set_option maxHeartbeats 1000000
def nrB (a : Int) : Bool := decide (a = 1 ∨ a = 2)
theorem nonred_c (a : Int) : CallSim Tryz.prog 64 [iA a] [] (bA (nrB a)) [] := by
  unfold nrB
  (cases hb : decide (a = 1 ∨ a = 2) with | false => ((refine callSim_of tok Tryz.func64 rfl (fun args w => Tryz.call64 args w) rfl rfl rfl (fun F hF => ?_)); ((repeat' (first | (refine is_ops ?_; first | refine x_auto tok rfl rfl ?_ | (refine is_call ?_; fail) | (refine is_grd ?_; first | refine x_on rfl rfl ?_ | refine x_off rfl rfl rfl rfl ?_ | (refine x_gsplit rfl rfl (fun hc => ?_) (fun hc => ?_) <;> (try simp only [cmpB, decide_eq_true_eq, decide_eq_false_iff_not, beq_iff_eq, bne_iff_ne, ne_eq, Bool.not_eq_true, beq_eq_false_iff_ne, bne_eq_false_iff_eq, Int.not_lt, Int.not_le, Decidable.not_not] at hc))) | (refine is_bin ?_; first | refine x_q (stp_cmp_t rfl rfl rfl (by unfold cmpP; omega)) rfl ?_ | refine x_q (stp_cmp_f rfl rfl rfl (by unfold cmpP; omega)) rfl ?_ | refine x_q (stp_cmp rfl rfl rfl) rfl ?_ | refine x_q (stp_add rfl rfl ⟨by omega, by omega⟩) rfl ?_ | refine x_q (stp_sub rfl rfl ⟨by omega, by omega⟩) rfl ?_ | refine x_q (stp_mul rfl rfl ⟨by omega, by omega⟩) rfl ?_ | refine x_q (stp_quo rfl rfl (by assumption) (by omega)) rfl ?_ | refine x_q (stp_rem rfl rfl (by omega)) rfl ?_ | refine x_q (stp_xor rfl rfl) rfl ?_ | refine x_q (stp_shlI rfl rfl (by omega)) rfl ?_ | refine x_q (stp_shrI rfl rfl (by omega)) rfl ?_ | refine x_q (stp_shift (.inl ⟨rfl, rfl⟩) rfl rfl (by omega)) rfl ?_ | refine x_q (stp_shift (.inr ⟨rfl, rfl⟩) rfl rfl (by omega)) rfl ?_ | refine x_q (stp_bool2 tok rfl rfl rfl rfl (.inl ⟨rfl, rfl⟩)) rfl ?_ | refine x_q (stp_bool2 tok rfl rfl rfl rfl (.inr ⟨rfl, rfl⟩)) rfl ?_ | refine x_q (stp_eqlNil tok (.inl ⟨rfl, rfl⟩) rfl rfl rfl) rfl ?_ | refine x_q (stp_eqlNil_not tok (.inl ⟨rfl, rfl⟩) rfl rfl rfl rfl) rfl ?_ | refine x_q (stp_andI rfl rfl) rfl ?_ | refine x_q (stp_orI rfl rfl) rfl ?_ | refine x_q (stp_bicI rfl rfl) rfl ?_ | refine x_q (stp_strEqV rfl rfl (by assumption)) rfl ?_ | refine x_q (stp_strEq rfl rfl) rfl ?_ | refine x_q (stp_strNeV rfl rfl (by assumption)) rfl ?_ | refine x_q (stp_strNe rfl rfl) rfl ?_) | (refine is_idx ?_; first | refine x_q (stp_indexAddr_sl tok rfl rfl rfl rfl rfl (by omega) (by first | rfl | assumption) rfl rfl) rfl ?_ | refine x_q (stp_indexAddr_r0 tok rfl rfl rfl rfl rfl rfl (by omega) (by omega) rfl) rfl ?_ | refine x_q (stp_indexAddr_box tok rfl rfl rfl rfl rfl rfl (by omega) (by omega)) rfl ?_) | (refine is_load ?_; first | refine x_q (stp_load_fp1 tok rfl rfl rfl (by first | rfl | assumption) rfl) rfl ?_ | refine x_q (stp_load_fpa tok rfl rfl rfl (by first | rfl | assumption) rfl) rfl ?_ | refine x_q (stp_load_arr1 tok rfl rfl rfl rfl (by first | rfl | assumption) rfl) rfl ?_ | refine x_q (stp_load_arra tok rfl rfl rfl rfl (by first | rfl | assumption) rfl) rfl ?_) | (refine is_fad ?_; first | refine x_q (stp_fieldAddr_arr tok rfl rfl rfl rfl rfl rfl rfl rfl) rfl ?_ | refine x_q (stp_fieldAddr_fp tok rfl (by first | rfl | assumption) rfl rfl rfl rfl rfl rfl) rfl ?_) | (refine is_app ?_; first | refine x_appref0 tok rfl rfl rfl rfl rfl rfl rfl (by first | (intro y hy; cases hy; rfl) | exact map_hd _ _ (fun _ => rfl)) rfl rfl rfl (by first | omega | (simp; done) | (simp; omega)) rfl ?_ | refine x_appref tok rfl rfl rfl rfl rfl rfl rfl rfl rfl rfl rfl (by first | (intro y hy; cases hy; rfl) | exact map_hd _ _ (fun _ => rfl)) (by first | omega | (simp; done) | (simp; omega)) rfl ?_) | (refine is_un ?_; first | refine x_q (stp_neg rfl ⟨by omega, by omega⟩) rfl ?_) | (refine is_conv ?_; first | refine x_q (stp_conv_in tok rfl rfl rfl rfl ⟨by omega, by omega⟩) rfl ?_ | refine x_q (stp_conv tok rfl rfl rfl rfl) rfl ?_ | refine x_q (stp_convStr tok rfl rfl rfl rfl rfl rfl rfl (by first | rfl | assumption)) rfl ?_) | (refine is_slc ?_; first | refine x_slcL tok rfl rfl rfl rfl rfl (by first | (intro y hy; cases hy; rfl) | exact map_hd _ _ (fun _ => rfl) | (simp; done)) (by omega) (by simp; omega) (by first | exact List.map_drop.symm | rfl) rfl ?_ | refine x_slcH tok rfl rfl rfl rfl rfl (by first | (intro y hy; cases hy; rfl) | exact map_hd _ _ (fun _ => rfl) | (simp; done)) (by omega) (by simp; omega) (by first | exact List.map_take.symm | rfl) rfl ?_) | (refine is_mks ?_; refine x_mks tok rfl rfl rfl rfl rfl rfl rfl rfl rfl rfl rfl rfl rfl (by omega) (by omega) rfl rfl rfl ?_) | refine x_autow tok rfl rfl rfl rfl ?_ | (refine is_sto ?_; first | refine x_autos tok rfl rfl rfl ?_ | refine x_stoa tok rfl rfl rfl (by first | rfl | assumption) rfl rfl rfl rfl rfl rfl ?_ | refine x_sto1 tok rfl rfl rfl (by first | rfl | assumption) rfl rfl rfl rfl rfl rfl rfl rfl ?_) | refine x_nil ?_ | refine x_nilD (by kernel_rfl) ?_) | (first | refine sim_seq ?_ | refine x_region ?_ | refine x_draw rfl ?_ | refine sim_cond_true rfl ?_ | refine sim_cond_false rfl ?_ | (refine sim_cond rfl (fun hc => ?_) (fun hc => ?_) <;> (try simp only [cmpB, decide_eq_true_eq, decide_eq_false_iff_not, beq_iff_eq, bne_iff_ne, ne_eq, Bool.not_eq_true, beq_eq_false_iff_ne, bne_eq_false_iff_eq, Int.not_lt, Int.not_le, Decidable.not_not] at hc)) | refine sim_skip ?_ | refine sim_ret ?_ | refine sim_exit ?_ | refine sim_block ?_)))); all_goals (first | exact fin_ret [] rfl rfl rfl rfl | (simp only [nrB, decide_eq_false_iff_not] at hb; first | (exfalso; omega) | (apply fin_bool; (exact fin_ret [] rfl rfl rfl rfl); simp only [cmpB, decide_eq_false_iff_not, decide_eq_true_eq, beq_eq_false_iff_ne, bne_eq_false_iff_eq, beq_iff_eq, bne_iff_ne, ne_eq]; omega)))) | true => (simp only [nrB, decide_eq_true_eq] at hb; (refine callSim_of tok Tryz.func64 rfl (fun args w => Tryz.call64 args w) rfl rfl rfl (fun F hF => ?_)); ((repeat' (first | (refine is_ops ?_; first | refine x_auto tok rfl rfl ?_ | (refine is_call ?_; fail) | (refine is_grd ?_; first | refine x_on rfl rfl ?_ | refine x_off rfl rfl rfl rfl ?_ | (refine x_gsplit rfl rfl (fun hc => ?_) (fun hc => ?_) <;> (try simp only [cmpB, decide_eq_true_eq, decide_eq_false_iff_not, beq_iff_eq, bne_iff_ne, ne_eq, Bool.not_eq_true, beq_eq_false_iff_ne, bne_eq_false_iff_eq, Int.not_lt, Int.not_le, Decidable.not_not] at hc))) | (refine is_bin ?_; first | refine x_q (stp_cmp_t rfl rfl rfl (by unfold cmpP; omega)) rfl ?_ | refine x_q (stp_cmp_f rfl rfl rfl (by unfold cmpP; omega)) rfl ?_ | refine x_q (stp_cmp rfl rfl rfl) rfl ?_ | refine x_q (stp_add rfl rfl ⟨by omega, by omega⟩) rfl ?_ | refine x_q (stp_sub rfl rfl ⟨by omega, by omega⟩) rfl ?_ | refine x_q (stp_mul rfl rfl ⟨by omega, by omega⟩) rfl ?_ | refine x_q (stp_quo rfl rfl (by assumption) (by omega)) rfl ?_ | refine x_q (stp_rem rfl rfl (by omega)) rfl ?_ | refine x_q (stp_xor rfl rfl) rfl ?_ | refine x_q (stp_shlI rfl rfl (by omega)) rfl ?_ | refine x_q (stp_shrI rfl rfl (by omega)) rfl ?_ | refine x_q (stp_shift (.inl ⟨rfl, rfl⟩) rfl rfl (by omega)) rfl ?_ | refine x_q (stp_shift (.inr ⟨rfl, rfl⟩) rfl rfl (by omega)) rfl ?_ | refine x_q (stp_bool2 tok rfl rfl rfl rfl (.inl ⟨rfl, rfl⟩)) rfl ?_ | refine x_q (stp_bool2 tok rfl rfl rfl rfl (.inr ⟨rfl, rfl⟩)) rfl ?_ | refine x_q (stp_eqlNil tok (.inl ⟨rfl, rfl⟩) rfl rfl rfl) rfl ?_ | refine x_q (stp_eqlNil_not tok (.inl ⟨rfl, rfl⟩) rfl rfl rfl rfl) rfl ?_ | refine x_q (stp_andI rfl rfl) rfl ?_ | refine x_q (stp_orI rfl rfl) rfl ?_ | refine x_q (stp_bicI rfl rfl) rfl ?_ | refine x_q (stp_strEqV rfl rfl (by assumption)) rfl ?_ | refine x_q (stp_strEq rfl rfl) rfl ?_ | refine x_q (stp_strNeV rfl rfl (by assumption)) rfl ?_ | refine x_q (stp_strNe rfl rfl) rfl ?_) | (refine is_idx ?_; first | refine x_q (stp_indexAddr_sl tok rfl rfl rfl rfl rfl (by omega) (by first | rfl | assumption) rfl rfl) rfl ?_ | refine x_q (stp_indexAddr_r0 tok rfl rfl rfl rfl rfl rfl (by omega) (by omega) rfl) rfl ?_ | refine x_q (stp_indexAddr_box tok rfl rfl rfl rfl rfl rfl (by omega) (by omega)) rfl ?_) | (refine is_load ?_; first | refine x_q (stp_load_fp1 tok rfl rfl rfl (by first | rfl | assumption) rfl) rfl ?_ | refine x_q (stp_load_fpa tok rfl rfl rfl (by first | rfl | assumption) rfl) rfl ?_ | refine x_q (stp_load_arr1 tok rfl rfl rfl rfl (by first | rfl | assumption) rfl) rfl ?_ | refine x_q (stp_load_arra tok rfl rfl rfl rfl (by first | rfl | assumption) rfl) rfl ?_) | (refine is_fad ?_; first | refine x_q (stp_fieldAddr_arr tok rfl rfl rfl rfl rfl rfl rfl rfl) rfl ?_ | refine x_q (stp_fieldAddr_fp tok rfl (by first | rfl | assumption) rfl rfl rfl rfl rfl rfl) rfl ?_) | (refine is_app ?_; first | refine x_appref0 tok rfl rfl rfl rfl rfl rfl rfl (by first | (intro y hy; cases hy; rfl) | exact map_hd _ _ (fun _ => rfl)) rfl rfl rfl (by first | omega | (simp; done) | (simp; omega)) rfl ?_ | refine x_appref tok rfl rfl rfl rfl rfl rfl rfl rfl rfl rfl rfl (by first | (intro y hy; cases hy; rfl) | exact map_hd _ _ (fun _ => rfl)) (by first | omega | (simp; done) | (simp; omega)) rfl ?_) | (refine is_un ?_; first | refine x_q (stp_neg rfl ⟨by omega, by omega⟩) rfl ?_) | (refine is_conv ?_; first | refine x_q (stp_conv_in tok rfl rfl rfl rfl ⟨by omega, by omega⟩) rfl ?_ | refine x_q (stp_conv tok rfl rfl rfl rfl) rfl ?_ | refine x_q (stp_convStr tok rfl rfl rfl rfl rfl rfl rfl (by first | rfl | assumption)) rfl ?_) | (refine is_slc ?_; first | refine x_slcL tok rfl rfl rfl rfl rfl (by first | (intro y hy; cases hy; rfl) | exact map_hd _ _ (fun _ => rfl) | (simp; done)) (by omega) (by simp; omega) (by first | exact List.map_drop.symm | rfl) rfl ?_ | refine x_slcH tok rfl rfl rfl rfl rfl (by first | (intro y hy; cases hy; rfl) | exact map_hd _ _ (fun _ => rfl) | (simp; done)) (by omega) (by simp; omega) (by first | exact List.map_take.symm | rfl) rfl ?_) | (refine is_mks ?_; refine x_mks tok rfl rfl rfl rfl rfl rfl rfl rfl rfl rfl rfl rfl rfl (by omega) (by omega) rfl rfl rfl ?_) | refine x_autow tok rfl rfl rfl rfl ?_ | (refine is_sto ?_; first | refine x_autos tok rfl rfl rfl ?_ | refine x_stoa tok rfl rfl rfl (by first | rfl | assumption) rfl rfl rfl rfl rfl rfl ?_ | refine x_sto1 tok rfl rfl rfl (by first | rfl | assumption) rfl rfl rfl rfl rfl rfl rfl rfl ?_) | refine x_nil ?_ | refine x_nilD (by kernel_rfl) ?_) | (first | refine sim_seq ?_ | refine x_region ?_ | refine x_draw rfl ?_ | refine sim_cond_true rfl ?_ | refine sim_cond_false rfl ?_ | (refine sim_cond rfl (fun hc => ?_) (fun hc => ?_) <;> (try simp only [cmpB, decide_eq_true_eq, decide_eq_false_iff_not, beq_iff_eq, bne_iff_ne, ne_eq, Bool.not_eq_true, beq_eq_false_iff_ne, bne_eq_false_iff_eq, Int.not_lt, Int.not_le, Decidable.not_not] at hc)) | refine sim_skip ?_ | refine sim_ret ?_ | refine sim_exit ?_ | refine sim_block ?_)))); all_goals (first | exact fin_ret [] rfl rfl rfl rfl | (exfalso; omega) | (apply fin_bool; (exact fin_ret [] rfl rfl rfl rfl); simp only [cmpB, decide_eq_false_iff_not, decide_eq_true_eq, beq_eq_false_iff_ne, bne_eq_false_iff_eq, beq_iff_eq, bne_iff_ne, ne_eq]; omega))))
theorem bright_c (a : Int) : CallSim Tryz.prog 74 [iA a] [] (bA (nrB a)) [] := by
  unfold nrB
  (cases hb : decide (a = 1 ∨ a = 2) with | false => ((refine callSim_of tok Tryz.func74 rfl (fun args w => Tryz.call74 args w) rfl rfl rfl (fun F hF => ?_)); ((repeat' (first | (refine is_ops ?_; first | refine x_auto tok rfl rfl ?_ | (refine is_call ?_; fail) | (refine is_grd ?_; first | refine x_on rfl rfl ?_ | refine x_off rfl rfl rfl rfl ?_ | (refine x_gsplit rfl rfl (fun hc => ?_) (fun hc => ?_) <;> (try simp only [cmpB, decide_eq_true_eq, decide_eq_false_iff_not, beq_iff_eq, bne_iff_ne, ne_eq, Bool.not_eq_true, beq_eq_false_iff_ne, bne_eq_false_iff_eq, Int.not_lt, Int.not_le, Decidable.not_not] at hc))) | (refine is_bin ?_; first | refine x_q (stp_cmp_t rfl rfl rfl (by unfold cmpP; omega)) rfl ?_ | refine x_q (stp_cmp_f rfl rfl rfl (by unfold cmpP; omega)) rfl ?_ | refine x_q (stp_cmp rfl rfl rfl) rfl ?_ | refine x_q (stp_add rfl rfl ⟨by omega, by omega⟩) rfl ?_ | refine x_q (stp_sub rfl rfl ⟨by omega, by omega⟩) rfl ?_ | refine x_q (stp_mul rfl rfl ⟨by omega, by omega⟩) rfl ?_ | refine x_q (stp_quo rfl rfl (by assumption) (by omega)) rfl ?_ | refine x_q (stp_rem rfl rfl (by omega)) rfl ?_ | refine x_q (stp_xor rfl rfl) rfl ?_ | refine x_q (stp_shlI rfl rfl (by omega)) rfl ?_ | refine x_q (stp_shrI rfl rfl (by omega)) rfl ?_ | refine x_q (stp_shift (.inl ⟨rfl, rfl⟩) rfl rfl (by omega)) rfl ?_ | refine x_q (stp_shift (.inr ⟨rfl, rfl⟩) rfl rfl (by omega)) rfl ?_ | refine x_q (stp_bool2 tok rfl rfl rfl rfl (.inl ⟨rfl, rfl⟩)) rfl ?_ | refine x_q (stp_bool2 tok rfl rfl rfl rfl (.inr ⟨rfl, rfl⟩)) rfl ?_ | refine x_q (stp_eqlNil tok (.inl ⟨rfl, rfl⟩) rfl rfl rfl) rfl ?_ | refine x_q (stp_eqlNil_not tok (.inl ⟨rfl, rfl⟩) rfl rfl rfl rfl) rfl ?_ | refine x_q (stp_andI rfl rfl) rfl ?_ | refine x_q (stp_orI rfl rfl) rfl ?_ | refine x_q (stp_bicI rfl rfl) rfl ?_ | refine x_q (stp_strEqV rfl rfl (by assumption)) rfl ?_ | refine x_q (stp_strEq rfl rfl) rfl ?_ | refine x_q (stp_strNeV rfl rfl (by assumption)) rfl ?_ | refine x_q (stp_strNe rfl rfl) rfl ?_) | (refine is_idx ?_; first | refine x_q (stp_indexAddr_sl tok rfl rfl rfl rfl rfl (by omega) (by first | rfl | assumption) rfl rfl) rfl ?_ | refine x_q (stp_indexAddr_r0 tok rfl rfl rfl rfl rfl rfl (by omega) (by omega) rfl) rfl ?_ | refine x_q (stp_indexAddr_box tok rfl rfl rfl rfl rfl rfl (by omega) (by omega)) rfl ?_) | (refine is_load ?_; first | refine x_q (stp_load_fp1 tok rfl rfl rfl (by first | rfl | assumption) rfl) rfl ?_ | refine x_q (stp_load_fpa tok rfl rfl rfl (by first | rfl | assumption) rfl) rfl ?_ | refine x_q (stp_load_arr1 tok rfl rfl rfl rfl (by first | rfl | assumption) rfl) rfl ?_ | refine x_q (stp_load_arra tok rfl rfl rfl rfl (by first | rfl | assumption) rfl) rfl ?_) | (refine is_fad ?_; first | refine x_q (stp_fieldAddr_arr tok rfl rfl rfl rfl rfl rfl rfl rfl) rfl ?_ | refine x_q (stp_fieldAddr_fp tok rfl (by first | rfl | assumption) rfl rfl rfl rfl rfl rfl) rfl ?_) | (refine is_app ?_; first | refine x_appref0 tok rfl rfl rfl rfl rfl rfl rfl (by first | (intro y hy; cases hy; rfl) | exact map_hd _ _ (fun _ => rfl)) rfl rfl rfl (by first | omega | (simp; done) | (simp; omega)) rfl ?_ | refine x_appref tok rfl rfl rfl rfl rfl rfl rfl rfl rfl rfl rfl (by first | (intro y hy; cases hy; rfl) | exact map_hd _ _ (fun _ => rfl)) (by first | omega | (simp; done) | (simp; omega)) rfl ?_) | (refine is_un ?_; first | refine x_q (stp_neg rfl ⟨by omega, by omega⟩) rfl ?_) | (refine is_conv ?_; first | refine x_q (stp_conv_in tok rfl rfl rfl rfl ⟨by omega, by omega⟩) rfl ?_ | refine x_q (stp_conv tok rfl rfl rfl rfl) rfl ?_ | refine x_q (stp_convStr tok rfl rfl rfl rfl rfl rfl rfl (by first | rfl | assumption)) rfl ?_) | (refine is_slc ?_; first | refine x_slcL tok rfl rfl rfl rfl rfl (by first | (intro y hy; cases hy; rfl) | exact map_hd _ _ (fun _ => rfl) | (simp; done)) (by omega) (by simp; omega) (by first | exact List.map_drop.symm | rfl) rfl ?_ | refine x_slcH tok rfl rfl rfl rfl rfl (by first | (intro y hy; cases hy; rfl) | exact map_hd _ _ (fun _ => rfl) | (simp; done)) (by omega) (by simp; omega) (by first | exact List.map_take.symm | rfl) rfl ?_) | (refine is_mks ?_; refine x_mks tok rfl rfl rfl rfl rfl rfl rfl rfl rfl rfl rfl rfl rfl (by omega) (by omega) rfl rfl rfl ?_) | refine x_autow tok rfl rfl rfl rfl ?_ | (refine is_sto ?_; first | refine x_autos tok rfl rfl rfl ?_ | refine x_stoa tok rfl rfl rfl (by first | rfl | assumption) rfl rfl rfl rfl rfl rfl ?_ | refine x_sto1 tok rfl rfl rfl (by first | rfl | assumption) rfl rfl rfl rfl rfl rfl rfl rfl ?_) | refine x_nil ?_ | refine x_nilD (by kernel_rfl) ?_) | (first | refine sim_seq ?_ | refine x_region ?_ | refine x_draw rfl ?_ | refine sim_cond_true rfl ?_ | refine sim_cond_false rfl ?_ | (refine sim_cond rfl (fun hc => ?_) (fun hc => ?_) <;> (try simp only [cmpB, decide_eq_true_eq, decide_eq_false_iff_not, beq_iff_eq, bne_iff_ne, ne_eq, Bool.not_eq_true, beq_eq_false_iff_ne, bne_eq_false_iff_eq, Int.not_lt, Int.not_le, Decidable.not_not] at hc)) | refine sim_skip ?_ | refine sim_ret ?_ | refine sim_exit ?_ | refine sim_block ?_)))); all_goals (first | exact fin_ret [] rfl rfl rfl rfl | (simp only [nrB, decide_eq_false_iff_not] at hb; first | (exfalso; omega) | (apply fin_bool; (exact fin_ret [] rfl rfl rfl rfl); simp only [cmpB, decide_eq_false_iff_not, decide_eq_true_eq, beq_eq_false_iff_ne, bne_eq_false_iff_eq, beq_iff_eq, bne_iff_ne, ne_eq]; omega)))) | true => (simp only [nrB, decide_eq_true_eq] at hb; (refine callSim_of tok Tryz.func74 rfl (fun args w => Tryz.call74 args w) rfl rfl rfl (fun F hF => ?_)); ((repeat' (first | (refine is_ops ?_; first | refine x_auto tok rfl rfl ?_ | (refine is_call ?_; fail) | (refine is_grd ?_; first | refine x_on rfl rfl ?_ | refine x_off rfl rfl rfl rfl ?_ | (refine x_gsplit rfl rfl (fun hc => ?_) (fun hc => ?_) <;> (try simp only [cmpB, decide_eq_true_eq, decide_eq_false_iff_not, beq_iff_eq, bne_iff_ne, ne_eq, Bool.not_eq_true, beq_eq_false_iff_ne, bne_eq_false_iff_eq, Int.not_lt, Int.not_le, Decidable.not_not] at hc))) | (refine is_bin ?_; first | refine x_q (stp_cmp_t rfl rfl rfl (by unfold cmpP; omega)) rfl ?_ | refine x_q (stp_cmp_f rfl rfl rfl (by unfold cmpP; omega)) rfl ?_ | refine x_q (stp_cmp rfl rfl rfl) rfl ?_ | refine x_q (stp_add rfl rfl ⟨by omega, by omega⟩) rfl ?_ | refine x_q (stp_sub rfl rfl ⟨by omega, by omega⟩) rfl ?_ | refine x_q (stp_mul rfl rfl ⟨by omega, by omega⟩) rfl ?_ | refine x_q (stp_quo rfl rfl (by assumption) (by omega)) rfl ?_ | refine x_q (stp_rem rfl rfl (by omega)) rfl ?_ | refine x_q (stp_xor rfl rfl) rfl ?_ | refine x_q (stp_shlI rfl rfl (by omega)) rfl ?_ | refine x_q (stp_shrI rfl rfl (by omega)) rfl ?_ | refine x_q (stp_shift (.inl ⟨rfl, rfl⟩) rfl rfl (by omega)) rfl ?_ | refine x_q (stp_shift (.inr ⟨rfl, rfl⟩) rfl rfl (by omega)) rfl ?_ | refine x_q (stp_bool2 tok rfl rfl rfl rfl (.inl ⟨rfl, rfl⟩)) rfl ?_ | refine x_q (stp_bool2 tok rfl rfl rfl rfl (.inr ⟨rfl, rfl⟩)) rfl ?_ | refine x_q (stp_eqlNil tok (.inl ⟨rfl, rfl⟩) rfl rfl rfl) rfl ?_ | refine x_q (stp_eqlNil_not tok (.inl ⟨rfl, rfl⟩) rfl rfl rfl rfl) rfl ?_ | refine x_q (stp_andI rfl rfl) rfl ?_ | refine x_q (stp_orI rfl rfl) rfl ?_ | refine x_q (stp_bicI rfl rfl) rfl ?_ | refine x_q (stp_strEqV rfl rfl (by assumption)) rfl ?_ | refine x_q (stp_strEq rfl rfl) rfl ?_ | refine x_q (stp_strNeV rfl rfl (by assumption)) rfl ?_ | refine x_q (stp_strNe rfl rfl) rfl ?_) | (refine is_idx ?_; first | refine x_q (stp_indexAddr_sl tok rfl rfl rfl rfl rfl (by omega) (by first | rfl | assumption) rfl rfl) rfl ?_ | refine x_q (stp_indexAddr_r0 tok rfl rfl rfl rfl rfl rfl (by omega) (by omega) rfl) rfl ?_ | refine x_q (stp_indexAddr_box tok rfl rfl rfl rfl rfl rfl (by omega) (by omega)) rfl ?_) | (refine is_load ?_; first | refine x_q (stp_load_fp1 tok rfl rfl rfl (by first | rfl | assumption) rfl) rfl ?_ | refine x_q (stp_load_fpa tok rfl rfl rfl (by first | rfl | assumption) rfl) rfl ?_ | refine x_q (stp_load_arr1 tok rfl rfl rfl rfl (by first | rfl | assumption) rfl) rfl ?_ | refine x_q (stp_load_arra tok rfl rfl rfl rfl (by first | rfl | assumption) rfl) rfl ?_) | (refine is_fad ?_; first | refine x_q (stp_fieldAddr_arr tok rfl rfl rfl rfl rfl rfl rfl rfl) rfl ?_ | refine x_q (stp_fieldAddr_fp tok rfl (by first | rfl | assumption) rfl rfl rfl rfl rfl rfl) rfl ?_) | (refine is_app ?_; first | refine x_appref0 tok rfl rfl rfl rfl rfl rfl rfl (by first | (intro y hy; cases hy; rfl) | exact map_hd _ _ (fun _ => rfl)) rfl rfl rfl (by first | omega | (simp; done) | (simp; omega)) rfl ?_ | refine x_appref tok rfl rfl rfl rfl rfl rfl rfl rfl rfl rfl rfl (by first | (intro y hy; cases hy; rfl) | exact map_hd _ _ (fun _ => rfl)) (by first | omega | (simp; done) | (simp; omega)) rfl ?_) | (refine is_un ?_; first | refine x_q (stp_neg rfl ⟨by omega, by omega⟩) rfl ?_) | (refine is_conv ?_; first | refine x_q (stp_conv_in tok rfl rfl rfl rfl ⟨by omega, by omega⟩) rfl ?_ | refine x_q (stp_conv tok rfl rfl rfl rfl) rfl ?_ | refine x_q (stp_convStr tok rfl rfl rfl rfl rfl rfl rfl (by first | rfl | assumption)) rfl ?_) | (refine is_slc ?_; first | refine x_slcL tok rfl rfl rfl rfl rfl (by first | (intro y hy; cases hy; rfl) | exact map_hd _ _ (fun _ => rfl) | (simp; done)) (by omega) (by simp; omega) (by first | exact List.map_drop.symm | rfl) rfl ?_ | refine x_slcH tok rfl rfl rfl rfl rfl (by first | (intro y hy; cases hy; rfl) | exact map_hd _ _ (fun _ => rfl) | (simp; done)) (by omega) (by simp; omega) (by first | exact List.map_take.symm | rfl) rfl ?_) | (refine is_mks ?_; refine x_mks tok rfl rfl rfl rfl rfl rfl rfl rfl rfl rfl rfl rfl rfl (by omega) (by omega) rfl rfl rfl ?_) | refine x_autow tok rfl rfl rfl rfl ?_ | (refine is_sto ?_; first | refine x_autos tok rfl rfl rfl ?_ | refine x_stoa tok rfl rfl rfl (by first | rfl | assumption) rfl rfl rfl rfl rfl rfl ?_ | refine x_sto1 tok rfl rfl rfl (by first | rfl | assumption) rfl rfl rfl rfl rfl rfl rfl rfl ?_) | refine x_nil ?_ | refine x_nilD (by kernel_rfl) ?_) | (first | refine sim_seq ?_ | refine x_region ?_ | refine x_draw rfl ?_ | refine sim_cond_true rfl ?_ | refine sim_cond_false rfl ?_ | (refine sim_cond rfl (fun hc => ?_) (fun hc => ?_) <;> (try simp only [cmpB, decide_eq_true_eq, decide_eq_false_iff_not, beq_iff_eq, bne_iff_ne, ne_eq, Bool.not_eq_true, beq_eq_false_iff_ne, bne_eq_false_iff_eq, Int.not_lt, Int.not_le, Decidable.not_not] at hc)) | refine sim_skip ?_ | refine sim_ret ?_ | refine sim_exit ?_ | refine sim_block ?_)))); all_goals (first | exact fin_ret [] rfl rfl rfl rfl | (exfalso; omega) | (apply fin_bool; (exact fin_ret [] rfl rfl rfl rfl); simp only [cmpB, decide_eq_false_iff_not, decide_eq_true_eq, beq_eq_false_iff_ne, bne_eq_false_iff_eq, beq_iff_eq, bne_iff_ne, ne_eq]; omega))))
/-- What is seen of the lights. -/
def snF (li : List Li) (k : Int) (p : Nat) : Int := if (p : Int) = k then 1 else (li.getD p default).lamp
def seenF (li : List Li) (k : Int) : List Int := (List.range li.length).map (snF li k)
theorem seen_len (li : List Li) (k : Int) : (seenF li k).length = li.length := by simp [seenF]
theorem seen_at (li : List Li) (k : Int) (p : Nat) (hp : p < li.length) : (seenF li k).getD p default = snF li k p := by
  unfold seenF
  simp [List.getD_eq_getElem?_getD, List.getElem?_map, List.getElem?_range hp]
theorem fill_set (f : Nat → Int) (n i : Nat) (h : i < n) (x : Int) (hx : x = f i) : (((List.range i).map f ++ List.replicate (n - i) 0).map iA).set i (iA x) = ((List.range (i + 1)).map f ++ List.replicate (n - (i + 1)) 0).map iA := by
  subst hx
  rw [← List.map_set, show n - i = (n - (i + 1)) + 1 by omega, List.replicate_succ, List.set_append_right _ _ (by simp), List.length_map, List.length_range, Nat.sub_self, List.set_cons_zero, List.range_succ]
  simp
theorem fill_len (f : Nat → Int) (n i : Nat) (h : i ≤ n) : (((List.range i).map f ++ List.replicate (n - i) 0).map iA).length = n := by
  simp; omega
theorem fill_at (f : Nat → Int) (n i : Nat) (h : i < n) : (((List.range i).map f ++ List.replicate (n - i) 0).map iA)[i]? = some (iA 0) := by
  simp [show 0 < n - i by omega]
theorem seen_c (li : List Li) (hn : li.length ≤ 1000) (k : Int) : CallSim Tryz.prog 42 [slA liA li, iA k] [] (slA iA (seenF li k)) [] := by
  have hl := map_len liA li
  have e0 : List.replicate li.length (AV.s (.int .i64 0)) = ((List.range 0).map (snF li k) ++ List.replicate (li.length - 0) 0).map iA := by simp [iA]
  obtain ⟨n, hnn⟩ : ∃ n, li.length = n := ⟨_, rfl⟩
  (refine callSim_of tok Tryz.func42 rfl (fun args w => Tryz.call42 args w) rfl rfl rfl (fun F hF => ?_))
  (refine WW ?_)
  (refine sim_cnt (li.length) [10] [] [1, 5, 11, 12] [13, 1, 5, 11, 12] rfl (fun i T U => ⟨(13, iA i) :: T, (10, .arr 1 (((List.range i).map (snF li k) ++ List.replicate (li.length - i) 0).map iA) false) :: U⟩) ?_; (conv => whnf); refine ⟨by (rw [← e0, ← hl]; rfl), ?_, ?_⟩)
  · intro i hi
    have hy := map_at liA li i hi
    have hfl := fill_len (snF li k) li.length i (by omega)
    have hfa := fill_at (snF li k) li.length i hi
    have hs := fill_set (snF li k) li.length i hi (snF li k i) rfl
    have hsd : snF li k i = if (i : Int) = k then 1 else (li.getD i default).lamp := rfl
    generalize ((List.range i).map (snF li k) ++ List.replicate (li.length - i) 0).map iA = xs at *
    generalize ((List.range (i + 1)).map (snF li k) ++ List.replicate (li.length - (i + 1)) 0).map iA = ys at *
    generalize snF li k i = v at *
    generalize li.getD i default = t at *
    rw [← hs]
    clear hs e0 hnn
    by_cases hk : (i : Int) = k
    · rw [if_pos hk] at hsd
      subst hsd
      have hfb : (xs.set i (iA t.lamp))[i]? = some (iA t.lamp) := by rw [List.getElem?_set_self (by omega)]
      have hls : (xs.set i (iA t.lamp)).length = li.length := by simp [hfl]
      rw [← List.set_set (iA t.lamp)]
      (refine WW ?_)
      rfl
    · rw [if_neg hk] at hsd
      subst hsd
      (refine WW ?_)
      rfl
  · have hfl := fill_len (snF li k) li.length li.length (Nat.le_refl _)
    have e : slA iA (seenF li k) = .sl false ((((List.range li.length).map (snF li k) ++ List.replicate (li.length - li.length) 0).map iA).take (li.map liA).length) := by
      rw [List.take_of_length_le (by omega), Nat.sub_self, List.replicate_zero, List.append_nil]
      rfl
    rw [e]
    clear e e0
    generalize ((List.range li.length).map (snF li k) ++ List.replicate (li.length - li.length) 0).map iA = xs at *
    (refine WW ?_)
    exact fin_ret [] rfl rfl rfl rfl
theorem rseen_c (li : List Li) (hn : li.length ≤ 1000) (k : Int) : CallSim Tryz.prog 50 [slA liA li, iA k] [] (slA iA (seenF li k)) [] := by
  have hl := map_len liA li
  (refine callSim_of tok Tryz.func50 rfl (fun args w => Tryz.call50 args w) rfl rfl rfl (fun F hF => ?_))
  (refine WW ?_)
  refine sim_virt 5 1001 1 rfl rfl rfl ?_
  (refine sim_cnt (li.length) [1001] [] [1, 8, 9] [5, 10, 1, 8, 9] rfl (fun i T U => ⟨(5, .ref 1001 0 (((List.range i).map (snF li k)).map iA).length) :: (10, iA i) :: T, (1001, .arr 1 (((List.range i).map (snF li k)).map iA) true) :: U⟩) ?_; (conv => whnf); refine ⟨by rfl, ?_, ?_⟩)
  · intro i hi
    have hy := map_at liA li i hi
    have hll : (((List.range i).map (snF li k)).map iA).length = i := by simp
    have e : ((List.range (i + 1)).map (snF li k)).map iA = ((List.range i).map (snF li k)).map iA ++ [iA (snF li k i)] := by rw [List.range_succ]; simp
    have hsd : snF li k i = if (i : Int) = k then 1 else (li.getD i default).lamp := rfl
    rw [e]
    clear e
    generalize ((List.range i).map (snF li k)).map iA = xs at *
    generalize snF li k i = v at *
    generalize li.getD i default = t at *
    by_cases hk : (i : Int) = k
    · rw [if_pos hk] at hsd
      subst hsd
      (refine WW ?_)
      rfl
    · rw [if_neg hk] at hsd
      subst hsd
      (refine WW ?_)
      rfl
  · have hll : (((List.range li.length).map (snF li k)).map iA).length = li.length := by simp
    rw [show slA iA (seenF li k) = .sl false ((((List.range li.length).map (snF li k)).map iA).take (((List.range li.length).map (snF li k)).map iA).length) by rw [List.take_length]; rfl]
    generalize ((List.range li.length).map (snF li k)).map iA = xs at *
    (refine WW ?_)
    exact fin_ret [] rfl rfl rfl rfl
/-- Two that are seen conflict. -/
def fpB (cf ls : List Int) (p q : Nat) : Bool := nrB (ls.getD p default) && (nrB (ls.getD q default) && cfP cf p q)
def fbF (cf ls : List Int) : Bool := (List.range ls.length).any fun p => (List.range ls.length).any fun q => fpB cf ls p q
theorem fb_no {cf ls : List Int} (h : fbF cf ls = false) (p q : Nat) (hp : p < ls.length) (hq : q < ls.length) : fpB cf ls p q = false := by
  unfold fbF at h
  rw [List.any_eq_false] at h
  have h1 := h p (List.mem_range.2 hp)
  rw [Bool.not_eq_true, List.any_eq_false] at h1
  have h2 := h1 q (List.mem_range.2 hq)
  rwa [Bool.not_eq_true] at h2
theorem fb_yes {cf ls : List Int} (h : fbF cf ls = true) : ∃ p q : Nat, p < ls.length ∧ q < ls.length ∧ fpB cf ls p q = true ∧ (∀ u, u < p → ∀ v, v < ls.length → fpB cf ls u v = false) ∧ (∀ v, v < q → fpB cf ls p v = false) := by
  unfold fbF at h
  rw [List.any_eq_true] at h
  obtain ⟨a, ha, h⟩ := h
  rw [List.any_eq_true] at h
  obtain ⟨b, hb, h⟩ := h
  obtain ⟨p, hpa, ⟨v, hv, hp⟩, hpm⟩ := least (P := fun p => ∃ v, v < ls.length ∧ fpB cf ls p v = true) a ⟨b, List.mem_range.1 hb, h⟩
  obtain ⟨q, hqv, hq, hqm⟩ := least (P := fun q => fpB cf ls p q = true) v hp
  have := List.mem_range.1 ha
  exact ⟨p, q, by omega, by omega, hq, fun u hu v hv => by
    have := hpm u hu
    cases h : fpB cf ls u v with
    | false => rfl
    | true => exact absurd ⟨v, hv, h⟩ this, fun v hv => by
    have := hqm v hv
    rwa [Bool.not_eq_true] at this⟩
theorem forb_c (cf ls : List Int) (hcf : cf.length ≤ 40) (hn : ls.length ≤ 1000) : CallSim Tryz.prog 43 [slA iA cf, slA iA ls] [] (bA (fbF cf ls)) [] := by
  have hl := map_len iA ls
  cases hf : fbF cf ls with
  | false =>
    have hno := fb_no hf
    clear hf
    (refine callSim_of tok Tryz.func43 rfl (fun args w => Tryz.call43 args w) rfl rfl rfl (fun F hF => ?_))
    (repeat' (first | (refine is_ops ?_; first | refine x_auto tok rfl rfl ?_ | (refine is_call ?_; fail) | (refine is_grd ?_; first | refine x_on rfl rfl ?_ | refine x_off rfl rfl rfl rfl ?_ | (refine x_gsplit rfl rfl (fun hc => ?_) (fun hc => ?_) <;> (try simp only [cmpB, decide_eq_true_eq, decide_eq_false_iff_not, beq_iff_eq, bne_iff_ne, ne_eq, Bool.not_eq_true, beq_eq_false_iff_ne, bne_eq_false_iff_eq, Int.not_lt, Int.not_le, Decidable.not_not] at hc))) | (refine is_bin ?_; first | refine x_q (stp_cmp_t rfl rfl rfl (by unfold cmpP; omega)) rfl ?_ | refine x_q (stp_cmp_f rfl rfl rfl (by unfold cmpP; omega)) rfl ?_ | refine x_q (stp_cmp rfl rfl rfl) rfl ?_ | refine x_q (stp_add rfl rfl ⟨by omega, by omega⟩) rfl ?_ | refine x_q (stp_sub rfl rfl ⟨by omega, by omega⟩) rfl ?_ | refine x_q (stp_mul rfl rfl ⟨by omega, by omega⟩) rfl ?_ | refine x_q (stp_quo rfl rfl (by assumption) (by omega)) rfl ?_ | refine x_q (stp_rem rfl rfl (by omega)) rfl ?_ | refine x_q (stp_xor rfl rfl) rfl ?_ | refine x_q (stp_shlI rfl rfl (by omega)) rfl ?_ | refine x_q (stp_shrI rfl rfl (by omega)) rfl ?_ | refine x_q (stp_shift (.inl ⟨rfl, rfl⟩) rfl rfl (by omega)) rfl ?_ | refine x_q (stp_shift (.inr ⟨rfl, rfl⟩) rfl rfl (by omega)) rfl ?_ | refine x_q (stp_bool2 tok rfl rfl rfl rfl (.inl ⟨rfl, rfl⟩)) rfl ?_ | refine x_q (stp_bool2 tok rfl rfl rfl rfl (.inr ⟨rfl, rfl⟩)) rfl ?_ | refine x_q (stp_eqlNil tok (.inl ⟨rfl, rfl⟩) rfl rfl rfl) rfl ?_ | refine x_q (stp_eqlNil_not tok (.inl ⟨rfl, rfl⟩) rfl rfl rfl rfl) rfl ?_ | refine x_q (stp_andI rfl rfl) rfl ?_ | refine x_q (stp_orI rfl rfl) rfl ?_ | refine x_q (stp_bicI rfl rfl) rfl ?_ | refine x_q (stp_strEqV rfl rfl (by assumption)) rfl ?_ | refine x_q (stp_strEq rfl rfl) rfl ?_ | refine x_q (stp_strNeV rfl rfl (by assumption)) rfl ?_ | refine x_q (stp_strNe rfl rfl) rfl ?_) | (refine is_idx ?_; first | refine x_q (stp_indexAddr_sl tok rfl rfl rfl rfl rfl (by omega) (by first | rfl | assumption) rfl rfl) rfl ?_ | refine x_q (stp_indexAddr_r0 tok rfl rfl rfl rfl rfl rfl (by omega) (by omega) rfl) rfl ?_ | refine x_q (stp_indexAddr_box tok rfl rfl rfl rfl rfl rfl (by omega) (by omega)) rfl ?_) | (refine is_load ?_; first | refine x_q (stp_load_fp1 tok rfl rfl rfl (by first | rfl | assumption) rfl) rfl ?_ | refine x_q (stp_load_fpa tok rfl rfl rfl (by first | rfl | assumption) rfl) rfl ?_ | refine x_q (stp_load_arr1 tok rfl rfl rfl rfl (by first | rfl | assumption) rfl) rfl ?_ | refine x_q (stp_load_arra tok rfl rfl rfl rfl (by first | rfl | assumption) rfl) rfl ?_) | (refine is_fad ?_; first | refine x_q (stp_fieldAddr_arr tok rfl rfl rfl rfl rfl rfl rfl rfl) rfl ?_ | refine x_q (stp_fieldAddr_fp tok rfl (by first | rfl | assumption) rfl rfl rfl rfl rfl rfl) rfl ?_) | (refine is_app ?_; first | refine x_appref0 tok rfl rfl rfl rfl rfl rfl rfl (by first | (intro y hy; cases hy; rfl) | exact map_hd _ _ (fun _ => rfl)) rfl rfl rfl (by first | omega | (simp; done) | (simp; omega)) rfl ?_ | refine x_appref tok rfl rfl rfl rfl rfl rfl rfl rfl rfl rfl rfl (by first | (intro y hy; cases hy; rfl) | exact map_hd _ _ (fun _ => rfl)) (by first | omega | (simp; done) | (simp; omega)) rfl ?_) | (refine is_un ?_; first | refine x_q (stp_neg rfl ⟨by omega, by omega⟩) rfl ?_) | (refine is_conv ?_; first | refine x_q (stp_conv_in tok rfl rfl rfl rfl ⟨by omega, by omega⟩) rfl ?_ | refine x_q (stp_conv tok rfl rfl rfl rfl) rfl ?_ | refine x_q (stp_convStr tok rfl rfl rfl rfl rfl rfl rfl (by first | rfl | assumption)) rfl ?_) | (refine is_slc ?_; first | refine x_slcL tok rfl rfl rfl rfl rfl (by first | (intro y hy; cases hy; rfl) | exact map_hd _ _ (fun _ => rfl) | (simp; done)) (by omega) (by simp; omega) (by first | exact List.map_drop.symm | rfl) rfl ?_ | refine x_slcH tok rfl rfl rfl rfl rfl (by first | (intro y hy; cases hy; rfl) | exact map_hd _ _ (fun _ => rfl) | (simp; done)) (by omega) (by simp; omega) (by first | exact List.map_take.symm | rfl) rfl ?_) | (refine is_mks ?_; refine x_mks tok rfl rfl rfl rfl rfl rfl rfl rfl rfl rfl rfl rfl rfl (by omega) (by omega) rfl rfl rfl ?_) | refine x_autow tok rfl rfl rfl rfl ?_ | (refine is_sto ?_; first | refine x_autos tok rfl rfl rfl ?_ | refine x_stoa tok rfl rfl rfl (by first | rfl | assumption) rfl rfl rfl rfl rfl rfl ?_ | refine x_sto1 tok rfl rfl rfl (by first | rfl | assumption) rfl rfl rfl rfl rfl rfl rfl rfl ?_) | refine x_nil ?_ | refine x_nilD (by kernel_rfl) ?_) | (first | (first | refine sim_seq ?_ | refine x_region ?_ | refine x_draw rfl ?_ | refine sim_cond_true rfl ?_ | refine sim_cond_false rfl ?_ | (refine sim_cond rfl (fun hc => ?_) (fun hc => ?_) <;> (try simp only [cmpB, decide_eq_true_eq, decide_eq_false_iff_not, beq_iff_eq, bne_iff_ne, ne_eq, Bool.not_eq_true, beq_eq_false_iff_ne, bne_eq_false_iff_eq, Int.not_lt, Int.not_le, Decidable.not_not] at hc)) | refine sim_skip ?_ | refine sim_ret ?_ | refine sim_exit ?_ | refine sim_block ?_) | refine sim_scope ?_ | refine sim_label ?_)))
    (refine sim_cnt (ls.length) [] [] [0, 1, 10, 11] [5, 12, 0, 1, 10, 11] rfl (fun i T U => ⟨(5, bA false) :: (12, iA i) :: T, U⟩) ?_; (conv => whnf); refine ⟨by rfl, ?_, ?_⟩)
    · intro u hu
      have hy := map_at iA ls u hu
      have c1 := nonred_c (ls.getD u default)
      have hnu := hno u
      unfold fpB at hnu
      clear hno
      cases hb : nrB (ls.getD u default) with
      | false =>
        rw [hb] at c1
        generalize ls.getD u default = a at *
        clear hnu
        (have zc1 := c1; refine WW ?_; clear zc1)
        rfl
      | true =>
        rw [hb] at c1
        generalize ls.getD u default = a at *
        (have zc1 := c1; refine WW ?_; clear zc1)
        (refine sim_cnt (ls.length) [] [] [0, 1, 6, 10, 11, 12, 20, 21] [5, 22, 0, 1, 6, 10, 11, 12, 20, 21] rfl (fun i T U => ⟨(5, bA false) :: (22, iA i) :: T, U⟩) ?_; (conv => whnf); refine ⟨by rfl, ?_, ?_⟩)
        · intro v hv
          have hyv := map_at iA ls v hv
          have c2 := nonred_c (ls.getD v default)
          have c3 := conf_c cf hcf u v
          have h := hnu v hu hv
          rw [hb, Bool.true_and] at h
          generalize ls.getD v default = b at *
          clear hnu c1
          cases hb2 : nrB b with
          | false =>
            rw [hb2] at c2
            (have zc1 := c2; refine WW ?_; clear zc1)
            rfl
          | true =>
            rw [hb2, Bool.true_and] at h
            rw [hb2] at c2
            rw [h] at c3
            (have zc1 := c2; have zc2 := c3; refine WW ?_; clear zc1 zc2)
            rfl
        · (refine WW ?_)
          rfl
    · (repeat' (first | (refine is_ops ?_; first | refine x_auto tok rfl rfl ?_ | (refine is_call ?_; fail) | (refine is_grd ?_; first | refine x_on rfl rfl ?_ | refine x_off rfl rfl rfl rfl ?_ | (refine x_gsplit rfl rfl (fun hc => ?_) (fun hc => ?_) <;> (try simp only [cmpB, decide_eq_true_eq, decide_eq_false_iff_not, beq_iff_eq, bne_iff_ne, ne_eq, Bool.not_eq_true, beq_eq_false_iff_ne, bne_eq_false_iff_eq, Int.not_lt, Int.not_le, Decidable.not_not] at hc))) | (refine is_bin ?_; first | refine x_q (stp_cmp_t rfl rfl rfl (by unfold cmpP; omega)) rfl ?_ | refine x_q (stp_cmp_f rfl rfl rfl (by unfold cmpP; omega)) rfl ?_ | refine x_q (stp_cmp rfl rfl rfl) rfl ?_ | refine x_q (stp_add rfl rfl ⟨by omega, by omega⟩) rfl ?_ | refine x_q (stp_sub rfl rfl ⟨by omega, by omega⟩) rfl ?_ | refine x_q (stp_mul rfl rfl ⟨by omega, by omega⟩) rfl ?_ | refine x_q (stp_quo rfl rfl (by assumption) (by omega)) rfl ?_ | refine x_q (stp_rem rfl rfl (by omega)) rfl ?_ | refine x_q (stp_xor rfl rfl) rfl ?_ | refine x_q (stp_shlI rfl rfl (by omega)) rfl ?_ | refine x_q (stp_shrI rfl rfl (by omega)) rfl ?_ | refine x_q (stp_shift (.inl ⟨rfl, rfl⟩) rfl rfl (by omega)) rfl ?_ | refine x_q (stp_shift (.inr ⟨rfl, rfl⟩) rfl rfl (by omega)) rfl ?_ | refine x_q (stp_bool2 tok rfl rfl rfl rfl (.inl ⟨rfl, rfl⟩)) rfl ?_ | refine x_q (stp_bool2 tok rfl rfl rfl rfl (.inr ⟨rfl, rfl⟩)) rfl ?_ | refine x_q (stp_eqlNil tok (.inl ⟨rfl, rfl⟩) rfl rfl rfl) rfl ?_ | refine x_q (stp_eqlNil_not tok (.inl ⟨rfl, rfl⟩) rfl rfl rfl rfl) rfl ?_ | refine x_q (stp_andI rfl rfl) rfl ?_ | refine x_q (stp_orI rfl rfl) rfl ?_ | refine x_q (stp_bicI rfl rfl) rfl ?_ | refine x_q (stp_strEqV rfl rfl (by assumption)) rfl ?_ | refine x_q (stp_strEq rfl rfl) rfl ?_ | refine x_q (stp_strNeV rfl rfl (by assumption)) rfl ?_ | refine x_q (stp_strNe rfl rfl) rfl ?_) | (refine is_idx ?_; first | refine x_q (stp_indexAddr_sl tok rfl rfl rfl rfl rfl (by omega) (by first | rfl | assumption) rfl rfl) rfl ?_ | refine x_q (stp_indexAddr_r0 tok rfl rfl rfl rfl rfl rfl (by omega) (by omega) rfl) rfl ?_ | refine x_q (stp_indexAddr_box tok rfl rfl rfl rfl rfl rfl (by omega) (by omega)) rfl ?_) | (refine is_load ?_; first | refine x_q (stp_load_fp1 tok rfl rfl rfl (by first | rfl | assumption) rfl) rfl ?_ | refine x_q (stp_load_fpa tok rfl rfl rfl (by first | rfl | assumption) rfl) rfl ?_ | refine x_q (stp_load_arr1 tok rfl rfl rfl rfl (by first | rfl | assumption) rfl) rfl ?_ | refine x_q (stp_load_arra tok rfl rfl rfl rfl (by first | rfl | assumption) rfl) rfl ?_) | (refine is_fad ?_; first | refine x_q (stp_fieldAddr_arr tok rfl rfl rfl rfl rfl rfl rfl rfl) rfl ?_ | refine x_q (stp_fieldAddr_fp tok rfl (by first | rfl | assumption) rfl rfl rfl rfl rfl rfl) rfl ?_) | (refine is_app ?_; first | refine x_appref0 tok rfl rfl rfl rfl rfl rfl rfl (by first | (intro y hy; cases hy; rfl) | exact map_hd _ _ (fun _ => rfl)) rfl rfl rfl (by first | omega | (simp; done) | (simp; omega)) rfl ?_ | refine x_appref tok rfl rfl rfl rfl rfl rfl rfl rfl rfl rfl rfl (by first | (intro y hy; cases hy; rfl) | exact map_hd _ _ (fun _ => rfl)) (by first | omega | (simp; done) | (simp; omega)) rfl ?_) | (refine is_un ?_; first | refine x_q (stp_neg rfl ⟨by omega, by omega⟩) rfl ?_) | (refine is_conv ?_; first | refine x_q (stp_conv_in tok rfl rfl rfl rfl ⟨by omega, by omega⟩) rfl ?_ | refine x_q (stp_conv tok rfl rfl rfl rfl) rfl ?_ | refine x_q (stp_convStr tok rfl rfl rfl rfl rfl rfl rfl (by first | rfl | assumption)) rfl ?_) | (refine is_slc ?_; first | refine x_slcL tok rfl rfl rfl rfl rfl (by first | (intro y hy; cases hy; rfl) | exact map_hd _ _ (fun _ => rfl) | (simp; done)) (by omega) (by simp; omega) (by first | exact List.map_drop.symm | rfl) rfl ?_ | refine x_slcH tok rfl rfl rfl rfl rfl (by first | (intro y hy; cases hy; rfl) | exact map_hd _ _ (fun _ => rfl) | (simp; done)) (by omega) (by simp; omega) (by first | exact List.map_take.symm | rfl) rfl ?_) | (refine is_mks ?_; refine x_mks tok rfl rfl rfl rfl rfl rfl rfl rfl rfl rfl rfl rfl rfl (by omega) (by omega) rfl rfl rfl ?_) | refine x_autow tok rfl rfl rfl rfl ?_ | (refine is_sto ?_; first | refine x_autos tok rfl rfl rfl ?_ | refine x_stoa tok rfl rfl rfl (by first | rfl | assumption) rfl rfl rfl rfl rfl rfl ?_ | refine x_sto1 tok rfl rfl rfl (by first | rfl | assumption) rfl rfl rfl rfl rfl rfl rfl rfl ?_) | refine x_nil ?_ | refine x_nilD (by kernel_rfl) ?_) | (first | (first | refine sim_seq ?_ | refine x_region ?_ | refine x_draw rfl ?_ | refine sim_cond_true rfl ?_ | refine sim_cond_false rfl ?_ | (refine sim_cond rfl (fun hc => ?_) (fun hc => ?_) <;> (try simp only [cmpB, decide_eq_true_eq, decide_eq_false_iff_not, beq_iff_eq, bne_iff_ne, ne_eq, Bool.not_eq_true, beq_eq_false_iff_ne, bne_eq_false_iff_eq, Int.not_lt, Int.not_le, Decidable.not_not] at hc)) | refine sim_skip ?_ | refine sim_ret ?_ | refine sim_exit ?_ | refine sim_block ?_) | refine sim_scope ?_ | refine sim_label ?_)))
      exact fin_ret [] rfl rfl rfl rfl
  | true =>
    obtain ⟨p, q, hp, hq, hpq, hpm, hqm⟩ := fb_yes hf
    clear hf
    have hpp : nrB (ls.getD p default) = true := by unfold fpB at hpq; rw [Bool.and_eq_true] at hpq; exact hpq.1
    have hqq : nrB (ls.getD q default) = true := by unfold fpB at hpq; rw [Bool.and_eq_true, Bool.and_eq_true] at hpq; exact hpq.2.1
    have hcc : cfP cf p q = true := by unfold fpB at hpq; rw [Bool.and_eq_true, Bool.and_eq_true] at hpq; exact hpq.2.2
    clear hpq
    (refine callSim_of tok Tryz.func43 rfl (fun args w => Tryz.call43 args w) rfl rfl rfl (fun F hF => ?_))
    (repeat' (first | (refine is_ops ?_; first | refine x_auto tok rfl rfl ?_ | (refine is_call ?_; fail) | (refine is_grd ?_; first | refine x_on rfl rfl ?_ | refine x_off rfl rfl rfl rfl ?_ | (refine x_gsplit rfl rfl (fun hc => ?_) (fun hc => ?_) <;> (try simp only [cmpB, decide_eq_true_eq, decide_eq_false_iff_not, beq_iff_eq, bne_iff_ne, ne_eq, Bool.not_eq_true, beq_eq_false_iff_ne, bne_eq_false_iff_eq, Int.not_lt, Int.not_le, Decidable.not_not] at hc))) | (refine is_bin ?_; first | refine x_q (stp_cmp_t rfl rfl rfl (by unfold cmpP; omega)) rfl ?_ | refine x_q (stp_cmp_f rfl rfl rfl (by unfold cmpP; omega)) rfl ?_ | refine x_q (stp_cmp rfl rfl rfl) rfl ?_ | refine x_q (stp_add rfl rfl ⟨by omega, by omega⟩) rfl ?_ | refine x_q (stp_sub rfl rfl ⟨by omega, by omega⟩) rfl ?_ | refine x_q (stp_mul rfl rfl ⟨by omega, by omega⟩) rfl ?_ | refine x_q (stp_quo rfl rfl (by assumption) (by omega)) rfl ?_ | refine x_q (stp_rem rfl rfl (by omega)) rfl ?_ | refine x_q (stp_xor rfl rfl) rfl ?_ | refine x_q (stp_shlI rfl rfl (by omega)) rfl ?_ | refine x_q (stp_shrI rfl rfl (by omega)) rfl ?_ | refine x_q (stp_shift (.inl ⟨rfl, rfl⟩) rfl rfl (by omega)) rfl ?_ | refine x_q (stp_shift (.inr ⟨rfl, rfl⟩) rfl rfl (by omega)) rfl ?_ | refine x_q (stp_bool2 tok rfl rfl rfl rfl (.inl ⟨rfl, rfl⟩)) rfl ?_ | refine x_q (stp_bool2 tok rfl rfl rfl rfl (.inr ⟨rfl, rfl⟩)) rfl ?_ | refine x_q (stp_eqlNil tok (.inl ⟨rfl, rfl⟩) rfl rfl rfl) rfl ?_ | refine x_q (stp_eqlNil_not tok (.inl ⟨rfl, rfl⟩) rfl rfl rfl rfl) rfl ?_ | refine x_q (stp_andI rfl rfl) rfl ?_ | refine x_q (stp_orI rfl rfl) rfl ?_ | refine x_q (stp_bicI rfl rfl) rfl ?_ | refine x_q (stp_strEqV rfl rfl (by assumption)) rfl ?_ | refine x_q (stp_strEq rfl rfl) rfl ?_ | refine x_q (stp_strNeV rfl rfl (by assumption)) rfl ?_ | refine x_q (stp_strNe rfl rfl) rfl ?_) | (refine is_idx ?_; first | refine x_q (stp_indexAddr_sl tok rfl rfl rfl rfl rfl (by omega) (by first | rfl | assumption) rfl rfl) rfl ?_ | refine x_q (stp_indexAddr_r0 tok rfl rfl rfl rfl rfl rfl (by omega) (by omega) rfl) rfl ?_ | refine x_q (stp_indexAddr_box tok rfl rfl rfl rfl rfl rfl (by omega) (by omega)) rfl ?_) | (refine is_load ?_; first | refine x_q (stp_load_fp1 tok rfl rfl rfl (by first | rfl | assumption) rfl) rfl ?_ | refine x_q (stp_load_fpa tok rfl rfl rfl (by first | rfl | assumption) rfl) rfl ?_ | refine x_q (stp_load_arr1 tok rfl rfl rfl rfl (by first | rfl | assumption) rfl) rfl ?_ | refine x_q (stp_load_arra tok rfl rfl rfl rfl (by first | rfl | assumption) rfl) rfl ?_) | (refine is_fad ?_; first | refine x_q (stp_fieldAddr_arr tok rfl rfl rfl rfl rfl rfl rfl rfl) rfl ?_ | refine x_q (stp_fieldAddr_fp tok rfl (by first | rfl | assumption) rfl rfl rfl rfl rfl rfl) rfl ?_) | (refine is_app ?_; first | refine x_appref0 tok rfl rfl rfl rfl rfl rfl rfl (by first | (intro y hy; cases hy; rfl) | exact map_hd _ _ (fun _ => rfl)) rfl rfl rfl (by first | omega | (simp; done) | (simp; omega)) rfl ?_ | refine x_appref tok rfl rfl rfl rfl rfl rfl rfl rfl rfl rfl rfl (by first | (intro y hy; cases hy; rfl) | exact map_hd _ _ (fun _ => rfl)) (by first | omega | (simp; done) | (simp; omega)) rfl ?_) | (refine is_un ?_; first | refine x_q (stp_neg rfl ⟨by omega, by omega⟩) rfl ?_) | (refine is_conv ?_; first | refine x_q (stp_conv_in tok rfl rfl rfl rfl ⟨by omega, by omega⟩) rfl ?_ | refine x_q (stp_conv tok rfl rfl rfl rfl) rfl ?_ | refine x_q (stp_convStr tok rfl rfl rfl rfl rfl rfl rfl (by first | rfl | assumption)) rfl ?_) | (refine is_slc ?_; first | refine x_slcL tok rfl rfl rfl rfl rfl (by first | (intro y hy; cases hy; rfl) | exact map_hd _ _ (fun _ => rfl) | (simp; done)) (by omega) (by simp; omega) (by first | exact List.map_drop.symm | rfl) rfl ?_ | refine x_slcH tok rfl rfl rfl rfl rfl (by first | (intro y hy; cases hy; rfl) | exact map_hd _ _ (fun _ => rfl) | (simp; done)) (by omega) (by simp; omega) (by first | exact List.map_take.symm | rfl) rfl ?_) | (refine is_mks ?_; refine x_mks tok rfl rfl rfl rfl rfl rfl rfl rfl rfl rfl rfl rfl rfl (by omega) (by omega) rfl rfl rfl ?_) | refine x_autow tok rfl rfl rfl rfl ?_ | (refine is_sto ?_; first | refine x_autos tok rfl rfl rfl ?_ | refine x_stoa tok rfl rfl rfl (by first | rfl | assumption) rfl rfl rfl rfl rfl rfl ?_ | refine x_sto1 tok rfl rfl rfl (by first | rfl | assumption) rfl rfl rfl rfl rfl rfl rfl rfl ?_) | refine x_nil ?_ | refine x_nilD (by kernel_rfl) ?_) | (first | (first | refine sim_seq ?_ | refine x_region ?_ | refine x_draw rfl ?_ | refine sim_cond_true rfl ?_ | refine sim_cond_false rfl ?_ | (refine sim_cond rfl (fun hc => ?_) (fun hc => ?_) <;> (try simp only [cmpB, decide_eq_true_eq, decide_eq_false_iff_not, beq_iff_eq, bne_iff_ne, ne_eq, Bool.not_eq_true, beq_eq_false_iff_ne, bne_eq_false_iff_eq, Int.not_lt, Int.not_le, Decidable.not_not] at hc)) | refine sim_skip ?_ | refine sim_ret ?_ | refine sim_exit ?_ | refine sim_block ?_) | refine sim_scope ?_ | refine sim_label ?_)))
    (refine sim_cntP (ls.length) [] [] [0, 1, 10, 11] [5, 12, 0, 1, 10, 11] rfl (fun i T U zs => (i ≤ p) ∧ zs = ⟨(5, bA false) :: (12, iA i) :: T, U⟩) ?_; (conv => whnf); refine ⟨?_, ?_, ?_⟩)
    · exact ⟨Nat.zero_le _, rfl⟩
    · rintro u st hu ⟨hup, rfl⟩
      have hy := map_at iA ls u hu
      have c1 := nonred_c (ls.getD u default)
      by_cases hup2 : u = p
      · subst hup2
        rw [hpp] at c1
        have hqm2 : ∀ v, v < q → (nrB (ls.getD v default) && cfP cf u v) = false := fun v hv => by
          have h := hqm v hv
          unfold fpB at h
          rw [hpp, Bool.true_and] at h
          exact h
        clear hpm hqm
        generalize ls.getD u default = a at *
        (have zc1 := c1; refine WW ?_; clear zc1)
        (refine sim_cntP (ls.length) [] [] [0, 1, 6, 10, 11, 12, 20, 21] [5, 22, 0, 1, 6, 10, 11, 12, 20, 21] rfl (fun i T U zs => (i ≤ q) ∧ zs = ⟨(5, bA false) :: (22, iA i) :: T, U⟩) ?_; (conv => whnf); refine ⟨?_, ?_, ?_⟩)
        · exact ⟨Nat.zero_le _, rfl⟩
        · rintro v st hv ⟨hvq, rfl⟩
          have hyv := map_at iA ls v hv
          have c2 := nonred_c (ls.getD v default)
          have c3 := conf_c cf hcf u v
          by_cases hvq2 : v = q
          · subst hvq2
            rw [hqq] at c2
            rw [hcc] at c3
            clear hqq hcc hqm2 c1
            generalize ls.getD v default = b at *
            (repeat' (first | (refine is_ops ?_; first | refine x_auto tok rfl rfl ?_ | (refine is_call ?_; (first | (refine is_fn 64 ?_; first | refine x_q (stp_call (c2) rfl rfl rfl rfl rfl) rfl ?_ | refine x_w (stp_call (c2) rfl rfl rfl rfl rfl) rfl rfl rfl ?_ | refine x_d (stp_call (c2) rfl rfl rfl rfl rfl) rfl rfl rfl ?_) | (refine is_fn 60 ?_; first | refine x_q (stp_call (c3) rfl rfl rfl rfl rfl) rfl ?_ | refine x_w (stp_call (c3) rfl rfl rfl rfl rfl) rfl rfl rfl ?_ | refine x_d (stp_call (c3) rfl rfl rfl rfl rfl) rfl rfl rfl ?_))) | (refine is_grd ?_; first | refine x_on rfl rfl ?_ | refine x_off rfl rfl rfl rfl ?_ | (refine x_gsplit rfl rfl (fun hc => ?_) (fun hc => ?_) <;> (try simp only [cmpB, decide_eq_true_eq, decide_eq_false_iff_not, beq_iff_eq, bne_iff_ne, ne_eq, Bool.not_eq_true, beq_eq_false_iff_ne, bne_eq_false_iff_eq, Int.not_lt, Int.not_le, Decidable.not_not] at hc))) | (refine is_bin ?_; first | refine x_q (stp_cmp_t rfl rfl rfl (by unfold cmpP; omega)) rfl ?_ | refine x_q (stp_cmp_f rfl rfl rfl (by unfold cmpP; omega)) rfl ?_ | refine x_q (stp_cmp rfl rfl rfl) rfl ?_ | refine x_q (stp_add rfl rfl ⟨by omega, by omega⟩) rfl ?_ | refine x_q (stp_sub rfl rfl ⟨by omega, by omega⟩) rfl ?_ | refine x_q (stp_mul rfl rfl ⟨by omega, by omega⟩) rfl ?_ | refine x_q (stp_quo rfl rfl (by assumption) (by omega)) rfl ?_ | refine x_q (stp_rem rfl rfl (by omega)) rfl ?_ | refine x_q (stp_xor rfl rfl) rfl ?_ | refine x_q (stp_shlI rfl rfl (by omega)) rfl ?_ | refine x_q (stp_shrI rfl rfl (by omega)) rfl ?_ | refine x_q (stp_shift (.inl ⟨rfl, rfl⟩) rfl rfl (by omega)) rfl ?_ | refine x_q (stp_shift (.inr ⟨rfl, rfl⟩) rfl rfl (by omega)) rfl ?_ | refine x_q (stp_bool2 tok rfl rfl rfl rfl (.inl ⟨rfl, rfl⟩)) rfl ?_ | refine x_q (stp_bool2 tok rfl rfl rfl rfl (.inr ⟨rfl, rfl⟩)) rfl ?_ | refine x_q (stp_eqlNil tok (.inl ⟨rfl, rfl⟩) rfl rfl rfl) rfl ?_ | refine x_q (stp_eqlNil_not tok (.inl ⟨rfl, rfl⟩) rfl rfl rfl rfl) rfl ?_ | refine x_q (stp_andI rfl rfl) rfl ?_ | refine x_q (stp_orI rfl rfl) rfl ?_ | refine x_q (stp_bicI rfl rfl) rfl ?_ | refine x_q (stp_strEqV rfl rfl (by assumption)) rfl ?_ | refine x_q (stp_strEq rfl rfl) rfl ?_ | refine x_q (stp_strNeV rfl rfl (by assumption)) rfl ?_ | refine x_q (stp_strNe rfl rfl) rfl ?_) | (refine is_idx ?_; first | refine x_q (stp_indexAddr_sl tok rfl rfl rfl rfl rfl (by omega) (by first | rfl | assumption) rfl rfl) rfl ?_ | refine x_q (stp_indexAddr_r0 tok rfl rfl rfl rfl rfl rfl (by omega) (by omega) rfl) rfl ?_ | refine x_q (stp_indexAddr_box tok rfl rfl rfl rfl rfl rfl (by omega) (by omega)) rfl ?_) | (refine is_load ?_; first | refine x_q (stp_load_fp1 tok rfl rfl rfl (by first | rfl | assumption) rfl) rfl ?_ | refine x_q (stp_load_fpa tok rfl rfl rfl (by first | rfl | assumption) rfl) rfl ?_ | refine x_q (stp_load_arr1 tok rfl rfl rfl rfl (by first | rfl | assumption) rfl) rfl ?_ | refine x_q (stp_load_arra tok rfl rfl rfl rfl (by first | rfl | assumption) rfl) rfl ?_) | (refine is_fad ?_; first | refine x_q (stp_fieldAddr_arr tok rfl rfl rfl rfl rfl rfl rfl rfl) rfl ?_ | refine x_q (stp_fieldAddr_fp tok rfl (by first | rfl | assumption) rfl rfl rfl rfl rfl rfl) rfl ?_) | (refine is_app ?_; first | refine x_appref0 tok rfl rfl rfl rfl rfl rfl rfl (by first | (intro y hy; cases hy; rfl) | exact map_hd _ _ (fun _ => rfl)) rfl rfl rfl (by first | omega | (simp; done) | (simp; omega)) rfl ?_ | refine x_appref tok rfl rfl rfl rfl rfl rfl rfl rfl rfl rfl rfl (by first | (intro y hy; cases hy; rfl) | exact map_hd _ _ (fun _ => rfl)) (by first | omega | (simp; done) | (simp; omega)) rfl ?_) | (refine is_un ?_; first | refine x_q (stp_neg rfl ⟨by omega, by omega⟩) rfl ?_) | (refine is_conv ?_; first | refine x_q (stp_conv_in tok rfl rfl rfl rfl ⟨by omega, by omega⟩) rfl ?_ | refine x_q (stp_conv tok rfl rfl rfl rfl) rfl ?_ | refine x_q (stp_convStr tok rfl rfl rfl rfl rfl rfl rfl (by first | rfl | assumption)) rfl ?_) | (refine is_slc ?_; first | refine x_slcL tok rfl rfl rfl rfl rfl (by first | (intro y hy; cases hy; rfl) | exact map_hd _ _ (fun _ => rfl) | (simp; done)) (by omega) (by simp; omega) (by first | exact List.map_drop.symm | rfl) rfl ?_ | refine x_slcH tok rfl rfl rfl rfl rfl (by first | (intro y hy; cases hy; rfl) | exact map_hd _ _ (fun _ => rfl) | (simp; done)) (by omega) (by simp; omega) (by first | exact List.map_take.symm | rfl) rfl ?_) | (refine is_mks ?_; refine x_mks tok rfl rfl rfl rfl rfl rfl rfl rfl rfl rfl rfl rfl rfl (by omega) (by omega) rfl rfl rfl ?_) | refine x_autow tok rfl rfl rfl rfl ?_ | (refine is_sto ?_; first | refine x_autos tok rfl rfl rfl ?_ | refine x_stoa tok rfl rfl rfl (by first | rfl | assumption) rfl rfl rfl rfl rfl rfl ?_ | refine x_sto1 tok rfl rfl rfl (by first | rfl | assumption) rfl rfl rfl rfl rfl rfl rfl rfl ?_) | refine x_nil ?_ | refine x_nilD (by kernel_rfl) ?_) | (first | (first | refine sim_seq ?_ | refine x_region ?_ | refine x_draw rfl ?_ | refine sim_cond_true rfl ?_ | refine sim_cond_false rfl ?_ | (refine sim_cond rfl (fun hc => ?_) (fun hc => ?_) <;> (try simp only [cmpB, decide_eq_true_eq, decide_eq_false_iff_not, beq_iff_eq, bne_iff_ne, ne_eq, Bool.not_eq_true, beq_eq_false_iff_ne, bne_eq_false_iff_eq, Int.not_lt, Int.not_le, Decidable.not_not] at hc)) | refine sim_skip ?_ | refine sim_ret ?_ | refine sim_exit ?_ | refine sim_block ?_) | refine sim_scope ?_ | refine sim_label ?_)))
            exact fin_ret [] rfl rfl rfl rfl
          · have h := hqm2 v (by omega)
            clear hqq hcc hqm2 c1
            generalize ls.getD v default = b at *
            cases hb2 : nrB b with
            | false =>
              rw [hb2] at c2
              (have zc1 := c2; refine WW ?_; clear zc1)
              exact ⟨by omega, rfl⟩
            | true =>
              rw [hb2, Bool.true_and] at h
              rw [hb2] at c2
              rw [h] at c3
              (have zc1 := c2; have zc2 := c3; refine WW ?_; clear zc1 zc2)
              exact ⟨by omega, rfl⟩
        · rintro st ⟨hvq, rfl⟩
          exfalso; omega
      · have hnu := hpm u (by omega)
        unfold fpB at hnu
        clear hpp hqq hcc hpm hqm
        cases hb : nrB (ls.getD u default) with
        | false =>
          rw [hb] at c1
          generalize ls.getD u default = a at *
          clear hnu
          (have zc1 := c1; refine WW ?_; clear zc1)
          exact ⟨by omega, rfl⟩
        | true =>
          rw [hb] at c1
          generalize ls.getD u default = a at *
          (have zc1 := c1; refine WW ?_; clear zc1)
          (refine sim_cnt (ls.length) [] [] [0, 1, 6, 10, 11, 12, 20, 21] [5, 22, 0, 1, 6, 10, 11, 12, 20, 21] rfl (fun i T U => ⟨(5, bA false) :: (22, iA i) :: T, U⟩) ?_; (conv => whnf); refine ⟨by rfl, ?_, ?_⟩)
          · intro v hv
            have hyv := map_at iA ls v hv
            have c2 := nonred_c (ls.getD v default)
            have c3 := conf_c cf hcf u v
            have h := hnu v hv
            rw [hb, Bool.true_and] at h
            generalize ls.getD v default = b at *
            clear hnu c1
            cases hb2 : nrB b with
            | false =>
              rw [hb2] at c2
              (have zc1 := c2; refine WW ?_; clear zc1)
              rfl
            | true =>
              rw [hb2, Bool.true_and] at h
              rw [hb2] at c2
              rw [h] at c3
              (have zc1 := c2; have zc2 := c3; refine WW ?_; clear zc1 zc2)
              rfl
          · (refine WW ?_)
            exact ⟨by omega, rfl⟩
    · rintro st ⟨hup, rfl⟩
      exfalso; omega
theorem rforb_c (cf ls : List Int) (hcf : cf.length ≤ 40) (hn : ls.length ≤ 1000) : CallSim Tryz.prog 49 [slA iA cf, slA iA ls] [] (bA (fbF cf ls)) [] := by
  have hl := map_len iA ls
  cases hf : fbF cf ls with
  | false =>
    have hno := fb_no hf
    clear hf
    (refine callSim_of tok Tryz.func49 rfl (fun args w => Tryz.call49 args w) rfl rfl rfl (fun F hF => ?_))
    (refine WW ?_)
    (refine sim_cnt (ls.length) [] [] [0, 1, 9, 10] [11, 0, 1, 9, 10] rfl (fun i T U => ⟨(11, iA i) :: T, U⟩) ?_; (conv => whnf); refine ⟨by rfl, ?_, ?_⟩)
    · intro u hu
      have hy := map_at iA ls u hu
      have c1 := bright_c (ls.getD u default)
      have hnu := hno u
      unfold fpB at hnu
      clear hno
      (refine WW ?_)
      (refine sim_cnt (ls.length) [] [] [0, 1, 5, 6, 9, 10, 11, 16, 17] [18, 0, 1, 5, 6, 9, 10, 11, 16, 17] rfl (fun i T U => ⟨(18, iA i) :: T, U⟩) ?_; (conv => whnf); refine ⟨by rfl, ?_, ?_⟩)
      · intro v hv
        have hyv := map_at iA ls v hv
        have c2 := bright_c (ls.getD v default)
        have c3 := rconf_c cf hcf u v
        have h := hnu v hu hv
        clear hnu
        generalize ls.getD v default = b at *
        generalize ls.getD u default = a at *
        cases hb : nrB a with
        | false =>
          rw [hb] at c1
          (have zc1 := c1; refine WW ?_; clear zc1)
          rfl
        | true =>
          rw [hb] at c1
          rw [hb, Bool.true_and] at h
          cases hb2 : nrB b with
          | false =>
            rw [hb2] at c2
            (have zc1 := c1; have zc2 := c2; refine WW ?_; clear zc1 zc2)
            rfl
          | true =>
            rw [hb2, Bool.true_and] at h
            rw [hb2] at c2
            rw [h] at c3
            (have zc1 := c1; have zc2 := c2; have zc3 := c3; refine WW ?_; clear zc1 zc2 zc3)
            rfl
      · (refine WW ?_)
        rfl
    · (refine WW ?_)
      exact fin_ret [] rfl rfl rfl rfl
  | true =>
    obtain ⟨p, q, hp, hq, hpq, hpm, hqm⟩ := fb_yes hf
    clear hf
    have hpp : nrB (ls.getD p default) = true := by unfold fpB at hpq; rw [Bool.and_eq_true] at hpq; exact hpq.1
    have hqq : nrB (ls.getD q default) = true := by unfold fpB at hpq; rw [Bool.and_eq_true, Bool.and_eq_true] at hpq; exact hpq.2.1
    have hcc : cfP cf p q = true := by unfold fpB at hpq; rw [Bool.and_eq_true, Bool.and_eq_true] at hpq; exact hpq.2.2
    clear hpq
    (refine callSim_of tok Tryz.func49 rfl (fun args w => Tryz.call49 args w) rfl rfl rfl (fun F hF => ?_))
    (refine WW ?_)
    (refine sim_cntP (ls.length) [] [] [0, 1, 9, 10] [11, 0, 1, 9, 10] rfl (fun i T U zs => (i ≤ p) ∧ zs = ⟨(11, iA i) :: T, U⟩) ?_; (conv => whnf); refine ⟨?_, ?_, ?_⟩)
    · exact ⟨Nat.zero_le _, rfl⟩
    · rintro u st hu ⟨hup, rfl⟩
      have hy := map_at iA ls u hu
      have c1 := bright_c (ls.getD u default)
      by_cases hup2 : u = p
      · subst hup2
        rw [hpp] at c1
        have hqm2 : ∀ v, v < q → (nrB (ls.getD v default) && cfP cf u v) = false := fun v hv => by
          have h := hqm v hv
          unfold fpB at h
          rw [hpp, Bool.true_and] at h
          exact h
        clear hpm hqm
        generalize ls.getD u default = a at *
        (refine WW ?_)
        (refine sim_cntP (ls.length) [] [] [0, 1, 5, 6, 9, 10, 11, 16, 17] [18, 0, 1, 5, 6, 9, 10, 11, 16, 17] rfl (fun i T U zs => (i ≤ q) ∧ zs = ⟨(18, iA i) :: T, U⟩) ?_; (conv => whnf); refine ⟨?_, ?_, ?_⟩)
        · exact ⟨Nat.zero_le _, rfl⟩
        · rintro v st hv ⟨hvq, rfl⟩
          have hyv := map_at iA ls v hv
          have c2 := bright_c (ls.getD v default)
          have c3 := rconf_c cf hcf u v
          by_cases hvq2 : v = q
          · subst hvq2
            rw [hqq] at c2
            rw [hcc] at c3
            clear hqq hcc hqm2
            generalize ls.getD v default = b at *
            (have zc1 := c1; have zc2 := c2; have zc3 := c3; refine WW ?_; clear zc1 zc2 zc3)
            exact fin_ret [] rfl rfl rfl rfl
          · have h := hqm2 v (by omega)
            clear hqq hcc hqm2
            generalize ls.getD v default = b at *
            cases hb2 : nrB b with
            | false =>
              rw [hb2] at c2
              (have zc1 := c1; have zc2 := c2; refine WW ?_; clear zc1 zc2)
              exact ⟨by omega, rfl⟩
            | true =>
              rw [hb2, Bool.true_and] at h
              rw [hb2] at c2
              rw [h] at c3
              (have zc1 := c1; have zc2 := c2; have zc3 := c3; refine WW ?_; clear zc1 zc2 zc3)
              exact ⟨by omega, rfl⟩
        · rintro st ⟨hvq, rfl⟩
          exfalso; omega
      · have hnu := hpm u (by omega)
        unfold fpB at hnu
        clear hpp hqq hcc hpm hqm
        (refine WW ?_)
        (refine sim_cnt (ls.length) [] [] [0, 1, 5, 6, 9, 10, 11, 16, 17] [18, 0, 1, 5, 6, 9, 10, 11, 16, 17] rfl (fun i T U => ⟨(18, iA i) :: T, U⟩) ?_; (conv => whnf); refine ⟨by rfl, ?_, ?_⟩)
        · intro v hv
          have hyv := map_at iA ls v hv
          have c2 := bright_c (ls.getD v default)
          have c3 := rconf_c cf hcf u v
          have h := hnu v hv
          clear hnu
          generalize ls.getD v default = b at *
          generalize ls.getD u default = a at *
          cases hb : nrB a with
          | false =>
            rw [hb] at c1
            (have zc1 := c1; refine WW ?_; clear zc1)
            rfl
          | true =>
            rw [hb] at c1
            rw [hb, Bool.true_and] at h
            cases hb2 : nrB b with
            | false =>
              rw [hb2] at c2
              (have zc1 := c1; have zc2 := c2; refine WW ?_; clear zc1 zc2)
              rfl
            | true =>
              rw [hb2, Bool.true_and] at h
              rw [hb2] at c2
              rw [h] at c3
              (have zc1 := c1; have zc2 := c2; have zc3 := c3; refine WW ?_; clear zc1 zc2 zc3)
              rfl
        · (refine WW ?_)
          exact ⟨by omega, rfl⟩
    · rintro st ⟨hup, rfl⟩
      exfalso; omega
end Av
end Go.Proofs.YtkliodbbcblobaaGreat
