/- Rings: the sanity check. -/
import Derived.Test.YthmnhefaeknppaaRi0
namespace Go.Proofs.Ythmnhefaeknppaa
namespace Av
set_option linter.unusedSimpArgs false
set_option linter.unusedVariables false
set_option maxRecDepth 4000
set_option maxHeartbeats 1000000
def cN0 : Nat → Ct
  | 0 => inF j0
  | i + 1 => stF j0 (cN0 i) (-1)
theorem cv0 : ∀ i, CV j0 (cN0 i)
  | 0 => cv_in jv0
  | i + 1 => cv_st jv0 (cv0 i) (-1)
theorem c6 : (cN0 6).li.map (fun l => (l.lamp, l.tk)) = [(0, 0), (1, 0)] := by decide +kernel
theorem awake09_c : CallSim Try.prog 12 [] [] (bA true) [] := by
  have ci := init_c j0 (by decide)
  have e6 : (cN0 6).li = [⟨0, 0⟩, ⟨1, 0⟩] := by
    have h := c6
    match hl : (cN0 6).li, h with
    | [⟨a, b⟩, ⟨c, d⟩], h =>
      simp only [List.map_cons, List.map_nil, List.cons.injEq, Prod.mk.injEq, and_true] at h
      obtain ⟨⟨rfl, rfl⟩, rfl, rfl⟩ := h
      rfl
    | [], h => simp at h
    | [_], h => simp at h
    | _ :: _ :: _ :: _, h => simp at h
  rw [show inF j0 = cN0 0 from rfl] at ci
  obtain ⟨N6, hN6⟩ : ∃ n : Nat, n = 6 := ⟨6, rfl⟩
  rw [show jnA j0 = .agg [.sl false [.agg [iA 0, iA 0, iA 2, iA 3, iA 1, iA 1, iA 0, iA 0], .agg [iA 0, iA 0, iA 2, iA 3, iA 1, iA 1, iA 0, iA 0]], .sl false [iA 2, iA 1], iA 0] from rfl] at ci
  (refine callSim_of tok Try.func12 rfl (fun args w => Try.call12 args w) rfl rfl rfl (fun F hF => ?_))
  (have zc1 := ci; refine WL ?_; clear zc1)
  (refine sim_cnt (N6) [3, 2] [2] [2, 3] [12, 2, 3] rfl (fun i T U => ⟨(12, iA i) :: T, (3, .box [slA liA (cN0 i).li, iA (cN0 i).gr, slA iA (cN0 i).nx, iA (cN0 i).wt]) :: U⟩) ?_; (conv => whnf); refine ⟨by rfl, ?_, ?_⟩)
  · intro i hi
    have cs := step_c j0 jv0 (cN0 i) (cv0 i) (-1)
    rw [show jnA j0 = .agg [.sl false [.agg [iA 0, iA 0, iA 2, iA 3, iA 1, iA 1, iA 0, iA 0], .agg [iA 0, iA 0, iA 2, iA 3, iA 1, iA 1, iA 0, iA 0]], .sl false [iA 2, iA 1], iA 0] from rfl] at cs
    rw [show stF j0 (cN0 i) (-1) = cN0 (i + 1) from rfl] at cs
    generalize cN0 (i + 1) = c2 at *
    generalize cN0 i = c1 at *
    (have zc1 := cs; refine WL ?_; clear zc1)
    rfl
  · rw [hN6, e6]
    generalize cN0 6 = c at *
    have hl2 : (([⟨0, 0⟩, ⟨1, 0⟩] : List Li).map liA).length = 2 := rfl
    have hy0 : (([⟨0, 0⟩, ⟨1, 0⟩] : List Li).map liA)[0]? = some (.agg [iA 0, iA 0]) := rfl
    have hy1 : (([⟨0, 0⟩, ⟨1, 0⟩] : List Li).map liA)[1]? = some (.agg [iA 1, iA 0]) := rfl
    generalize (([⟨0, 0⟩, ⟨1, 0⟩] : List Li).map liA) = xs at *
    (repeat' (first | (refine is_ops ?_; first | refine x_auto tok rfl rfl ?_ | (refine is_call ?_; fail) | (refine is_grd ?_; first | refine x_on rfl rfl ?_ | refine x_off rfl rfl rfl rfl ?_ | (refine x_gsplit rfl rfl (fun hc => ?_) (fun hc => ?_) <;> (try simp only [cmpB, decide_eq_true_eq, decide_eq_false_iff_not, beq_iff_eq, bne_iff_ne, ne_eq, Bool.not_eq_true, beq_eq_false_iff_ne, bne_eq_false_iff_eq, Int.not_lt, Int.not_le, Decidable.not_not] at hc))) | (refine is_bin ?_; first | refine x_q (stp_cmp_t rfl rfl rfl (by unfold cmpP; omega)) rfl ?_ | refine x_q (stp_cmp_f rfl rfl rfl (by unfold cmpP; omega)) rfl ?_ | refine x_q (stp_cmp rfl rfl rfl) rfl ?_ | refine x_q (stp_add rfl rfl ⟨by omega, by omega⟩) rfl ?_ | refine x_q (stp_sub rfl rfl ⟨by omega, by omega⟩) rfl ?_ | refine x_q (stp_mul rfl rfl ⟨by omega, by omega⟩) rfl ?_ | refine x_q (stp_quo rfl rfl (by assumption) (by omega)) rfl ?_ | refine x_q (stp_rem rfl rfl (by omega)) rfl ?_ | refine x_q (stp_xor rfl rfl) rfl ?_ | refine x_q (stp_shlI rfl rfl (by omega)) rfl ?_ | refine x_q (stp_shrI rfl rfl (by omega)) rfl ?_ | refine x_q (stp_shift (.inl ⟨rfl, rfl⟩) rfl rfl (by omega)) rfl ?_ | refine x_q (stp_shift (.inr ⟨rfl, rfl⟩) rfl rfl (by omega)) rfl ?_ | refine x_q (stp_bool2 tok rfl rfl rfl rfl (.inl ⟨rfl, rfl⟩)) rfl ?_ | refine x_q (stp_bool2 tok rfl rfl rfl rfl (.inr ⟨rfl, rfl⟩)) rfl ?_ | refine x_q (stp_eqlNil tok (.inl ⟨rfl, rfl⟩) rfl rfl rfl) rfl ?_ | refine x_q (stp_eqlNil_not tok (.inl ⟨rfl, rfl⟩) rfl rfl rfl rfl) rfl ?_ | refine x_q (stp_andI rfl rfl) rfl ?_ | refine x_q (stp_orI rfl rfl) rfl ?_ | refine x_q (stp_bicI rfl rfl) rfl ?_ | refine x_q (stp_strEqV rfl rfl (by assumption)) rfl ?_ | refine x_q (stp_strEq rfl rfl) rfl ?_ | refine x_q (stp_strNeV rfl rfl (by assumption)) rfl ?_ | refine x_q (stp_strNe rfl rfl) rfl ?_) | (refine is_idx ?_; first | refine x_q (stp_indexAddr_sl tok rfl rfl rfl rfl rfl (by omega) (by first | rfl | assumption) rfl rfl) rfl ?_ | refine x_q (stp_indexAddr_r0 tok rfl rfl rfl rfl rfl rfl (by omega) (by omega) rfl) rfl ?_ | refine x_q (stp_indexAddr_box tok rfl rfl rfl rfl rfl rfl (by omega) (by omega)) rfl ?_) | (refine is_load ?_; first | refine x_q (stp_load_fp1 tok rfl rfl rfl (by first | rfl | assumption) rfl) rfl ?_ | refine x_q (stp_load_fpa tok rfl rfl rfl (by first | rfl | assumption) rfl) rfl ?_ | refine x_q (stp_load_arr1 tok rfl rfl rfl rfl (by first | rfl | assumption) rfl) rfl ?_ | refine x_q (stp_load_arra tok rfl rfl rfl rfl (by first | rfl | assumption) rfl) rfl ?_) | (refine is_fad ?_; first | refine x_q (stp_fieldAddr_arr tok rfl rfl rfl rfl rfl rfl rfl rfl) rfl ?_ | refine x_q (stp_fieldAddr_fp tok rfl (by first | rfl | assumption) rfl rfl rfl rfl rfl rfl) rfl ?_) | (refine is_app ?_; first | refine x_appref0 tok rfl rfl rfl rfl rfl rfl rfl (by first | (intro y hy; cases hy; rfl) | exact map_hd _ _ (fun _ => rfl)) rfl rfl rfl (by first | omega | (simp; done) | (simp; omega)) rfl ?_ | refine x_appref tok rfl rfl rfl rfl rfl rfl rfl rfl rfl rfl rfl (by first | (intro y hy; cases hy; rfl) | exact map_hd _ _ (fun _ => rfl)) (by first | omega | (simp; done) | (simp; omega)) rfl ?_) | (refine is_un ?_; first | refine x_q (stp_neg rfl ⟨by omega, by omega⟩) rfl ?_) | (refine is_conv ?_; first | refine x_q (stp_conv_in tok rfl rfl rfl rfl ⟨by omega, by omega⟩) rfl ?_ | refine x_q (stp_conv tok rfl rfl rfl rfl) rfl ?_ | refine x_q (stp_convStr tok rfl rfl rfl rfl rfl rfl rfl (by first | rfl | assumption)) rfl ?_) | (refine is_slc ?_; first | refine x_slcL tok rfl rfl rfl rfl rfl (by first | (intro y hy; cases hy; rfl) | exact map_hd _ _ (fun _ => rfl) | (simp; done)) (by omega) (by simp; omega) (by first | exact List.map_drop.symm | rfl) rfl ?_ | refine x_slcH tok rfl rfl rfl rfl rfl (by first | (intro y hy; cases hy; rfl) | exact map_hd _ _ (fun _ => rfl) | (simp; done)) (by omega) (by simp; omega) (by first | exact List.map_take.symm | rfl) rfl ?_) | (refine is_bin ?_; first | refine x_q (stp_eqS (ms := [_, _]) (ns := [_, _]) tok rfl rfl rfl rfl rfl rfl rfl (by kernel_rfl) (by kernel_rfl) (by kernel_rfl) (.inl ⟨rfl, rfl⟩)) rfl ?_ | refine x_q (stp_eqS (ms := [_, _]) (ns := [_, _]) tok rfl rfl rfl rfl rfl rfl rfl (by kernel_rfl) (by kernel_rfl) (by kernel_rfl) (.inr ⟨rfl, rfl⟩)) rfl ?_ | refine x_q (stp_eqS (ms := [_, _, _]) (ns := [_, _, _]) tok rfl rfl rfl rfl rfl rfl rfl (by kernel_rfl) (by kernel_rfl) (by kernel_rfl) (.inl ⟨rfl, rfl⟩)) rfl ?_ | refine x_q (stp_eqS (ms := [_, _, _]) (ns := [_, _, _]) tok rfl rfl rfl rfl rfl rfl rfl (by kernel_rfl) (by kernel_rfl) (by kernel_rfl) (.inr ⟨rfl, rfl⟩)) rfl ?_) | refine x_autow tok rfl rfl rfl rfl ?_ | (refine is_sto ?_; first | refine x_autos tok rfl rfl rfl ?_ | refine x_stoa tok rfl rfl rfl (by first | rfl | assumption) rfl rfl rfl rfl rfl rfl ?_ | refine x_sto1 tok rfl rfl rfl (by first | rfl | assumption) rfl rfl rfl rfl rfl rfl rfl rfl ?_) | refine x_nil ?_ | refine x_nilD (by kernel_rfl) ?_) | (first | refine sim_seq ?_ | refine x_region ?_ | refine x_draw rfl ?_ | refine sim_cond_true rfl ?_ | refine sim_cond_false rfl ?_ | (refine sim_cond rfl (fun hc => ?_) (fun hc => ?_) <;> (try simp only [cmpB, decide_eq_true_eq, decide_eq_false_iff_not, beq_iff_eq, bne_iff_ne, ne_eq, Bool.not_eq_true, beq_eq_false_iff_ne, bne_eq_false_iff_eq, Int.not_lt, Int.not_le, Decidable.not_not] at hc)) | refine sim_skip ?_ | refine sim_ret ?_ | refine sim_exit ?_ | refine sim_block ?_)))
    exact fin_ret [] rfl rfl rfl rfl
end Av
end Go.Proofs.Ythmnhefaeknppaa
