
/- Rings, the reference: Same, Init; a control of the deck. -/
import Derived.Test.YtkliodbbcblobaaGreatRjD
namespace Go.Proofs.YtkliodbbcblobaaGreat
namespace Av
set_option linter.unusedSimpArgs false
set_option linter.unusedVariables false
set_option maxRecDepth 4000
set_option maxHeartbeats 1000000
theorem csame_c (c : Ct) (h1 : c.li.length ≤ 1000000) (h2 : c.nx.length ≤ 1000000) : CallSim Tryz.prog 32 [ctA c, ctA c] [] (bA true) [] := by
  have hl := map_len liA c.li
  have hn := map_len iA c.nx
  (refine callSim_of tok Tryz.func32 rfl (fun args w => Tryz.call32 args w) rfl rfl rfl (fun F hF => ?_))
  (refine WW ?_)
  (refine sim_rng (c.li) [2, 3] [2, 3] [2, 3, 40, 41] [42, 2, 3, 40, 41] rfl (fun i pre T U => ⟨(42, iA i) :: T, U⟩) ?_; (conv => whnf); refine ⟨by rfl, ?_, ?_⟩)
  · intro i pre x post hx hi
    have hy := rng_at liA hx hi
    have hlt := rng_lt hx hi
    clear hx
    (repeat' (first | (refine is_ops ?_; first | refine x_auto tok rfl rfl ?_ | (refine is_call ?_; fail) | (refine is_grd ?_; first | refine x_on rfl rfl ?_ | refine x_off rfl rfl rfl rfl ?_ | (refine x_gsplit rfl rfl (fun hc => ?_) (fun hc => ?_) <;> (try simp only [cmpB, decide_eq_true_eq, decide_eq_false_iff_not, beq_iff_eq, bne_iff_ne, ne_eq, Bool.not_eq_true, beq_eq_false_iff_ne, bne_eq_false_iff_eq, Int.not_lt, Int.not_le, Decidable.not_not] at hc))) | (refine is_bin ?_; first | refine x_q (stp_cmp_t rfl rfl rfl (by unfold cmpP; omega)) rfl ?_ | refine x_q (stp_cmp_f rfl rfl rfl (by unfold cmpP; omega)) rfl ?_ | refine x_q (stp_cmp rfl rfl rfl) rfl ?_ | refine x_q (stp_add rfl rfl ⟨by omega, by omega⟩) rfl ?_ | refine x_q (stp_sub rfl rfl ⟨by omega, by omega⟩) rfl ?_ | refine x_q (stp_mul rfl rfl ⟨by omega, by omega⟩) rfl ?_ | refine x_q (stp_quo rfl rfl (by assumption) (by omega)) rfl ?_ | refine x_q (stp_rem rfl rfl (by omega)) rfl ?_ | refine x_q (stp_xor rfl rfl) rfl ?_ | refine x_q (stp_shlI rfl rfl (by omega)) rfl ?_ | refine x_q (stp_shrI rfl rfl (by omega)) rfl ?_ | refine x_q (stp_shift (.inl ⟨rfl, rfl⟩) rfl rfl (by omega)) rfl ?_ | refine x_q (stp_shift (.inr ⟨rfl, rfl⟩) rfl rfl (by omega)) rfl ?_ | refine x_q (stp_bool2 tok rfl rfl rfl rfl (.inl ⟨rfl, rfl⟩)) rfl ?_ | refine x_q (stp_bool2 tok rfl rfl rfl rfl (.inr ⟨rfl, rfl⟩)) rfl ?_ | refine x_q (stp_eqlNil tok (.inl ⟨rfl, rfl⟩) rfl rfl rfl) rfl ?_ | refine x_q (stp_eqlNil_not tok (.inl ⟨rfl, rfl⟩) rfl rfl rfl rfl) rfl ?_ | refine x_q (stp_andI rfl rfl) rfl ?_ | refine x_q (stp_orI rfl rfl) rfl ?_ | refine x_q (stp_bicI rfl rfl) rfl ?_ | refine x_q (stp_strEqV rfl rfl (by assumption)) rfl ?_ | refine x_q (stp_strEq rfl rfl) rfl ?_ | refine x_q (stp_strNeV rfl rfl (by assumption)) rfl ?_ | refine x_q (stp_strNe rfl rfl) rfl ?_) | (refine is_idx ?_; first | refine x_q (stp_indexAddr_sl tok rfl rfl rfl rfl rfl (by omega) (by first | rfl | assumption) rfl rfl) rfl ?_ | refine x_q (stp_indexAddr_r0 tok rfl rfl rfl rfl rfl rfl (by omega) (by omega) rfl) rfl ?_ | refine x_q (stp_indexAddr_box tok rfl rfl rfl rfl rfl rfl (by omega) (by omega)) rfl ?_) | (refine is_load ?_; first | refine x_q (stp_load_fp1 tok rfl rfl rfl (by first | rfl | assumption) rfl) rfl ?_ | refine x_q (stp_load_fpa tok rfl rfl rfl (by first | rfl | assumption) rfl) rfl ?_ | refine x_q (stp_load_arr1 tok rfl rfl rfl rfl (by first | rfl | assumption) rfl) rfl ?_ | refine x_q (stp_load_arra tok rfl rfl rfl rfl (by first | rfl | assumption) rfl) rfl ?_) | (refine is_fad ?_; first | refine x_q (stp_fieldAddr_arr tok rfl rfl rfl rfl rfl rfl rfl rfl) rfl ?_ | refine x_q (stp_fieldAddr_fp tok rfl (by first | rfl | assumption) rfl rfl rfl rfl rfl rfl) rfl ?_) | (refine is_app ?_; first | refine x_appref0 tok rfl rfl rfl rfl rfl rfl rfl (by first | (intro y hy; cases hy; rfl) | exact map_hd _ _ (fun _ => rfl)) rfl rfl rfl (by first | omega | (simp; done) | (simp; omega)) rfl ?_ | refine x_appref tok rfl rfl rfl rfl rfl rfl rfl rfl rfl rfl rfl (by first | (intro y hy; cases hy; rfl) | exact map_hd _ _ (fun _ => rfl)) (by first | omega | (simp; done) | (simp; omega)) rfl ?_) | (refine is_un ?_; first | refine x_q (stp_neg rfl ⟨by omega, by omega⟩) rfl ?_) | (refine is_conv ?_; first | refine x_q (stp_conv_in tok rfl rfl rfl rfl ⟨by omega, by omega⟩) rfl ?_ | refine x_q (stp_conv tok rfl rfl rfl rfl) rfl ?_ | refine x_q (stp_convStr tok rfl rfl rfl rfl rfl rfl rfl (by first | rfl | assumption)) rfl ?_) | (refine is_slc ?_; first | refine x_slcL tok rfl rfl rfl rfl rfl (by first | (intro y hy; cases hy; rfl) | exact map_hd _ _ (fun _ => rfl) | (simp; done)) (by omega) (by simp; omega) (by first | exact List.map_drop.symm | rfl) rfl ?_ | refine x_slcH tok rfl rfl rfl rfl rfl (by first | (intro y hy; cases hy; rfl) | exact map_hd _ _ (fun _ => rfl) | (simp; done)) (by omega) (by simp; omega) (by first | exact List.map_take.symm | rfl) rfl ?_) | (refine is_bin ?_; first | refine x_q (stp_eqS (ms := [_, _]) (ns := [_, _]) tok rfl rfl rfl rfl rfl rfl rfl (by kernel_rfl) (by kernel_rfl) (by kernel_rfl) (.inl ⟨rfl, rfl⟩)) rfl ?_ | refine x_q (stp_eqS (ms := [_, _]) (ns := [_, _]) tok rfl rfl rfl rfl rfl rfl rfl (by kernel_rfl) (by kernel_rfl) (by kernel_rfl) (.inr ⟨rfl, rfl⟩)) rfl ?_ | refine x_q (stp_eqS (ms := [_, _, _]) (ns := [_, _, _]) tok rfl rfl rfl rfl rfl rfl rfl (by kernel_rfl) (by kernel_rfl) (by kernel_rfl) (.inl ⟨rfl, rfl⟩)) rfl ?_ | refine x_q (stp_eqS (ms := [_, _, _]) (ns := [_, _, _]) tok rfl rfl rfl rfl rfl rfl rfl (by kernel_rfl) (by kernel_rfl) (by kernel_rfl) (.inr ⟨rfl, rfl⟩)) rfl ?_) | refine x_autow tok rfl rfl rfl rfl ?_ | (refine is_sto ?_; first | refine x_autos tok rfl rfl rfl ?_ | refine x_stoa tok rfl rfl rfl (by first | rfl | assumption) rfl rfl rfl rfl rfl rfl ?_ | refine x_sto1 tok rfl rfl rfl (by first | rfl | assumption) rfl rfl rfl rfl rfl rfl rfl rfl ?_) | refine x_nil ?_ | refine x_nilD (by kernel_rfl) ?_) | (first | refine sim_seq ?_ | refine x_region ?_ | refine x_draw rfl ?_ | refine sim_cond_true rfl ?_ | refine sim_cond_false rfl ?_ | (refine sim_cond rfl (fun hc => ?_) (fun hc => ?_) <;> (try simp only [cmpB, decide_eq_true_eq, decide_eq_false_iff_not, beq_iff_eq, bne_iff_ne, ne_eq, Bool.not_eq_true, beq_eq_false_iff_ne, bne_eq_false_iff_eq, Int.not_lt, Int.not_le, Decidable.not_not] at hc)) | refine sim_skip ?_ | refine sim_ret ?_ | refine sim_exit ?_ | refine sim_block ?_)))
    all_goals (first | rfl | (exfalso; first | (simp [eqY_refl] at hc; done) | (revert hc; simp [eqY_refl]; done)))
  · (refine WW ?_)
    (refine sim_rng (c.nx) [3] [3] [3, 56, 57] [58, 3, 56, 57] rfl (fun i pre T U => ⟨(58, iA i) :: T, U⟩) ?_; (conv => whnf); refine ⟨by rfl, ?_, ?_⟩)
    · intro i pre x post hx hi
      have hy := rng_at iA hx hi
      have hlt := rng_lt hx hi
      clear hx
      (refine WW ?_)
      all_goals (first | rfl | (exfalso; first | (simp [eqY_refl] at hc; done) | (revert hc; simp [eqY_refl]; done)))
    · (refine WW ?_)
      exact fin_ret [] rfl rfl rfl rfl
theorem renterI_c (j : Jn) (hn : j.ph.length ≤ 1000) (g gr wt : Int) (L : List AV) (nL : Nat) : CallSim Tryz.prog 34 [jnA j, .ptr 3000 0 0, iA g] [(3000, .box [.ref 1001 0 nL, iA gr, .s (.slice none 0 0), iA wt]), (1001, .arr 2 L false)] (.tup [])
    [(3000, .box [.ref 1001 0 nL, iA g, .ref 2001 0 2, iA wt]), (1001, .arr 2 L false), (2001, .arr 1 [iA (flF j 0 g 0), iA (flF j 1 g 0)] false)] := by
  have c0 := after_c j hn 0 g (-1)
  have c1 := after_c j hn 1 g (-1)
  rw [show (-1 : Int) + 1 = 0 by omega] at c0 c1
  generalize flF j 0 g 0 = f0 at *
  generalize flF j 1 g 0 = f1 at *
  obtain ⟨N2, hN2⟩ : ∃ n : Nat, n = 2 := ⟨2, rfl⟩
  (refine callSim_of tok Tryz.func34 rfl (fun args w => Tryz.call34 args w) rfl rfl rfl (fun F hF => ?_))
  (refine WW ?_)
  refine sim_virt 6 2001 1 rfl rfl rfl ?_
  (refine sim_cnt (N2) [2001, 3, 3000, 1001] [3, 3000, 1001] [1, 2, 3] [6, 8, 1, 2, 3] rfl (fun i T U => ⟨(6, .ref 2001 0 (reN f0 f1 i).length) :: (8, iA i) :: T, (2001, .arr 1 (reN f0 f1 i) (i != 1)) :: U⟩) ?_; (conv => whnf); refine ⟨by rfl, ?_, ?_⟩)
  · intro i hi
    have : i = 0 ∨ i = 1 := by omega
    rcases this with rfl | rfl
    · have hl : (reN f0 f1 0).length = 0 := rfl
      (have zc1 := c0; refine WW ?_; clear zc1)
      rfl
    · have hl : (reN f0 f1 1).length = 1 := rfl
      (have zc1 := c1; refine WW ?_; clear zc1)
      rfl
  · have e2 : reN f0 f1 N2 = [iA f0, iA f1] := by rw [hN2]; rfl
    have e3 : (N2 != 1) = true := by rw [hN2]; rfl
    rw [e2, e3]
    (repeat' (first | (refine is_ops ?_; first | refine x_auto tok rfl rfl ?_ | (refine is_call ?_; fail) | (refine is_grd ?_; first | refine x_on rfl rfl ?_ | refine x_off rfl rfl rfl rfl ?_ | (refine x_gsplit rfl rfl (fun hc => ?_) (fun hc => ?_) <;> (try simp only [cmpB, decide_eq_true_eq, decide_eq_false_iff_not, beq_iff_eq, bne_iff_ne, ne_eq, Bool.not_eq_true, beq_eq_false_iff_ne, bne_eq_false_iff_eq, Int.not_lt, Int.not_le, Decidable.not_not] at hc))) | (refine is_bin ?_; first | refine x_q (stp_cmp_t rfl rfl rfl (by unfold cmpP; omega)) rfl ?_ | refine x_q (stp_cmp_f rfl rfl rfl (by unfold cmpP; omega)) rfl ?_ | refine x_q (stp_cmp rfl rfl rfl) rfl ?_ | refine x_q (stp_add rfl rfl ⟨by omega, by omega⟩) rfl ?_ | refine x_q (stp_sub rfl rfl ⟨by omega, by omega⟩) rfl ?_ | refine x_q (stp_mul rfl rfl ⟨by omega, by omega⟩) rfl ?_ | refine x_q (stp_quo rfl rfl (by assumption) (by omega)) rfl ?_ | refine x_q (stp_rem rfl rfl (by omega)) rfl ?_ | refine x_q (stp_xor rfl rfl) rfl ?_ | refine x_q (stp_shlI rfl rfl (by omega)) rfl ?_ | refine x_q (stp_shrI rfl rfl (by omega)) rfl ?_ | refine x_q (stp_shift (.inl ⟨rfl, rfl⟩) rfl rfl (by omega)) rfl ?_ | refine x_q (stp_shift (.inr ⟨rfl, rfl⟩) rfl rfl (by omega)) rfl ?_ | refine x_q (stp_bool2 tok rfl rfl rfl rfl (.inl ⟨rfl, rfl⟩)) rfl ?_ | refine x_q (stp_bool2 tok rfl rfl rfl rfl (.inr ⟨rfl, rfl⟩)) rfl ?_ | refine x_q (stp_eqlNil tok (.inl ⟨rfl, rfl⟩) rfl rfl rfl) rfl ?_ | refine x_q (stp_eqlNil_not tok (.inl ⟨rfl, rfl⟩) rfl rfl rfl rfl) rfl ?_ | refine x_q (stp_andI rfl rfl) rfl ?_ | refine x_q (stp_orI rfl rfl) rfl ?_ | refine x_q (stp_bicI rfl rfl) rfl ?_ | refine x_q (stp_strEqV rfl rfl (by assumption)) rfl ?_ | refine x_q (stp_strEq rfl rfl) rfl ?_ | refine x_q (stp_strNeV rfl rfl (by assumption)) rfl ?_ | refine x_q (stp_strNe rfl rfl) rfl ?_) | (refine is_idx ?_; first | refine x_q (stp_indexAddr_sl tok rfl rfl rfl rfl rfl (by omega) (by first | rfl | assumption) rfl rfl) rfl ?_ | refine x_q (stp_indexAddr_r0 tok rfl rfl rfl rfl rfl rfl (by omega) (by omega) rfl) rfl ?_ | refine x_q (stp_indexAddr_box tok rfl rfl rfl rfl rfl rfl (by omega) (by omega)) rfl ?_) | (refine is_load ?_; first | refine x_q (stp_load_fp1 tok rfl rfl rfl (by first | rfl | assumption) rfl) rfl ?_ | refine x_q (stp_load_fpa tok rfl rfl rfl (by first | rfl | assumption) rfl) rfl ?_ | refine x_q (stp_load_arr1 tok rfl rfl rfl rfl (by first | rfl | assumption) rfl) rfl ?_ | refine x_q (stp_load_arra tok rfl rfl rfl rfl (by first | rfl | assumption) rfl) rfl ?_) | (refine is_fad ?_; first | refine x_q (stp_fieldAddr_arr tok rfl rfl rfl rfl rfl rfl rfl rfl) rfl ?_ | refine x_q (stp_fieldAddr_fp tok rfl (by first | rfl | assumption) rfl rfl rfl rfl rfl rfl) rfl ?_) | (refine is_app ?_; first | refine x_appref0 tok rfl rfl rfl rfl rfl rfl rfl (by first | (intro y hy; cases hy; rfl) | exact map_hd _ _ (fun _ => rfl)) rfl rfl rfl (by first | omega | (simp; done) | (simp; omega)) rfl ?_ | refine x_appref tok rfl rfl rfl rfl rfl rfl rfl rfl rfl rfl rfl (by first | (intro y hy; cases hy; rfl) | exact map_hd _ _ (fun _ => rfl)) (by first | omega | (simp; done) | (simp; omega)) rfl ?_) | (refine is_un ?_; first | refine x_q (stp_neg rfl ⟨by omega, by omega⟩) rfl ?_) | (refine is_conv ?_; first | refine x_q (stp_conv_in tok rfl rfl rfl rfl ⟨by omega, by omega⟩) rfl ?_ | refine x_q (stp_conv tok rfl rfl rfl rfl) rfl ?_ | refine x_q (stp_convStr tok rfl rfl rfl rfl rfl rfl rfl (by first | rfl | assumption)) rfl ?_) | (refine is_slc ?_; first | refine x_slcL tok rfl rfl rfl rfl rfl (by first | (intro y hy; cases hy; rfl) | exact map_hd _ _ (fun _ => rfl) | (simp; done)) (by omega) (by simp; omega) (by first | exact List.map_drop.symm | rfl) rfl ?_ | refine x_slcH tok rfl rfl rfl rfl rfl (by first | (intro y hy; cases hy; rfl) | exact map_hd _ _ (fun _ => rfl) | (simp; done)) (by omega) (by simp; omega) (by first | exact List.map_take.symm | rfl) rfl ?_) | (refine is_mks ?_; refine x_mks tok rfl rfl rfl rfl rfl rfl rfl rfl rfl rfl rfl rfl rfl (by omega) (by omega) rfl rfl rfl ?_) | refine x_autow tok rfl rfl rfl rfl ?_ | (refine is_sto ?_; first | refine x_autos tok rfl rfl rfl ?_ | refine x_stoa tok rfl rfl rfl (by first | rfl | assumption) rfl rfl rfl rfl rfl rfl ?_ | refine x_sto1 tok rfl rfl rfl (by first | rfl | assumption) rfl rfl rfl rfl rfl rfl rfl rfl ?_) | refine x_nil ?_ | refine x_nilD (by kernel_rfl) ?_) | (first | refine sim_seq ?_ | refine x_region ?_ | refine x_draw rfl ?_ | refine sim_skip ?_ | refine sim_ret ?_ | refine sim_exit ?_)))
    refine sim_cond_false rfl (sim_exit ?_)
    refine sim_compact 2001 [6] rfl rfl rfl rfl rfl ?_
    (refine WW ?_)
    exact fin_own0 [3000, 1001, 2001] rfl rfl rfl rfl
theorem rinit_c (j : Jn) (hn : j.ph.length ≤ 1000) : CallSim Tryz.prog 20 [jnA j] [] (ctA (inF j)) [] := by
  have hlp := map_len phA j.ph
  have ce := renterI_c j hn 0 0 j.st ((List.replicate j.ph.length (⟨0, 0⟩ : Li)).map liA) ((List.replicate j.ph.length (⟨0, 0⟩ : Li)).map liA).length
  have eL : (List.replicate j.ph.length (⟨0, 0⟩ : Li)).map liA = List.replicate j.ph.length (liA ⟨0, 0⟩) := List.map_replicate
  have eN : ((List.replicate j.ph.length (⟨0, 0⟩ : Li)).map liA).length = j.ph.length := by simp
  rw [eN, eL] at ce
  rw [← hlp] at ce
  (refine callSim_of tok Tryz.func20 rfl (fun args w => Tryz.call20 args w) rfl rfl rfl (fun F hF => ?_))
  repeat' (first | (refine is_ops ?_; first | (refine is_al3 ?_; refine x_w (nw := [3000]) (stp_alloc tok 3000 rfl rfl) rfl rfl rfl ?_) | refine x_auto tok rfl rfl ?_ | (refine is_mks ?_; refine x_mksK 1001 tok rfl rfl rfl rfl rfl rfl rfl rfl rfl rfl rfl rfl rfl (by omega) (by omega) rfl rfl rfl ?_) | refine x_autow tok rfl rfl rfl rfl ?_ | (refine is_call ?_; (first | (refine is_fn 34 ?_; first | refine x_q (stp_call (ce) rfl rfl rfl rfl rfl) rfl ?_ | refine x_w (stp_call (ce) rfl rfl rfl rfl rfl) rfl rfl rfl ?_ | refine x_d (stp_call (ce) rfl rfl rfl rfl rfl) rfl rfl rfl ?_))) | (refine is_sto ?_; refine x_autos tok rfl rfl rfl ?_) | refine x_nilD (by kernel_rfl) ?_ | refine x_nil ?_) | (first | refine sim_seq ?_ | refine x_region ?_ | refine x_draw rfl ?_ | refine sim_skip ?_ | refine sim_ret ?_ | refine sim_exit ?_))
  have eF : AV.agg [.sl false ((List.replicate (j.ph.map phA).length (liA ⟨0, 0⟩)).take (j.ph.map phA).length), iA 0, .sl false [iA (flF j 0 0 0), iA (flF j 1 0 0)], iA j.st] = ctA (inF j) := by
    rw [List.take_of_length_le (by simp), hlp, ← eL]
    rfl
  exact fin_ret [] rfl rfl eF rfl
/-! ### A control of the deck -/
def ctlS (j : Jn) (c : Ct) (d : Dk) : Ct × Dk := (stI j c (nx d (j.ph.length + 1) - 1) (1 + nx (ad d) 4).toNat, ad (ad d))
def ctlN (j : Jn) (c : Ct) (d : Dk) : Nat → Ct × Dk
  | 0 => (c, d)
  | k + 1 => ctlS j (ctlN j c d k).1 (ctlN j c d k).2
def ctF (j : Jn) (d : Dk) : Ct := (ctlN j (inF j) (ad d) (nx d 12).toNat).1
def ctD (j : Jn) (d : Dk) : Dk := (ctlN j (inF j) (ad d) (nx d 12).toNat).2
theorem ctlN_v {j : Jn} (J : JV j) {c : Ct} (C : CV j c) (d : Dk) : ∀ k, CV j (ctlN j c d k).1
  | 0 => C
  | k + 1 => stI_v J (ctlN_v J C d k) _ _
theorem ctF_v {j : Jn} (J : JV j) (d : Dk) : CV j (ctF j d) := ctlN_v J (cv_in J) _ _
end Av
end Go.Proofs.YtkliodbbcblobaaGreat
