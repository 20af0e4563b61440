/- Rings, the reference: Same, Init; a control of the deck. -/
import Derived.Test.YtkliodbbcblobaaRjD
namespace Go.Proofs.Ytkliodbbcblobaa
namespace Av
set_option linter.unusedSimpArgs false
set_option linter.unusedVariables false
set_option maxRecDepth 4000
set_option maxHeartbeats 1000000
theorem csame_c (c : Ct) (h1 : c.li.length ≤ 1000000) (h2 : c.nx.length ≤ 1000000) : CallSim Try.prog 34 [ctA c, ctA c] [] (bA true) [] := by
  have hl := map_len liA c.li
  have hn := map_len iA c.nx
  (refine callSim_of tok Try.func34 rfl (fun args w => Try.call34 args w) rfl rfl rfl (fun F hF => ?_))
  (refine WW ?_)
  (refine sim_rng (c.li) [2, 3] [2, 3] [2, 3, 40, 41] [42, 2, 3, 40, 41] rfl (fun i pre T U => ⟨(42, iA i) :: T, U⟩) ?_; (conv => whnf); refine ⟨by rfl, ?_, ?_⟩)
  · intro i pre x post hx hi
    have hy := rng_at liA hx hi
    have hlt := rng_lt hx hi
    clear hx
    (repeat' (first | (refine is_ops ?_; first | refine x_auto tok rfl rfl ?_ | (refine is_call ?_; fail) | (refine is_grd ?_; first | refine x_on rfl rfl ?_ | refine x_off rfl rfl rfl rfl ?_ | (refine x_gsplit rfl rfl (fun hc => ?_) (fun hc => ?_) <;> (try simp only [cmpB, decide_eq_true_eq, decide_eq_false_iff_not, beq_iff_eq, bne_iff_ne, ne_eq, Bool.not_eq_true, beq_eq_false_iff_ne, bne_eq_false_iff_eq, Int.not_lt, Int.not_le, Decidable.not_not] at hc))) | (refine is_bin ?_; first | refine x_q (stp_cmp_t rfl rfl rfl (by unfold cmpP; omega)) rfl ?_ | refine x_q (stp_cmp_f rfl rfl rfl (by unfold cmpP; omega)) rfl ?_ | refine x_q (stp_cmp rfl rfl rfl) rfl ?_ | refine x_q (stp_add rfl rfl ⟨by omega, by omega⟩) rfl ?_ | refine x_q (stp_sub rfl rfl ⟨by omega, by omega⟩) rfl ?_ | refine x_q (stp_mul rfl rfl ⟨by omega, by omega⟩) rfl ?_ | refine x_q (stp_quo rfl rfl (by assumption) (by omega)) rfl ?_ | refine x_q (stp_rem rfl rfl (by omega)) rfl ?_ | refine x_q (stp_xor rfl rfl) rfl ?_ | refine x_q (stp_shlI rfl rfl (by omega)) rfl ?_ | refine x_q (stp_shrI rfl rfl (by omega)) rfl ?_ | refine x_q (stp_shift (.inl ⟨rfl, rfl⟩) rfl rfl (by omega)) rfl ?_ | refine x_q (stp_shift (.inr ⟨rfl, rfl⟩) rfl rfl (by omega)) rfl ?_ | refine x_q (stp_bool2 tok rfl rfl rfl rfl (.inl ⟨rfl, rfl⟩)) rfl ?_ | refine x_q (stp_bool2 tok rfl rfl rfl rfl (.inr ⟨rfl, rfl⟩)) rfl ?_ | refine x_q (stp_eqlNil tok (.inl ⟨rfl, rfl⟩) rfl rfl rfl) rfl ?_ | refine x_q (stp_eqlNil_not tok (.inl ⟨rfl, rfl⟩) rfl rfl rfl rfl) rfl ?_ | refine x_q (stp_andI rfl rfl) rfl ?_ | refine x_q (stp_orI rfl rfl) rfl ?_ | refine x_q (stp_bicI rfl rfl) rfl ?_ | refine x_q (stp_strEqV rfl rfl (by assumption)) rfl ?_ | refine x_q (stp_strEq rfl rfl) rfl ?_ | refine x_q (stp_strNeV rfl rfl (by assumption)) rfl ?_ | refine x_q (stp_strNe rfl rfl) rfl ?_) | (refine is_idx ?_; first | refine x_q (stp_indexAddr_sl tok rfl rfl rfl rfl rfl (by omega) (by first | rfl | assumption) rfl rfl) rfl ?_ | refine x_q (stp_indexAddr_r0 tok rfl rfl rfl rfl rfl rfl (by omega) (by omega) rfl) rfl ?_ | refine x_q (stp_indexAddr_box tok rfl rfl rfl rfl rfl rfl (by omega) (by omega)) rfl ?_) | (refine is_load ?_; first | refine x_q (stp_load_fp1 tok rfl rfl rfl (by first | rfl | assumption) rfl) rfl ?_ | refine x_q (stp_load_fpa tok rfl rfl rfl (by first | rfl | assumption) rfl) rfl ?_ | refine x_q (stp_load_arr1 tok rfl rfl rfl rfl (by first | rfl | assumption) rfl) rfl ?_ | refine x_q (stp_load_arra tok rfl rfl rfl rfl (by first | rfl | assumption) rfl) rfl ?_) | (refine is_fad ?_; first | refine x_q (stp_fieldAddr_arr tok rfl rfl rfl rfl rfl rfl rfl rfl) rfl ?_ | refine x_q (stp_fieldAddr_fp tok rfl (by first | rfl | assumption) rfl rfl rfl rfl rfl rfl) rfl ?_) | (refine is_app ?_; first | refine x_appref0 tok rfl rfl rfl rfl rfl rfl rfl (by first | (intro y hy; cases hy; rfl) | exact map_hd _ _ (fun _ => rfl)) rfl rfl rfl (by first | omega | (simp; done) | (simp; omega)) rfl ?_ | refine x_appref tok rfl rfl rfl rfl rfl rfl rfl rfl rfl rfl rfl (by first | (intro y hy; cases hy; rfl) | exact map_hd _ _ (fun _ => rfl)) (by first | omega | (simp; done) | (simp; omega)) rfl ?_) | (refine is_un ?_; first | refine x_q (stp_neg rfl ⟨by omega, by omega⟩) rfl ?_) | (refine is_conv ?_; first | refine x_q (stp_conv_in tok rfl rfl rfl rfl ⟨by omega, by omega⟩) rfl ?_ | refine x_q (stp_conv tok rfl rfl rfl rfl) rfl ?_ | refine x_q (stp_convStr tok rfl rfl rfl rfl rfl rfl rfl (by first | rfl | assumption)) rfl ?_) | (refine is_slc ?_; first | refine x_slcL tok rfl rfl rfl rfl rfl (by first | (intro y hy; cases hy; rfl) | exact map_hd _ _ (fun _ => rfl) | (simp; done)) (by omega) (by simp; omega) (by first | exact List.map_drop.symm | rfl) rfl ?_ | refine x_slcH tok rfl rfl rfl rfl rfl (by first | (intro y hy; cases hy; rfl) | exact map_hd _ _ (fun _ => rfl) | (simp; done)) (by omega) (by simp; omega) (by first | exact List.map_take.symm | rfl) rfl ?_) | (refine is_bin ?_; first | refine x_q (stp_eqS (ms := [_, _]) (ns := [_, _]) tok rfl rfl rfl rfl rfl rfl rfl (by kernel_rfl) (by kernel_rfl) (by kernel_rfl) (.inl ⟨rfl, rfl⟩)) rfl ?_ | refine x_q (stp_eqS (ms := [_, _]) (ns := [_, _]) tok rfl rfl rfl rfl rfl rfl rfl (by kernel_rfl) (by kernel_rfl) (by kernel_rfl) (.inr ⟨rfl, rfl⟩)) rfl ?_ | refine x_q (stp_eqS (ms := [_, _, _]) (ns := [_, _, _]) tok rfl rfl rfl rfl rfl rfl rfl (by kernel_rfl) (by kernel_rfl) (by kernel_rfl) (.inl ⟨rfl, rfl⟩)) rfl ?_ | refine x_q (stp_eqS (ms := [_, _, _]) (ns := [_, _, _]) tok rfl rfl rfl rfl rfl rfl rfl (by kernel_rfl) (by kernel_rfl) (by kernel_rfl) (.inr ⟨rfl, rfl⟩)) rfl ?_) | refine x_autow tok rfl rfl rfl rfl ?_ | (refine is_sto ?_; first | refine x_autos tok rfl rfl rfl ?_ | refine x_stoa tok rfl rfl rfl (by first | rfl | assumption) rfl rfl rfl rfl rfl rfl ?_ | refine x_sto1 tok rfl rfl rfl (by first | rfl | assumption) rfl rfl rfl rfl rfl rfl rfl rfl ?_) | refine x_nil ?_ | refine x_nilD (by kernel_rfl) ?_) | (first | refine sim_seq ?_ | refine x_region ?_ | refine x_draw rfl ?_ | refine sim_cond_true rfl ?_ | refine sim_cond_false rfl ?_ | (refine sim_cond rfl (fun hc => ?_) (fun hc => ?_) <;> (try simp only [cmpB, decide_eq_true_eq, decide_eq_false_iff_not, beq_iff_eq, bne_iff_ne, ne_eq, Bool.not_eq_true, beq_eq_false_iff_ne, bne_eq_false_iff_eq, Int.not_lt, Int.not_le, Decidable.not_not] at hc)) | refine sim_skip ?_ | refine sim_ret ?_ | refine sim_exit ?_ | refine sim_block ?_)))
    all_goals (first | rfl | (exfalso; first | (simp [eqY_refl] at hc; done) | (revert hc; simp [eqY_refl]; done)))
  · (refine WW ?_)
    (refine sim_rng (c.nx) [3] [3] [3, 56, 57] [58, 3, 56, 57] rfl (fun i pre T U => ⟨(58, iA i) :: T, U⟩) ?_; (conv => whnf); refine ⟨by rfl, ?_, ?_⟩)
    · intro i pre x post hx hi
      have hy := rng_at iA hx hi
      have hlt := rng_lt hx hi
      clear hx
      (refine WW ?_)
      all_goals (first | rfl | (exfalso; first | (simp [eqY_refl] at hc; done) | (revert hc; simp [eqY_refl]; done)))
    · (refine WW ?_)
      exact fin_ret [] rfl rfl rfl rfl
theorem renterI_c (j : Jn) (hn : j.ph.length ≤ 1000) (g gr wt : Int) (L : List AV) (nL : Nat) : CallSim Try.prog 62 [jnA j, .ptr 3000 0 0, iA g] [(3000, .box [.ref 1001 0 nL, iA gr, .s (.slice none 0 0), iA wt]), (1001, .arr 2 L false)] (.tup [])
    [(3000, .box [.ref 1001 0 nL, iA g, .ref 2001 0 2, iA wt]), (1001, .arr 2 L false), (2001, .arr 1 [iA (flF j 0 g 0), iA (flF j 1 g 0)] false)] := by
  have c0 := after_c j hn 0 g (-1)
  have c1 := after_c j hn 1 g (-1)
  rw [show (-1 : Int) + 1 = 0 by omega] at c0 c1
  generalize flF j 0 g 0 = f0 at *
  generalize flF j 1 g 0 = f1 at *
  obtain ⟨N2, hN2⟩ : ∃ n : Nat, n = 2 := ⟨2, rfl⟩
  (refine callSim_of tok Try.func62 rfl (fun args w => Try.call62 args w) rfl rfl rfl (fun F hF => ?_))
  (refine WW ?_)
  refine sim_virt 6 2001 1 rfl rfl rfl ?_
  (refine sim_cnt (N2) [2001, 3, 3000, 1001] [3, 3000, 1001] [1, 2, 3] [6, 8, 1, 2, 3] rfl (fun i T U => ⟨(6, .ref 2001 0 (reN f0 f1 i).length) :: (8, iA i) :: T, (2001, .arr 1 (reN f0 f1 i) (i != 1)) :: U⟩) ?_; (conv => whnf); refine ⟨by rfl, ?_, ?_⟩)
  · intro i hi
    have : i = 0 ∨ i = 1 := by omega
    rcases this with rfl | rfl
    · have hl : (reN f0 f1 0).length = 0 := rfl
      (have zc1 := c0; refine WW ?_; clear zc1)
      rfl
    · have hl : (reN f0 f1 1).length = 1 := rfl
      (have zc1 := c1; refine WW ?_; clear zc1)
      rfl
  · have e2 : reN f0 f1 N2 = [iA f0, iA f1] := by rw [hN2]; rfl
    have e3 : (N2 != 1) = true := by rw [hN2]; rfl
    rw [e2, e3]
    (repeat' (first | (refine is_ops ?_; first | refine x_auto tok rfl rfl ?_ | (refine is_call ?_; fail) | (refine is_grd ?_; first | refine x_on rfl rfl ?_ | refine x_off rfl rfl rfl rfl ?_ | (refine x_gsplit rfl rfl (fun hc => ?_) (fun hc => ?_) <;> (try simp only [cmpB, decide_eq_true_eq, decide_eq_false_iff_not, beq_iff_eq, bne_iff_ne, ne_eq, Bool.not_eq_true, beq_eq_false_iff_ne, bne_eq_false_iff_eq, Int.not_lt, Int.not_le, Decidable.not_not] at hc))) | (refine is_bin ?_; first | refine x_q (stp_cmp_t rfl rfl rfl (by unfold cmpP; omega)) rfl ?_ | refine x_q (stp_cmp_f rfl rfl rfl (by unfold cmpP; omega)) rfl ?_ | refine x_q (stp_cmp rfl rfl rfl) rfl ?_ | refine x_q (stp_add rfl rfl ⟨by omega, by omega⟩) rfl ?_ | refine x_q (stp_sub rfl rfl ⟨by omega, by omega⟩) rfl ?_ | refine x_q (stp_mul rfl rfl ⟨by omega, by omega⟩) rfl ?_ | refine x_q (stp_quo rfl rfl (by assumption) (by omega)) rfl ?_ | refine x_q (stp_rem rfl rfl (by omega)) rfl ?_ | refine x_q (stp_xor rfl rfl) rfl ?_ | refine x_q (stp_shlI rfl rfl (by omega)) rfl ?_ | refine x_q (stp_shrI rfl rfl (by omega)) rfl ?_ | refine x_q (stp_shift (.inl ⟨rfl, rfl⟩) rfl rfl (by omega)) rfl ?_ | refine x_q (stp_shift (.inr ⟨rfl, rfl⟩) rfl rfl (by omega)) rfl ?_ | refine x_q (stp_bool2 tok rfl rfl rfl rfl (.inl ⟨rfl, rfl⟩)) rfl ?_ | refine x_q (stp_bool2 tok rfl rfl rfl rfl (.inr ⟨rfl, rfl⟩)) rfl ?_ | refine x_q (stp_eqlNil tok (.inl ⟨rfl, rfl⟩) rfl rfl rfl) rfl ?_ | refine x_q (stp_eqlNil_not tok (.inl ⟨rfl, rfl⟩) rfl rfl rfl rfl) rfl ?_ | refine x_q (stp_andI rfl rfl) rfl ?_ | refine x_q (stp_orI rfl rfl) rfl ?_ | refine x_q (stp_bicI rfl rfl) rfl ?_ | refine x_q (stp_strEqV rfl rfl (by assumption)) rfl ?_ | refine x_q (stp_strEq rfl rfl) rfl ?_ | refine x_q (stp_strNeV rfl rfl (by assumption)) rfl ?_ | refine x_q (stp_strNe rfl rfl) rfl ?_) | (refine is_idx ?_; first | refine x_q (stp_indexAddr_sl tok rfl rfl rfl rfl rfl (by omega) (by first | rfl | assumption) rfl rfl) rfl ?_ | refine x_q (stp_indexAddr_r0 tok rfl rfl rfl rfl rfl rfl (by omega) (by omega) rfl) rfl ?_ | refine x_q (stp_indexAddr_box tok rfl rfl rfl rfl rfl rfl (by omega) (by omega)) rfl ?_) | (refine is_load ?_; first | refine x_q (stp_load_fp1 tok rfl rfl rfl (by first | rfl | assumption) rfl) rfl ?_ | refine x_q (stp_load_fpa tok rfl rfl rfl (by first | rfl | assumption) rfl) rfl ?_ | refine x_q (stp_load_arr1 tok rfl rfl rfl rfl (by first | rfl | assumption) rfl) rfl ?_ | refine x_q (stp_load_arra tok rfl rfl rfl rfl (by first | rfl | assumption) rfl) rfl ?_) | (refine is_fad ?_; first | refine x_q (stp_fieldAddr_arr tok rfl rfl rfl rfl rfl rfl rfl rfl) rfl ?_ | refine x_q (stp_fieldAddr_fp tok rfl (by first | rfl | assumption) rfl rfl rfl rfl rfl rfl) rfl ?_) | (refine is_app ?_; first | refine x_appref0 tok rfl rfl rfl rfl rfl rfl rfl (by first | (intro y hy; cases hy; rfl) | exact map_hd _ _ (fun _ => rfl)) rfl rfl rfl (by first | omega | (simp; done) | (simp; omega)) rfl ?_ | refine x_appref tok rfl rfl rfl rfl rfl rfl rfl rfl rfl rfl rfl (by first | (intro y hy; cases hy; rfl) | exact map_hd _ _ (fun _ => rfl)) (by first | omega | (simp; done) | (simp; omega)) rfl ?_) | (refine is_un ?_; first | refine x_q (stp_neg rfl ⟨by omega, by omega⟩) rfl ?_) | (refine is_conv ?_; first | refine x_q (stp_conv_in tok rfl rfl rfl rfl ⟨by omega, by omega⟩) rfl ?_ | refine x_q (stp_conv tok rfl rfl rfl rfl) rfl ?_ | refine x_q (stp_convStr tok rfl rfl rfl rfl rfl rfl rfl (by first | rfl | assumption)) rfl ?_) | (refine is_slc ?_; first | refine x_slcL tok rfl rfl rfl rfl rfl (by first | (intro y hy; cases hy; rfl) | exact map_hd _ _ (fun _ => rfl) | (simp; done)) (by omega) (by simp; omega) (by first | exact List.map_drop.symm | rfl) rfl ?_ | refine x_slcH tok rfl rfl rfl rfl rfl (by first | (intro y hy; cases hy; rfl) | exact map_hd _ _ (fun _ => rfl) | (simp; done)) (by omega) (by simp; omega) (by first | exact List.map_take.symm | rfl) rfl ?_) | (refine is_mks ?_; refine x_mks tok rfl rfl rfl rfl rfl rfl rfl rfl rfl rfl rfl rfl rfl (by omega) (by omega) rfl rfl rfl ?_) | refine x_autow tok rfl rfl rfl rfl ?_ | (refine is_sto ?_; first | refine x_autos tok rfl rfl rfl ?_ | refine x_stoa tok rfl rfl rfl (by first | rfl | assumption) rfl rfl rfl rfl rfl rfl ?_ | refine x_sto1 tok rfl rfl rfl (by first | rfl | assumption) rfl rfl rfl rfl rfl rfl rfl rfl ?_) | refine x_nil ?_ | refine x_nilD (by kernel_rfl) ?_) | (first | refine sim_seq ?_ | refine x_region ?_ | refine x_draw rfl ?_ | refine sim_skip ?_ | refine sim_ret ?_ | refine sim_exit ?_)))
    refine sim_cond_false rfl (sim_exit ?_)
    refine sim_compact 2001 [6] rfl rfl rfl rfl rfl ?_
    (refine WW ?_)
    exact fin_own0 [3000, 1001, 2001] rfl rfl rfl rfl
theorem rinit_c (j : Jn) (hn : j.ph.length ≤ 1000) : CallSim Try.prog 32 [jnA j] [] (ctA (inF j)) [] := by
  have hlp := map_len phA j.ph
  have ce := renterI_c j hn 0 0 j.st ((List.replicate j.ph.length (⟨0, 0⟩ : Li)).map liA) ((List.replicate j.ph.length (⟨0, 0⟩ : Li)).map liA).length
  have eL : (List.replicate j.ph.length (⟨0, 0⟩ : Li)).map liA = List.replicate j.ph.length (liA ⟨0, 0⟩) := List.map_replicate
  have eN : ((List.replicate j.ph.length (⟨0, 0⟩ : Li)).map liA).length = j.ph.length := by simp
  rw [eN, eL] at ce
  rw [← hlp] at ce
  (refine callSim_of tok Try.func32 rfl (fun args w => Try.call32 args w) rfl rfl rfl (fun F hF => ?_))
  repeat' (first | (refine is_ops ?_; first | (refine is_al3 ?_; refine x_w (nw := [3000]) (stp_alloc tok 3000 rfl rfl) rfl rfl rfl ?_) | refine x_auto tok rfl rfl ?_ | (refine is_mks ?_; refine x_mksK 1001 tok rfl rfl rfl rfl rfl rfl rfl rfl rfl rfl rfl rfl rfl (by omega) (by omega) rfl rfl rfl ?_) | refine x_autow tok rfl rfl rfl rfl ?_ | (refine is_call ?_; (first | (refine is_fn 62 ?_; first | refine x_q (stp_call (ce) rfl rfl rfl rfl rfl) rfl ?_ | refine x_w (stp_call (ce) rfl rfl rfl rfl rfl) rfl rfl rfl ?_ | refine x_d (stp_call (ce) rfl rfl rfl rfl rfl) rfl rfl rfl ?_))) | (refine is_sto ?_; refine x_autos tok rfl rfl rfl ?_) | refine x_nilD (by kernel_rfl) ?_ | refine x_nil ?_) | (first | refine sim_seq ?_ | refine x_region ?_ | refine x_draw rfl ?_ | refine sim_skip ?_ | refine sim_ret ?_ | refine sim_exit ?_))
  have eF : AV.agg [.sl false ((List.replicate (j.ph.map phA).length (liA ⟨0, 0⟩)).take (j.ph.map phA).length), iA 0, .sl false [iA (flF j 0 0 0), iA (flF j 1 0 0)], iA j.st] = ctA (inF j) := by
    rw [List.take_of_length_le (by simp), hlp, ← eL]
    rfl
  exact fin_ret [] rfl rfl eF rfl
/-! ### A control of the deck -/
def ctlS (j : Jn) (c : Ct) (d : Dk) : Ct × Dk := (stI j c (nx d (j.ph.length + 1) - 1) (1 + nx (ad d) 4).toNat, ad (ad d))
def ctlN (j : Jn) (c : Ct) (d : Dk) : Nat → Ct × Dk
  | 0 => (c, d)
  | k + 1 => ctlS j (ctlN j c d k).1 (ctlN j c d k).2
def ctF (j : Jn) (d : Dk) : Ct := (ctlN j (inF j) (ad d) (nx d 12).toNat).1
def ctD (j : Jn) (d : Dk) : Dk := (ctlN j (inF j) (ad d) (nx d 12).toNat).2
theorem ctlN_v {j : Jn} (J : JV j) {c : Ct} (C : CV j c) (d : Dk) : ∀ k, CV j (ctlN j c d k).1
  | 0 => C
  | k + 1 => stI_v J (ctlN_v J C d k) _ _
theorem ctF_v {j : Jn} (J : JV j) (d : Dk) : CV j (ctF j d) := ctlN_v J (cv_in J) _ _
theorem control_c (j : Jn) (J : JV j) (d : Dk) : CallSim Try.prog 16 [.ptr 1000 0 0, jnA j] [(1000, dkE d)] (ctA (ctF j d)) [(1000, dkE (ctD j d))] := by
  have hjn := J.n
  have hlp := map_len phA j.ph
  have c0 := rinit_c j (by omega)
  have CI := cv_in J
  have c1 := next_c d 12 (by omega) (by omega)
  have b1 := nx_bd d 12 (by omega)
  unfold ctF ctD
  generalize inF j = l0 at *
  generalize nx d 12 = n at *
  generalize ad d = d1 at *
  obtain ⟨N, rfl⟩ : ∃ N : Nat, n = N := ⟨n.toNat, by omega⟩
  rw [Int.toNat_natCast]
  have CN := ctlN_v J CI d1
  (refine callSim_of tok Try.func16 rfl (fun args w => Try.call16 args w) rfl rfl rfl (fun F hF => ?_))
  (have zc1 := c0; have zc2 := c1; refine WW ?_; clear zc1 zc2)
  (refine sim_cnt (N) [5, 1000, 3, 4] [3, 4] [0, 3, 4, 5] [6, 0, 3, 4, 5] rfl (fun i T U => ⟨(6, iA ((N : Int) - i)) :: T, (5, .box [slA liA (ctlN j l0 d1 i).1.li, iA (ctlN j l0 d1 i).1.gr, slA iA (ctlN j l0 d1 i).1.nx, iA (ctlN j l0 d1 i).1.wt]) :: (1000, dkE (ctlN j l0 d1 i).2) :: U⟩) ?_; (conv => whnf); refine ⟨by (rw [show (N : Int) - (0 : Nat) = N by omega]; rfl), ?_, ?_⟩)
  · intro i hi
    have C0 := CN i
    have eS : ctlN j l0 d1 (i + 1) = ctlS j (ctlN j l0 d1 i).1 (ctlN j l0 d1 i).2 := rfl
    rw [eS]
    rw [show ((N : Int) - ((i + 1 : Nat) : Int)) = (N : Int) - i - 1 by omega]
    generalize (ctlN j l0 d1 i).1 = c at *
    generalize (ctlN j l0 d1 i).2 = e at *
    have hk1 : 1 ≤ (N : Int) - i := by omega
    have hk2 : (N : Int) - i ≤ 12 := by omega
    generalize (N : Int) - i = kk at *
    have n1 := next_c e (j.ph.length + 1) (by omega) (by omega)
    have n2 := range_c (ad e) 1 4 (by omega) (by omega) (by omega)
    rw [show (4 : Int) - 1 + 1 = 4 by omega] at n2
    have w1 := nx_bd e (j.ph.length + 1) (by omega)
    have w2 := nx_bd (ad e) 4 (by omega)
    unfold ctlS
    dsimp only
    rw [← hlp] at n1 w1
    rw [← hlp]
    have CV1 := fun k => stI_v J C0 (nx e ((j.ph.map phA).length + 1) - 1) k
    generalize nx e ((j.ph.map phA).length + 1) = t at *
    generalize nx (ad e) 4 = q at *
    generalize ad (ad e) = e2 at *
    generalize ad e = e1 at *
    obtain ⟨M, hM⟩ : ∃ M : Nat, (1 + q).toNat = M := ⟨_, rfl⟩
    have hM2 : 1 + q = (M : Int) := by omega
    rw [hM]
    rw [hM2] at n2
    clear CN CI c0 c1 eS
    (have zc1 := n1; have zc2 := n2; refine WW ?_; clear zc1 zc2)
    (refine sim_cnt (M) [5, 3, 4, 1000] [3, 4, 1000] [0, 3, 4, 5, 6, 7] [8, 0, 3, 4, 5, 6, 7] rfl (fun i T U => ⟨(8, iA ((M : Int) - i)) :: T, (5, .box [slA liA (stI j c (t - 1) i).li, iA (stI j c (t - 1) i).gr, slA iA (stI j c (t - 1) i).nx, iA (stI j c (t - 1) i).wt]) :: U⟩) ?_; (conv => whnf); refine ⟨by (rw [show (M : Int) - (0 : Nat) = M by omega]; rfl), ?_, ?_⟩)
    · intro k hk
      have cs := rstepC_c j J (stI j c (t - 1) k) (CV1 k) (t - 1)
      rw [show stF j (stI j c (t - 1) k) (t - 1) = stI j c (t - 1) (k + 1) from rfl] at cs
      rw [show ((M : Int) - ((k + 1 : Nat) : Int)) = (M : Int) - k - 1 by omega]
      have hk1 : 1 ≤ (M : Int) - k := by omega
      have hk2 : (M : Int) - k ≤ 12 := by omega
      generalize stI j c (t - 1) (k + 1) = c2 at *
      generalize stI j c (t - 1) k = c1 at *
      generalize (M : Int) - k = mk at *
      clear CV1 n1 n2
      (have zc1 := cs; refine WW ?_; clear zc1)
      rfl
    · clear CV1 n1 n2
      rw [show (M : Int) - M = 0 by omega]
      (refine WW ?_)
      rfl
  · rw [show (N : Int) - N = 0 by omega]
    (refine WW ?_)
    exact fin_own [1000] rfl rfl rfl rfl
end Av
end Go.Proofs.Ytkliodbbcblobaa
