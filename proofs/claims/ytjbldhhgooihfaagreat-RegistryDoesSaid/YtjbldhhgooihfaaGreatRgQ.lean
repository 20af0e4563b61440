
/- law17: which agencies, vehicles and registries are valid, exactly. -/
import Derived.Test.YtjbldhhgooihfaaGreatRgP
import Derived.Test.YtjbldhhgooihfaaGreatRgW
import Derived.Test.YtjbldhhgooihfaaGreatRgL
namespace Go.Proofs.YtjbldhhgooihfaaGreat
namespace Av
set_option linter.unusedSimpArgs false
set_option linter.unusedVariables false
set_option maxRecDepth 4000
set_option maxHeartbeats 1000000
theorem rwithin_c (n a b : Int) : CallSim Tryz.prog 102 [iA n, iA a, iA b] [] (bA (inF n a b)) [] := by
  (cases hb : inF n a b with | false => ((refine callSim_of tok Tryz.func102 rfl (fun args w => Tryz.call102 args w) rfl rfl rfl (fun F hF => ?_)); ((repeat' (first | (refine is_ops ?_; first | refine x_auto tok rfl rfl ?_ | (refine is_call ?_; fail) | (refine is_grd ?_; first | refine x_on rfl rfl ?_ | refine x_off rfl rfl rfl rfl ?_ | (refine x_gsplit rfl rfl (fun hc => ?_) (fun hc => ?_) <;> (try simp only [cmpB, decide_eq_true_eq, decide_eq_false_iff_not, beq_iff_eq, bne_iff_ne, ne_eq, Bool.not_eq_true, beq_eq_false_iff_ne, bne_eq_false_iff_eq, Int.not_lt, Int.not_le, Decidable.not_not] at hc))) | (refine is_bin ?_; first | refine x_q (stp_cmp_t rfl rfl rfl (by unfold cmpP; omega)) rfl ?_ | refine x_q (stp_cmp_f rfl rfl rfl (by unfold cmpP; omega)) rfl ?_ | refine x_q (stp_cmp rfl rfl rfl) rfl ?_ | refine x_q (stp_add rfl rfl ⟨by omega, by omega⟩) rfl ?_ | refine x_q (stp_sub rfl rfl ⟨by omega, by omega⟩) rfl ?_ | refine x_q (stp_mul rfl rfl ⟨by omega, by omega⟩) rfl ?_ | refine x_q (stp_quo rfl rfl (by assumption) (by omega)) rfl ?_ | refine x_q (stp_rem rfl rfl (by omega)) rfl ?_ | refine x_q (stp_xor rfl rfl) rfl ?_ | refine x_q (stp_shlI rfl rfl (by omega)) rfl ?_ | refine x_q (stp_shrI rfl rfl (by omega)) rfl ?_ | refine x_q (stp_shift (.inl ⟨rfl, rfl⟩) rfl rfl (by omega)) rfl ?_ | refine x_q (stp_shift (.inr ⟨rfl, rfl⟩) rfl rfl (by omega)) rfl ?_ | refine x_q (stp_bool2 tok rfl rfl rfl rfl (.inl ⟨rfl, rfl⟩)) rfl ?_ | refine x_q (stp_bool2 tok rfl rfl rfl rfl (.inr ⟨rfl, rfl⟩)) rfl ?_ | refine x_q (stp_eqlNil tok (.inl ⟨rfl, rfl⟩) rfl rfl rfl) rfl ?_ | refine x_q (stp_eqlNil_not tok (.inl ⟨rfl, rfl⟩) rfl rfl rfl rfl) rfl ?_ | refine x_q (stp_andI rfl rfl) rfl ?_ | refine x_q (stp_orI rfl rfl) rfl ?_ | refine x_q (stp_bicI rfl rfl) rfl ?_ | refine x_q (stp_strEqV rfl rfl (by assumption)) rfl ?_ | refine x_q (stp_strEq rfl rfl) rfl ?_ | refine x_q (stp_strNeV rfl rfl (by assumption)) rfl ?_ | refine x_q (stp_strNe rfl rfl) rfl ?_) | (refine is_idx ?_; first | refine x_q (stp_indexAddr_sl tok rfl rfl rfl rfl rfl (by omega) (by first | rfl | assumption) rfl rfl) rfl ?_ | refine x_q (stp_indexAddr_r0 tok rfl rfl rfl rfl rfl rfl (by omega) (by omega) rfl) rfl ?_ | refine x_q (stp_indexAddr_box tok rfl rfl rfl rfl rfl rfl (by omega) (by omega)) rfl ?_) | (refine is_load ?_; first | refine x_q (stp_load_fp1 tok rfl rfl rfl (by first | rfl | assumption) rfl) rfl ?_ | refine x_q (stp_load_fpa tok rfl rfl rfl (by first | rfl | assumption) rfl) rfl ?_ | refine x_q (stp_load_arr1 tok rfl rfl rfl rfl (by first | rfl | assumption) rfl) rfl ?_ | refine x_q (stp_load_arra tok rfl rfl rfl rfl (by first | rfl | assumption) rfl) rfl ?_) | (refine is_fad ?_; first | refine x_q (stp_fieldAddr_arr tok rfl rfl rfl rfl rfl rfl rfl rfl) rfl ?_ | refine x_q (stp_fieldAddr_fp tok rfl (by first | rfl | assumption) rfl rfl rfl rfl rfl rfl) rfl ?_) | (refine is_app ?_; first | refine x_appref0 tok rfl rfl rfl rfl rfl rfl rfl (by first | (intro y hy; cases hy; rfl) | exact map_hd _ _ (fun _ => rfl)) rfl rfl rfl (by first | omega | (simp; done) | (simp; omega)) rfl ?_ | refine x_appref tok rfl rfl rfl rfl rfl rfl rfl rfl rfl rfl rfl (by first | (intro y hy; cases hy; rfl) | exact map_hd _ _ (fun _ => rfl)) (by first | omega | (simp; done) | (simp; omega)) rfl ?_) | (refine is_un ?_; first | refine x_q (stp_neg rfl ⟨by omega, by omega⟩) rfl ?_) | (refine is_conv ?_; first | refine x_q (stp_conv_in tok rfl rfl rfl rfl ⟨by omega, by omega⟩) rfl ?_ | refine x_q (stp_conv tok rfl rfl rfl rfl) rfl ?_ | refine x_q (stp_convStr tok rfl rfl rfl rfl rfl rfl rfl (by first | rfl | assumption)) rfl ?_) | (refine is_slc ?_; first | refine x_slcL tok rfl rfl rfl rfl rfl (by first | (intro y hy; cases hy; rfl) | exact map_hd _ _ (fun _ => rfl) | (simp; done)) (by omega) (by simp; omega) (by first | exact List.map_drop.symm | rfl) rfl ?_ | refine x_slcH tok rfl rfl rfl rfl rfl (by first | (intro y hy; cases hy; rfl) | exact map_hd _ _ (fun _ => rfl) | (simp; done)) (by omega) (by simp; omega) (by first | exact List.map_take.symm | rfl) rfl ?_) | (refine is_mks ?_; refine x_mks tok rfl rfl rfl rfl rfl rfl rfl rfl rfl rfl rfl rfl rfl (by omega) (by omega) rfl rfl rfl ?_) | refine x_autow tok rfl rfl rfl rfl ?_ | (refine is_sto ?_; first | refine x_autos tok rfl rfl rfl ?_ | refine x_stoa tok rfl rfl rfl (by first | rfl | assumption) rfl rfl rfl rfl rfl rfl ?_ | refine x_sto1 tok rfl rfl rfl (by first | rfl | assumption) rfl rfl rfl rfl rfl rfl rfl rfl ?_) | refine x_nil ?_ | refine x_nilD (by kernel_rfl) ?_) | (first | refine sim_seq ?_ | refine x_region ?_ | refine x_draw rfl ?_ | refine sim_cond_true rfl ?_ | refine sim_cond_false rfl ?_ | (refine sim_cond rfl (fun hc => ?_) (fun hc => ?_) <;> (try simp only [cmpB, decide_eq_true_eq, decide_eq_false_iff_not, beq_iff_eq, bne_iff_ne, ne_eq, Bool.not_eq_true, beq_eq_false_iff_ne, bne_eq_false_iff_eq, Int.not_lt, Int.not_le, Decidable.not_not] at hc)) | refine sim_skip ?_ | refine sim_ret ?_ | refine sim_exit ?_ | refine sim_block ?_)))); all_goals (first | exact fin_ret [] rfl rfl rfl rfl | (simp only [inF, decide_eq_false_iff_not] at hb; first | (exfalso; omega) | (apply fin_bool; (exact fin_ret [] rfl rfl rfl rfl); simp only [cmpB, decide_eq_false_iff_not, decide_eq_true_eq, beq_eq_false_iff_ne, bne_eq_false_iff_eq, beq_iff_eq, bne_iff_ne, ne_eq]; omega)))) | true => (simp only [inF, decide_eq_true_eq] at hb; (refine callSim_of tok Tryz.func102 rfl (fun args w => Tryz.call102 args w) rfl rfl rfl (fun F hF => ?_)); ((repeat' (first | (refine is_ops ?_; first | refine x_auto tok rfl rfl ?_ | (refine is_call ?_; fail) | (refine is_grd ?_; first | refine x_on rfl rfl ?_ | refine x_off rfl rfl rfl rfl ?_ | (refine x_gsplit rfl rfl (fun hc => ?_) (fun hc => ?_) <;> (try simp only [cmpB, decide_eq_true_eq, decide_eq_false_iff_not, beq_iff_eq, bne_iff_ne, ne_eq, Bool.not_eq_true, beq_eq_false_iff_ne, bne_eq_false_iff_eq, Int.not_lt, Int.not_le, Decidable.not_not] at hc))) | (refine is_bin ?_; first | refine x_q (stp_cmp_t rfl rfl rfl (by unfold cmpP; omega)) rfl ?_ | refine x_q (stp_cmp_f rfl rfl rfl (by unfold cmpP; omega)) rfl ?_ | refine x_q (stp_cmp rfl rfl rfl) rfl ?_ | refine x_q (stp_add rfl rfl ⟨by omega, by omega⟩) rfl ?_ | refine x_q (stp_sub rfl rfl ⟨by omega, by omega⟩) rfl ?_ | refine x_q (stp_mul rfl rfl ⟨by omega, by omega⟩) rfl ?_ | refine x_q (stp_quo rfl rfl (by assumption) (by omega)) rfl ?_ | refine x_q (stp_rem rfl rfl (by omega)) rfl ?_ | refine x_q (stp_xor rfl rfl) rfl ?_ | refine x_q (stp_shlI rfl rfl (by omega)) rfl ?_ | refine x_q (stp_shrI rfl rfl (by omega)) rfl ?_ | refine x_q (stp_shift (.inl ⟨rfl, rfl⟩) rfl rfl (by omega)) rfl ?_ | refine x_q (stp_shift (.inr ⟨rfl, rfl⟩) rfl rfl (by omega)) rfl ?_ | refine x_q (stp_bool2 tok rfl rfl rfl rfl (.inl ⟨rfl, rfl⟩)) rfl ?_ | refine x_q (stp_bool2 tok rfl rfl rfl rfl (.inr ⟨rfl, rfl⟩)) rfl ?_ | refine x_q (stp_eqlNil tok (.inl ⟨rfl, rfl⟩) rfl rfl rfl) rfl ?_ | refine x_q (stp_eqlNil_not tok (.inl ⟨rfl, rfl⟩) rfl rfl rfl rfl) rfl ?_ | refine x_q (stp_andI rfl rfl) rfl ?_ | refine x_q (stp_orI rfl rfl) rfl ?_ | refine x_q (stp_bicI rfl rfl) rfl ?_ | refine x_q (stp_strEqV rfl rfl (by assumption)) rfl ?_ | refine x_q (stp_strEq rfl rfl) rfl ?_ | refine x_q (stp_strNeV rfl rfl (by assumption)) rfl ?_ | refine x_q (stp_strNe rfl rfl) rfl ?_) | (refine is_idx ?_; first | refine x_q (stp_indexAddr_sl tok rfl rfl rfl rfl rfl (by omega) (by first | rfl | assumption) rfl rfl) rfl ?_ | refine x_q (stp_indexAddr_r0 tok rfl rfl rfl rfl rfl rfl (by omega) (by omega) rfl) rfl ?_ | refine x_q (stp_indexAddr_box tok rfl rfl rfl rfl rfl rfl (by omega) (by omega)) rfl ?_) | (refine is_load ?_; first | refine x_q (stp_load_fp1 tok rfl rfl rfl (by first | rfl | assumption) rfl) rfl ?_ | refine x_q (stp_load_fpa tok rfl rfl rfl (by first | rfl | assumption) rfl) rfl ?_ | refine x_q (stp_load_arr1 tok rfl rfl rfl rfl (by first | rfl | assumption) rfl) rfl ?_ | refine x_q (stp_load_arra tok rfl rfl rfl rfl (by first | rfl | assumption) rfl) rfl ?_) | (refine is_fad ?_; first | refine x_q (stp_fieldAddr_arr tok rfl rfl rfl rfl rfl rfl rfl rfl) rfl ?_ | refine x_q (stp_fieldAddr_fp tok rfl (by first | rfl | assumption) rfl rfl rfl rfl rfl rfl) rfl ?_) | (refine is_app ?_; first | refine x_appref0 tok rfl rfl rfl rfl rfl rfl rfl (by first | (intro y hy; cases hy; rfl) | exact map_hd _ _ (fun _ => rfl)) rfl rfl rfl (by first | omega | (simp; done) | (simp; omega)) rfl ?_ | refine x_appref tok rfl rfl rfl rfl rfl rfl rfl rfl rfl rfl rfl (by first | (intro y hy; cases hy; rfl) | exact map_hd _ _ (fun _ => rfl)) (by first | omega | (simp; done) | (simp; omega)) rfl ?_) | (refine is_un ?_; first | refine x_q (stp_neg rfl ⟨by omega, by omega⟩) rfl ?_) | (refine is_conv ?_; first | refine x_q (stp_conv_in tok rfl rfl rfl rfl ⟨by omega, by omega⟩) rfl ?_ | refine x_q (stp_conv tok rfl rfl rfl rfl) rfl ?_ | refine x_q (stp_convStr tok rfl rfl rfl rfl rfl rfl rfl (by first | rfl | assumption)) rfl ?_) | (refine is_slc ?_; first | refine x_slcL tok rfl rfl rfl rfl rfl (by first | (intro y hy; cases hy; rfl) | exact map_hd _ _ (fun _ => rfl) | (simp; done)) (by omega) (by simp; omega) (by first | exact List.map_drop.symm | rfl) rfl ?_ | refine x_slcH tok rfl rfl rfl rfl rfl (by first | (intro y hy; cases hy; rfl) | exact map_hd _ _ (fun _ => rfl) | (simp; done)) (by omega) (by simp; omega) (by first | exact List.map_take.symm | rfl) rfl ?_) | (refine is_mks ?_; refine x_mks tok rfl rfl rfl rfl rfl rfl rfl rfl rfl rfl rfl rfl rfl (by omega) (by omega) rfl rfl rfl ?_) | refine x_autow tok rfl rfl rfl rfl ?_ | (refine is_sto ?_; first | refine x_autos tok rfl rfl rfl ?_ | refine x_stoa tok rfl rfl rfl (by first | rfl | assumption) rfl rfl rfl rfl rfl rfl ?_ | refine x_sto1 tok rfl rfl rfl (by first | rfl | assumption) rfl rfl rfl rfl rfl rfl rfl rfl ?_) | refine x_nil ?_ | refine x_nilD (by kernel_rfl) ?_) | (first | refine sim_seq ?_ | refine x_region ?_ | refine x_draw rfl ?_ | refine sim_cond_true rfl ?_ | refine sim_cond_false rfl ?_ | (refine sim_cond rfl (fun hc => ?_) (fun hc => ?_) <;> (try simp only [cmpB, decide_eq_true_eq, decide_eq_false_iff_not, beq_iff_eq, bne_iff_ne, ne_eq, Bool.not_eq_true, beq_eq_false_iff_ne, bne_eq_false_iff_eq, Int.not_lt, Int.not_le, Decidable.not_not] at hc)) | refine sim_skip ?_ | refine sim_ret ?_ | refine sim_exit ?_ | refine sim_block ?_)))); all_goals (first | exact fin_ret [] rfl rfl rfl rfl | (exfalso; omega) | (apply fin_bool; (exact fin_ret [] rfl rfl rfl rfl); simp only [cmpB, decide_eq_false_iff_not, decide_eq_true_eq, beq_eq_false_iff_ne, bne_eq_false_iff_eq, beq_iff_eq, bne_iff_ne, ne_eq]; omega))))
def avL (a : Ag) : Bool := a.lim.all fun n => inF n 0 8
def avF (a : Ag) : Bool := decide ((a.sec.length : Int) = 8 ∧ (a.lim.length : Int) = 4) && (avL a && (inF a.rights 0 63 && (inF a.cls 0 3 && (inF a.req 0 4 && (inF a.ses 1 2 && (inF a.burst 0 1000 && inF a.rate 0 a.burst))))))
theorem avL_t {a : Ag} (h : ∀ s : Nat, s < a.lim.length → inF (a.lim.getD s default) 0 8 = true) : avL a = true := by
  unfold avL
  rw [List.all_eq_true]
  intro x hx
  obtain ⟨i, hi, rfl⟩ := List.getElem_of_mem hx
  have := h i hi
  simpa [List.getD, hi] using this
theorem avL_f {a : Ag} {i : Nat} (hi : i < a.lim.length) (h : inF (a.lim.getD i default) 0 8 = false) : avL a = false := by
  unfold avL
  rw [List.all_eq_false]
  exact ⟨a.lim.getD i default, by simp [List.getD, hi], by rw [h]; decide⟩
theorem avF_iff (a : Ag) : avF a = true ↔ AgV a := by
  unfold avF avL inF
  simp only [Bool.and_eq_true, decide_eq_true_eq, List.all_eq_true]
  constructor
  · rintro ⟨⟨h1, h2⟩, h3, h4, h5, h6, h7, h8, h9⟩
    exact ⟨h1, h2, h3, h4, h5, h6, h7, h8, h9⟩
  · rintro ⟨h1, h2, h3, h4, h5, h6, h7, h8, h9⟩
    exact ⟨⟨h1, h2⟩, h3, h4, h5, h6, h7, h8, h9⟩
theorem pagency_x (a : Ag) : CallSim Tryz.prog 49 [agA a] [] (bA (avF a)) [] := by
  have hs := map_len yA a.sec
  have hl := map_len iA a.lim
  have c1 := pwithin_c a.rights 0 63
  have c2 := pwithin_c a.cls 0 3
  have c3 := pwithin_c a.req 0 4
  have c4 := pwithin_c a.ses 1 2
  have c5 := pwithin_c a.burst 0 1000
  have c6 := pwithin_c a.rate 0 a.burst
  by_cases h1 : (a.sec.length : Int) = 8 ∧ (a.lim.length : Int) = 4
  case neg =>
    have e : avF a = false := by unfold avF; rw [decide_eq_false h1]; rfl
    rw [e]
    by_cases g1 : (a.sec.length : Int) = 8
    · (refine callSim_of tok Tryz.func49 rfl (fun args w => Tryz.call49 args w) rfl rfl rfl (fun F hF => ?_))
      (refine WW ?_)
      exact fin_ret [] rfl rfl rfl rfl
    · (refine callSim_of tok Tryz.func49 rfl (fun args w => Tryz.call49 args w) rfl rfl rfl (fun F hF => ?_))
      (refine WW ?_)
      exact fin_ret [] rfl rfl rfl rfl
  obtain ⟨h1, h2⟩ := h1
  have e : avF a = (avL a && (inF a.rights 0 63 && (inF a.cls 0 3 && (inF a.req 0 4 && (inF a.ses 1 2 && (inF a.burst 0 1000 && inF a.rate 0 a.burst)))))) := by
    unfold avF
    rw [decide_eq_true ⟨h1, h2⟩, Bool.true_and]
  rw [e]
  (refine callSim_of tok Tryz.func49 rfl (fun args w => Tryz.call49 args w) rfl rfl rfl (fun F hF => ?_))
  (refine WW ?_)
  (refine sim_cntP (a.lim.length) [1] [1] [1, 16, 17] [18, 1, 16, 17] rfl (fun i T U zs => (∀ s : Nat, s < i → inF (a.lim.getD s default) 0 8 = true) ∧ zs = ⟨(18, iA i) :: T, U⟩) ?_; (conv => whnf); refine ⟨?_, ?_, ?_⟩)
  · exact ⟨fun s hs => absurd hs (Nat.not_lt_zero _), rfl⟩
  · rintro i st hi ⟨hp, rfl⟩
    have hy := map_at iA a.lim i hi
    have c := pwithin_c (a.lim.getD i default) 0 8
    cases hq : inF (a.lim.getD i default) 0 8 with
    | true =>
      rw [hq] at c
      have hp2 : ∀ s : Nat, s < i + 1 → inF (a.lim.getD s default) 0 8 = true := fun s hs => by
        by_cases hsi : s = i
        · subst hsi; assumption
        · exact hp s (by omega)
      clear hq hp
      generalize hx : a.lim.getD i default = x at *
      clear hx
      (have zc1 := c; refine WW ?_; clear zc1)
      exact ⟨hp2, rfl⟩
    | false =>
      rw [hq] at c
      rw [avL_f hi hq, Bool.false_and]
      generalize a.lim.getD i default = x at *
      (have zc1 := c; refine WW ?_; clear zc1)
      exact fin_ret [] rfl rfl rfl rfl
  · rintro st ⟨hp, rfl⟩
    rw [avL_t hp, Bool.true_and]
    clear hp
    generalize inF a.rights 0 63 = q1 at *
    generalize inF a.cls 0 3 = q2 at *
    generalize inF a.req 0 4 = q3 at *
    generalize inF a.ses 1 2 = q4 at *
    generalize inF a.burst 0 1000 = q5 at *
    generalize inF a.rate 0 a.burst = q6 at *
    cases q1
    · (have zc1 := c1; refine WW ?_; clear zc1)
      exact fin_ret [] rfl rfl rfl rfl
    cases q2
    · (have zc1 := c1; have zc2 := c2; refine WW ?_; clear zc1 zc2)
      exact fin_ret [] rfl rfl rfl rfl
    cases q3
    · (have zc1 := c1; have zc2 := c2; have zc3 := c3; refine WW ?_; clear zc1 zc2 zc3)
      exact fin_ret [] rfl rfl rfl rfl
    cases q4
    · (have zc1 := c1; have zc2 := c2; have zc3 := c3; have zc4 := c4; refine WW ?_; clear zc1 zc2 zc3 zc4)
      exact fin_ret [] rfl rfl rfl rfl
    cases q5
    · (have zc1 := c1; have zc2 := c2; have zc3 := c3; have zc4 := c4; have zc5 := c5; refine WW ?_; clear zc1 zc2 zc3 zc4 zc5)
      exact fin_ret [] rfl rfl rfl rfl
    · (have zc1 := c1; have zc2 := c2; have zc3 := c3; have zc4 := c4; have zc5 := c5; have zc6 := c6; refine WW ?_; clear zc1 zc2 zc3 zc4 zc5 zc6)
      exact fin_ret [] rfl rfl rfl rfl
theorem vvalid_x (l : List Vh) (hn : l.length ≤ 1000000) : CallSim Tryz.prog 51 [slA vhA l] [] (bA (vvF l)) [] := by
  have hl := map_len vhA l
  by_cases h8 : (l.length : Int) ≤ 8
  case neg =>
    have e : vvF l = false := by unfold vvF; rw [decide_eq_false h8, Bool.and_false]
    rw [e]
    (refine callSim_of tok Tryz.func51 rfl (fun args w => Tryz.call51 args w) rfl rfl rfl (fun F hF => ?_))
    (refine WW ?_)
    exact fin_ret [] rfl rfl rfl rfl
  (refine callSim_of tok Tryz.func51 rfl (fun args w => Tryz.call51 args w) rfl rfl rfl (fun F hF => ?_))
  (refine WW ?_)
  (refine sim_cntP (l.length) [] [] [0, 8, 9] [10, 0, 8, 9] rfl (fun i T U zs => (∀ s : Nat, s < i → vokF l s = true) ∧ zs = ⟨(10, iA i) :: T, U⟩) ?_; (conv => whnf); refine ⟨?_, ?_, ?_⟩)
  · exact ⟨fun s hs => absurd hs (Nat.not_lt_zero _), rfl⟩
  · rintro i st hi ⟨hp, rfl⟩
    have next : vokF l i = true → ∀ s : Nat, s < i + 1 → vokF l s = true := fun h s hs => by
      by_cases hsi : s = i
      · subst hsi; exact h
      · exact hp s (by omega)
    have stop := fun h => vvF_no (l := l) hi h
    have hy := map_at vhA l i hi
    have htok : vokF l i = _ := rfl
    conv at htok => rhs; unfold vokF
    by_cases hi0 : 0 < i
    · have hyp := map_atI vhA l ((i : Int) - 1) (by omega) (by omega)
      rw [show ((i : Int) - 1).toNat = i - 1 by omega] at hyp
      have hyq : (l.map vhA)[((i : Int) - 1).toNat]? = some (vhA (l.getD (i - 1) default)) := by rw [show ((i : Int) - 1).toNat = i - 1 by omega]; exact hyp
      clear hyp
      generalize l.getD i default = t at *
      generalize l.getD (i - 1) default = p at *
      generalize vokF l i = tk at *
      by_cases h1 : 0 ≤ t.id ∧ t.id ≤ 4294967295 ∧ 0 ≤ t.cls ∧ t.cls ≤ 3 ∧ p.id < t.id
      · obtain ⟨h1, h2, h3, h4, h5⟩ := h1
        rw [decide_eq_true ⟨h1, h2, h3, h4, fun _ => h5⟩] at htok
        (refine WW ?_)
        exact ⟨next htok, rfl⟩
      · rw [decide_eq_false (fun h => h1 ⟨h.1, h.2.1, h.2.2.1, h.2.2.2.1, h.2.2.2.2 hi0⟩)] at htok
        rw [stop htok]
        by_cases g1 : 0 ≤ t.id <;> by_cases g2 : t.id ≤ 4294967295 <;> by_cases g3 : 0 ≤ t.cls <;> by_cases g4 : t.cls ≤ 3 <;> by_cases g5 : p.id < t.id <;> first | (exfalso; exact h1 ⟨g1, g2, g3, g4, g5⟩) | (exfalso; omega; done) | (clear h1; ((refine WW ?_)); exact fin_ret [] rfl rfl rfl rfl)
    · obtain rfl : i = 0 := by omega
      generalize l.getD 0 default = t at *
      generalize vokF l 0 = tk at *
      by_cases h1 : 0 ≤ t.id ∧ t.id ≤ 4294967295 ∧ 0 ≤ t.cls ∧ t.cls ≤ 3
      · obtain ⟨h1, h2, h3, h4⟩ := h1
        rw [decide_eq_true ⟨h1, h2, h3, h4, fun h => absurd h hi0⟩] at htok
        (refine WW ?_)
        exact ⟨next htok, rfl⟩
      · rw [decide_eq_false (fun h => h1 ⟨h.1, h.2.1, h.2.2.1, h.2.2.2.1⟩)] at htok
        rw [stop htok]
        by_cases g1 : 0 ≤ t.id <;> by_cases g2 : t.id ≤ 4294967295 <;> by_cases g3 : 0 ≤ t.cls <;> by_cases g4 : t.cls ≤ 3 <;> first | (exfalso; exact h1 ⟨g1, g2, g3, g4⟩) | (exfalso; omega; done) | (clear h1; ((refine WW ?_)); exact fin_ret [] rfl rfl rfl rfl)
  · rintro st ⟨hp, rfl⟩
    have e : ((List.range l.length).all fun i => vokF l i) = true := List.all_eq_true.2 fun i hi => hp i (List.mem_range.1 hi)
    unfold vvF
    rw [e, Bool.true_and]
    rw [decide_eq_true h8]
    (refine WW ?_)
    exact fin_ret [] rfl rfl rfl rfl
theorem ragency_x (a : Ag) : CallSim Tryz.prog 69 [agA a] [] (bA (avF a)) [] := by
  have hs := map_len yA a.sec
  have hl := map_len iA a.lim
  have c1 := rwithin_c a.rights 0 63
  have c2 := rwithin_c a.cls 0 3
  have c3 := rwithin_c a.req 0 4
  have c4 := rwithin_c a.ses 1 2
  have c5 := rwithin_c a.burst 0 1000
  have c6 := rwithin_c a.rate 0 a.burst
  have e : avF a = (decide ((a.sec.length : Int) = 8 ∧ (a.lim.length : Int) = 4) && (avL a && (inF a.rights 0 63 && (inF a.cls 0 3 && (inF a.req 0 4 && (inF a.ses 1 2 && (inF a.burst 0 1000 && inF a.rate 0 a.burst))))))) := rfl
  rw [e]
  generalize inF a.rights 0 63 = q1 at *
  generalize inF a.cls 0 3 = q2 at *
  generalize inF a.req 0 4 = q3 at *
  generalize inF a.ses 1 2 = q4 at *
  generalize inF a.burst 0 1000 = q5 at *
  generalize inF a.rate 0 a.burst = q6 at *
  clear e
  by_cases h1 : (a.sec.length : Int) = 8
  case neg =>
    rw [decide_eq_false (fun h => h1 h.1), Bool.false_and]
    (refine callSim_of tok Tryz.func69 rfl (fun args w => Tryz.call69 args w) rfl rfl rfl (fun F hF => ?_))
    (refine WW ?_)
    exact fin_ret [] rfl rfl rfl rfl
  cases q1 with
  | false =>
    rw [Bool.false_and, Bool.and_false, Bool.and_false]
    (refine callSim_of tok Tryz.func69 rfl (fun args w => Tryz.call69 args w) rfl rfl rfl (fun F hF => ?_))
    (have zc1 := c1; refine WW ?_; clear zc1)
    exact fin_ret [] rfl rfl rfl rfl
  | true =>
  cases q2 with
  | false =>
    rw [Bool.false_and, Bool.and_false, Bool.and_false, Bool.and_false]
    (refine callSim_of tok Tryz.func69 rfl (fun args w => Tryz.call69 args w) rfl rfl rfl (fun F hF => ?_))
    (have zc1 := c1; have zc2 := c2; refine WW ?_; clear zc1 zc2)
    exact fin_ret [] rfl rfl rfl rfl
  | true =>
  by_cases h2 : (a.lim.length : Int) = 4
  case neg =>
    rw [decide_eq_false (fun h => h2 h.2), Bool.false_and]
    (refine callSim_of tok Tryz.func69 rfl (fun args w => Tryz.call69 args w) rfl rfl rfl (fun F hF => ?_))
    (have zc1 := c1; have zc2 := c2; refine WW ?_; clear zc1 zc2)
    exact fin_ret [] rfl rfl rfl rfl
  rw [decide_eq_true ⟨h1, h2⟩, Bool.true_and, Bool.true_and, Bool.true_and]
  (refine callSim_of tok Tryz.func69 rfl (fun args w => Tryz.call69 args w) rfl rfl rfl (fun F hF => ?_))
  (have zc1 := c1; have zc2 := c2; refine WW ?_; clear zc1 zc2)
  (refine sim_cntP (a.lim.length) [1] [1] [1, 28, 29] [30, 1, 28, 29] rfl (fun i T U zs => (∀ s : Nat, s < i → inF (a.lim.getD s default) 0 8 = true) ∧ zs = ⟨(30, iA i) :: T, U⟩) ?_; (conv => whnf); refine ⟨?_, ?_, ?_⟩)
  · exact ⟨fun s hs => absurd hs (Nat.not_lt_zero _), rfl⟩
  · rintro i st hi ⟨hp, rfl⟩
    have hy := map_at iA a.lim i hi
    have c := rwithin_c (a.lim.getD i default) 0 8
    clear c1 c2 c3 c4 c5 c6
    cases hq : inF (a.lim.getD i default) 0 8 with
    | true =>
      rw [hq] at c
      have hp2 : ∀ s : Nat, s < i + 1 → inF (a.lim.getD s default) 0 8 = true := fun s hs => by
        by_cases hsi : s = i
        · subst hsi; assumption
        · exact hp s (by omega)
      clear hq hp
      generalize hx : a.lim.getD i default = x at *
      clear hx
      (have zc1 := c; refine WW ?_; clear zc1)
      exact ⟨hp2, rfl⟩
    | false =>
      rw [hq] at c
      rw [avL_f hi hq, Bool.false_and]
      generalize a.lim.getD i default = x at *
      (have zc1 := c; refine WW ?_; clear zc1)
      exact fin_ret [] rfl rfl rfl rfl
  · rintro st ⟨hp, rfl⟩
    rw [avL_t hp, Bool.true_and]
    clear hp c1 c2
    cases q3
    · (have zc1 := c3; refine WW ?_; clear zc1)
      exact fin_ret [] rfl rfl rfl rfl
    cases q4
    · (have zc1 := c3; have zc2 := c4; refine WW ?_; clear zc1 zc2)
      exact fin_ret [] rfl rfl rfl rfl
    cases q5
    · (have zc1 := c3; have zc2 := c4; have zc3 := c5; refine WW ?_; clear zc1 zc2 zc3)
      exact fin_ret [] rfl rfl rfl rfl
    · (have zc1 := c3; have zc2 := c4; have zc3 := c5; have zc4 := c6; refine WW ?_; clear zc1 zc2 zc3 zc4)
      exact fin_ret [] rfl rfl rfl rfl
def gvF (r : Rg) : Bool := decide (0 ≤ r.num ∧ r.num < 4) && (avF r.ag && (tvF r.tk && (vvF r.vh && (bvF r.bk && decide (r.bk.rate = r.ag.rate ∧ r.bk.burst = r.ag.burst)))))
theorem gvalid_x (r : Rg) (hv : r.vh.length ≤ 1000000) : CallSim Tryz.prog 19 [rgA r] [] (bA (gvF r)) [] := by
  have c1 := pagency_x r.ag
  have c2 := tvalid_c r.tk
  have c3 := vvalid_x r.vh hv
  have c4 := bvalid_c r.bk
  unfold gvF
  generalize avF r.ag = q1 at *
  generalize tvF r.tk = q2 at *
  generalize vvF r.vh = q3 at *
  generalize bvF r.bk = q4 at *
  by_cases h1 : 0 ≤ r.num
  case neg =>
    rw [decide_eq_false (fun h => h1 h.1)]
    (refine callSim_of tok Tryz.func19 rfl (fun args w => Tryz.call19 args w) rfl rfl rfl (fun F hF => ?_))
    (refine WW ?_)
    exact fin_ret [] rfl rfl rfl rfl
  by_cases h2 : r.num < 4
  case neg =>
    rw [decide_eq_false (fun h => h2 h.2)]
    (refine callSim_of tok Tryz.func19 rfl (fun args w => Tryz.call19 args w) rfl rfl rfl (fun F hF => ?_))
    (refine WW ?_)
    exact fin_ret [] rfl rfl rfl rfl
  rw [decide_eq_true ⟨h1, h2⟩]
  cases q1 with
  | false =>
    (refine callSim_of tok Tryz.func19 rfl (fun args w => Tryz.call19 args w) rfl rfl rfl (fun F hF => ?_))
    (have zc1 := c1; refine WW ?_; clear zc1)
    exact fin_ret [] rfl rfl rfl rfl
  | true =>
  cases q2 with
  | false =>
    (refine callSim_of tok Tryz.func19 rfl (fun args w => Tryz.call19 args w) rfl rfl rfl (fun F hF => ?_))
    (have zc1 := c1; have zc2 := c2; refine WW ?_; clear zc1 zc2)
    exact fin_ret [] rfl rfl rfl rfl
  | true =>
  cases q3 with
  | false =>
    (refine callSim_of tok Tryz.func19 rfl (fun args w => Tryz.call19 args w) rfl rfl rfl (fun F hF => ?_))
    (have zc1 := c1; have zc2 := c2; have zc3 := c3; refine WW ?_; clear zc1 zc2 zc3)
    exact fin_ret [] rfl rfl rfl rfl
  | true =>
  cases q4 with
  | false =>
    (refine callSim_of tok Tryz.func19 rfl (fun args w => Tryz.call19 args w) rfl rfl rfl (fun F hF => ?_))
    (have zc1 := c1; have zc2 := c2; have zc3 := c3; have zc4 := c4; refine WW ?_; clear zc1 zc2 zc3 zc4)
    exact fin_ret [] rfl rfl rfl rfl
  | true =>
  by_cases h3 : r.bk.rate = r.ag.rate
  case neg =>
    rw [decide_eq_false (fun h => h3 h.1)]
    (refine callSim_of tok Tryz.func19 rfl (fun args w => Tryz.call19 args w) rfl rfl rfl (fun F hF => ?_))
    (have zc1 := c1; have zc2 := c2; have zc3 := c3; have zc4 := c4; refine WW ?_; clear zc1 zc2 zc3 zc4)
    exact fin_ret [] rfl rfl rfl rfl
  by_cases h4 : r.bk.burst = r.ag.burst
  · rw [decide_eq_true ⟨h3, h4⟩]
    (refine callSim_of tok Tryz.func19 rfl (fun args w => Tryz.call19 args w) rfl rfl rfl (fun F hF => ?_))
    (have zc1 := c1; have zc2 := c2; have zc3 := c3; have zc4 := c4; refine WW ?_; clear zc1 zc2 zc3 zc4)
    all_goals (first | exact fin_ret [] rfl rfl rfl rfl | (apply fin_bool; (exact fin_ret [] rfl rfl rfl rfl); simp only [cmpB, decide_eq_false_iff_not, decide_eq_true_eq, beq_eq_false_iff_ne, bne_eq_false_iff_eq, beq_iff_eq, bne_iff_ne, ne_eq]; omega))
  · rw [decide_eq_false (fun h => h4 h.2)]
    (refine callSim_of tok Tryz.func19 rfl (fun args w => Tryz.call19 args w) rfl rfl rfl (fun F hF => ?_))
    (have zc1 := c1; have zc2 := c2; have zc3 := c3; have zc4 := c4; refine WW ?_; clear zc1 zc2 zc3 zc4)
    all_goals (first | exact fin_ret [] rfl rfl rfl rfl | (apply fin_bool; (exact fin_ret [] rfl rfl rfl rfl); simp only [cmpB, decide_eq_false_iff_not, decide_eq_true_eq, beq_eq_false_iff_ne, bne_eq_false_iff_eq, beq_iff_eq, bne_iff_ne, ne_eq]; omega))
theorem gvalid2_c (r : Rg) (hv : r.vh.length ≤ 1000000) : CallSim Tryz.prog 33 [rgA r] [] (bA (gvF r)) [] := by
  have c1 := ragency_x r.ag
  have c2 := tvalid2_c r.tk
  have c3 := vvalid2_c r.vh hv
  have c4 := bvalid2_c r.bk
  unfold gvF
  rw [tv_eq]
  generalize avF r.ag = q1 at *
  generalize tv2F r.tk = q2 at *
  generalize vvF r.vh = q3 at *
  generalize bvF r.bk = q4 at *
  by_cases h1 : 0 ≤ r.num
  case neg =>
    rw [decide_eq_false (fun h => h1 h.1)]
    (refine callSim_of tok Tryz.func33 rfl (fun args w => Tryz.call33 args w) rfl rfl rfl (fun F hF => ?_))
    (refine WW ?_)
    exact fin_ret [] rfl rfl rfl rfl
  by_cases h2 : r.num < 4
  case neg =>
    rw [decide_eq_false (fun h => h2 h.2)]
    (refine callSim_of tok Tryz.func33 rfl (fun args w => Tryz.call33 args w) rfl rfl rfl (fun F hF => ?_))
    (refine WW ?_)
    exact fin_ret [] rfl rfl rfl rfl
  rw [decide_eq_true ⟨h1, h2⟩]
  cases q1 with
  | false =>
    (refine callSim_of tok Tryz.func33 rfl (fun args w => Tryz.call33 args w) rfl rfl rfl (fun F hF => ?_))
    (have zc1 := c1; refine WW ?_; clear zc1)
    exact fin_ret [] rfl rfl rfl rfl
  | true =>
  cases q2 with
  | false =>
    (refine callSim_of tok Tryz.func33 rfl (fun args w => Tryz.call33 args w) rfl rfl rfl (fun F hF => ?_))
    (have zc1 := c1; have zc2 := c2; refine WW ?_; clear zc1 zc2)
    exact fin_ret [] rfl rfl rfl rfl
  | true =>
  cases q3 with
  | false =>
    (refine callSim_of tok Tryz.func33 rfl (fun args w => Tryz.call33 args w) rfl rfl rfl (fun F hF => ?_))
    (have zc1 := c1; have zc2 := c2; have zc3 := c3; refine WW ?_; clear zc1 zc2 zc3)
    exact fin_ret [] rfl rfl rfl rfl
  | true =>
  cases q4 with
  | false =>
    (refine callSim_of tok Tryz.func33 rfl (fun args w => Tryz.call33 args w) rfl rfl rfl (fun F hF => ?_))
    (have zc1 := c1; have zc2 := c2; have zc3 := c3; have zc4 := c4; refine WW ?_; clear zc1 zc2 zc3 zc4)
    exact fin_ret [] rfl rfl rfl rfl
  | true =>
  by_cases h3 : r.bk.rate = r.ag.rate
  case neg =>
    rw [decide_eq_false (fun h => h3 h.1)]
    (refine callSim_of tok Tryz.func33 rfl (fun args w => Tryz.call33 args w) rfl rfl rfl (fun F hF => ?_))
    (have zc1 := c1; have zc2 := c2; have zc3 := c3; have zc4 := c4; refine WW ?_; clear zc1 zc2 zc3 zc4)
    exact fin_ret [] rfl rfl rfl rfl
  by_cases h4 : r.bk.burst = r.ag.burst
  · rw [decide_eq_true ⟨h3, h4⟩]
    (refine callSim_of tok Tryz.func33 rfl (fun args w => Tryz.call33 args w) rfl rfl rfl (fun F hF => ?_))
    (have zc1 := c1; have zc2 := c2; have zc3 := c3; have zc4 := c4; refine WW ?_; clear zc1 zc2 zc3 zc4)
    all_goals (first | exact fin_ret [] rfl rfl rfl rfl | (apply fin_bool; (exact fin_ret [] rfl rfl rfl rfl); simp only [cmpB, decide_eq_false_iff_not, decide_eq_true_eq, beq_eq_false_iff_ne, bne_eq_false_iff_eq, beq_iff_eq, bne_iff_ne, ne_eq]; omega))
  · rw [decide_eq_false (fun h => h4 h.2)]
    (refine callSim_of tok Tryz.func33 rfl (fun args w => Tryz.call33 args w) rfl rfl rfl (fun F hF => ?_))
    (have zc1 := c1; have zc2 := c2; have zc3 := c3; have zc4 := c4; refine WW ?_; clear zc1 zc2 zc3 zc4)
    all_goals (first | exact fin_ret [] rfl rfl rfl rfl | (apply fin_bool; (exact fin_ret [] rfl rfl rfl rfl); simp only [cmpB, decide_eq_false_iff_not, decide_eq_true_eq, beq_eq_false_iff_ne, bne_eq_false_iff_eq, beq_iff_eq, bne_iff_ne, ne_eq]; omega))
end Av
end Go.Proofs.YtjbldhhgooihfaaGreat
