
/- Rings: conflicts, lamps, the phases of a ring one by one. -/
import Derived.Test.YtkliodbbcblobaaGreatRiP
namespace Go.Proofs.YtkliodbbcblobaaGreat
namespace Av
set_option linter.unusedSimpArgs false
set_option linter.unusedVariables false
set_option maxRecDepth 4000
set_option maxHeartbeats 1000000
theorem conf_c (rows : List Int) (hn : rows.length ≤ 40) (p q : Int) : CallSim Tryz.prog 60 [slA iA rows, iA p, iA q] [] (bA (cfP rows p q)) [] := by
  have hl := map_len iA rows
  unfold cfP
  by_cases h1 : 0 ≤ p
  case neg =>
    rw [decide_eq_false (fun h => h1 h.1)]
    (refine callSim_of tok Tryz.func60 rfl (fun args w => Tryz.call60 args w) rfl rfl rfl (fun F hF => ?_))
    (refine WW ?_)
    exact fin_ret [] rfl rfl rfl rfl
  by_cases h2 : 0 ≤ q
  case neg =>
    rw [decide_eq_false (fun h => h2 h.2.1)]
    (refine callSim_of tok Tryz.func60 rfl (fun args w => Tryz.call60 args w) rfl rfl rfl (fun F hF => ?_))
    (refine WW ?_)
    exact fin_ret [] rfl rfl rfl rfl
  by_cases h3 : p < rows.length
  case neg =>
    rw [decide_eq_false (fun h => h3 h.2.2.1)]
    (refine callSim_of tok Tryz.func60 rfl (fun args w => Tryz.call60 args w) rfl rfl rfl (fun F hF => ?_))
    (refine WW ?_)
    exact fin_ret [] rfl rfl rfl rfl
  by_cases h4 : q < rows.length
  case neg =>
    rw [decide_eq_false (fun h => h4 h.2.2.2)]
    (refine callSim_of tok Tryz.func60 rfl (fun args w => Tryz.call60 args w) rfl rfl rfl (fun F hF => ?_))
    (refine WW ?_)
    exact fin_ret [] rfl rfl rfl rfl
  rw [decide_eq_true ⟨h1, h2, h3, h4⟩, Bool.true_and]
  have hy := map_atI iA rows p h1 h3
  generalize rows.getD p.toNat default = x at *
  by_cases h5 : andI (shrI x q) 1 = 1
  · rw [show (andI (shrI x q) 1 == 1) = true by rw [beq_iff_eq]; exact h5]
    (refine callSim_of tok Tryz.func60 rfl (fun args w => Tryz.call60 args w) rfl rfl rfl (fun F hF => ?_))
    (refine WW ?_)
    exact fin_ret [] rfl rfl rfl rfl
  · rw [show (andI (shrI x q) 1 == 1) = false by rw [beq_eq_false_iff_ne]; exact h5]
    (refine callSim_of tok Tryz.func60 rfl (fun args w => Tryz.call60 args w) rfl rfl rfl (fun F hF => ?_))
    (refine WW ?_)
    exact fin_ret [] rfl rfl rfl rfl
/-- The numbers of a phase that are added. -/
def PhB (p : Ph) : Prop := 0 ≤ p.walk ∧ p.walk ≤ 60 ∧ 0 ≤ p.clear ∧ p.clear ≤ 60
theorem lneed_c (p : Ph) (h : PhB p) : CallSim Tryz.prog 91 [phA p] [] (iA (lnF p)) [] := by
  obtain ⟨h1, h2, h3, h4⟩ := h
  (refine callSim_of tok Tryz.func91 rfl (fun args w => Tryz.call91 args w) rfl rfl rfl (fun F hF => ?_))
  (refine WW ?_)
  exact fin_ret [] rfl rfl rfl rfl
theorem lstep_c (p : Ph) (h : PhB p) (l : Li) (ht : -1000000000000 ≤ l.tk ∧ l.tk ≤ 1000000000000) (lv : Bool) : CallSim Tryz.prog 61 [phA p, liA l, bA lv] [] (liA (lpF p l lv)) [] := by
  have c := lneed_c p h
  unfold lpF
  by_cases h1 : l.lamp = 1
  · rw [if_pos h1]
    generalize lnF p = n at *
    cases lv with
    | false =>
      rw [if_neg (fun h => by cases h.1)]
      (refine callSim_of tok Tryz.func61 rfl (fun args w => Tryz.call61 args w) rfl rfl rfl (fun F hF => ?_))
      (refine WW ?_)
      exact fin_ret [] rfl rfl rfl rfl
    | true =>
    by_cases h2 : n ≤ l.tk + 1
    · rw [if_pos ⟨rfl, h2⟩]
      (refine callSim_of tok Tryz.func61 rfl (fun args w => Tryz.call61 args w) rfl rfl rfl (fun F hF => ?_))
      (have zc1 := c; refine WW ?_; clear zc1)
      exact fin_ret [] rfl rfl rfl rfl
    · rw [if_neg (fun h => h2 h.2)]
      (refine callSim_of tok Tryz.func61 rfl (fun args w => Tryz.call61 args w) rfl rfl rfl (fun F hF => ?_))
      (have zc1 := c; refine WW ?_; clear zc1)
      exact fin_ret [] rfl rfl rfl rfl
  rw [if_neg h1]
  by_cases h2 : l.lamp = 2
  · rw [if_pos h2]
    by_cases h3 : l.tk + 1 < p.yel
    · rw [if_pos h3]
      (refine callSim_of tok Tryz.func61 rfl (fun args w => Tryz.call61 args w) rfl rfl rfl (fun F hF => ?_))
      (refine WW ?_)
      exact fin_ret [] rfl rfl rfl rfl
    rw [if_neg h3]
    by_cases h4 : p.red = 0
    · rw [if_pos h4]
      (refine callSim_of tok Tryz.func61 rfl (fun args w => Tryz.call61 args w) rfl rfl rfl (fun F hF => ?_))
      (refine WW ?_)
      exact fin_ret [] rfl rfl rfl rfl
    · rw [if_neg h4]
      (refine callSim_of tok Tryz.func61 rfl (fun args w => Tryz.call61 args w) rfl rfl rfl (fun F hF => ?_))
      (refine WW ?_)
      exact fin_ret [] rfl rfl rfl rfl
  rw [if_neg h2]
  by_cases h3 : l.lamp = 3
  · rw [if_pos h3]
    by_cases h4 : l.tk + 1 < p.red
    · rw [if_pos h4]
      (refine callSim_of tok Tryz.func61 rfl (fun args w => Tryz.call61 args w) rfl rfl rfl (fun F hF => ?_))
      (refine WW ?_)
      exact fin_ret [] rfl rfl rfl rfl
    · rw [if_neg h4]
      (refine callSim_of tok Tryz.func61 rfl (fun args w => Tryz.call61 args w) rfl rfl rfl (fun F hF => ?_))
      (refine WW ?_)
      exact fin_ret [] rfl rfl rfl rfl
  · rw [if_neg h3]
    (refine callSim_of tok Tryz.func61 rfl (fun args w => Tryz.call61 args w) rfl rfl rfl (fun F hF => ?_))
    (refine WW ?_)
    exact fin_ret [] rfl rfl rfl rfl
theorem lvalid_c (p : Ph) (l : Li) : CallSim Tryz.prog 84 [phA p, liA l] [] (bA (lvF p l)) [] := by
  unfold lvF
  by_cases h0 : l.lamp = 0
  · rw [if_pos h0]
    by_cases h : l.tk = 0
    · rw [decide_eq_true h]
      (refine callSim_of tok Tryz.func84 rfl (fun args w => Tryz.call84 args w) rfl rfl rfl (fun F hF => ?_))
      (refine WW ?_)
      exact fin_ret [] rfl rfl rfl rfl
    · rw [decide_eq_false h]
      (refine callSim_of tok Tryz.func84 rfl (fun args w => Tryz.call84 args w) rfl rfl rfl (fun F hF => ?_))
      (refine WW ?_)
      exact fin_ret [] rfl rfl rfl rfl
  rw [if_neg h0]
  by_cases h1 : l.lamp = 1
  · rw [if_pos h1]
    by_cases h : 0 ≤ l.tk
    · by_cases h' : l.tk ≤ 1073741824
      · rw [decide_eq_true ⟨h, h'⟩]
        (refine callSim_of tok Tryz.func84 rfl (fun args w => Tryz.call84 args w) rfl rfl rfl (fun F hF => ?_))
        (refine WW ?_)
        exact fin_ret [] rfl rfl rfl rfl
      · rw [decide_eq_false (fun k => h' k.2)]
        (refine callSim_of tok Tryz.func84 rfl (fun args w => Tryz.call84 args w) rfl rfl rfl (fun F hF => ?_))
        (refine WW ?_)
        exact fin_ret [] rfl rfl rfl rfl
    · rw [decide_eq_false (fun k => h k.1)]
      (refine callSim_of tok Tryz.func84 rfl (fun args w => Tryz.call84 args w) rfl rfl rfl (fun F hF => ?_))
      (refine WW ?_)
      exact fin_ret [] rfl rfl rfl rfl
  rw [if_neg h1]
  by_cases h2 : l.lamp = 2
  · rw [if_pos h2]
    by_cases h : 0 ≤ l.tk
    · by_cases h' : l.tk < p.yel
      · rw [decide_eq_true ⟨h, h'⟩]
        (refine callSim_of tok Tryz.func84 rfl (fun args w => Tryz.call84 args w) rfl rfl rfl (fun F hF => ?_))
        (refine WW ?_)
        exact fin_ret [] rfl rfl rfl rfl
      · rw [decide_eq_false (fun k => h' k.2)]
        (refine callSim_of tok Tryz.func84 rfl (fun args w => Tryz.call84 args w) rfl rfl rfl (fun F hF => ?_))
        (refine WW ?_)
        exact fin_ret [] rfl rfl rfl rfl
    · rw [decide_eq_false (fun k => h k.1)]
      (refine callSim_of tok Tryz.func84 rfl (fun args w => Tryz.call84 args w) rfl rfl rfl (fun F hF => ?_))
      (refine WW ?_)
      exact fin_ret [] rfl rfl rfl rfl
  rw [if_neg h2]
  by_cases h3 : l.lamp = 3
  · rw [if_pos h3]
    by_cases h : 0 ≤ l.tk
    · by_cases h' : l.tk < p.red
      · rw [decide_eq_true ⟨h, h'⟩]
        (refine callSim_of tok Tryz.func84 rfl (fun args w => Tryz.call84 args w) rfl rfl rfl (fun F hF => ?_))
        (refine WW ?_)
        exact fin_ret [] rfl rfl rfl rfl
      · rw [decide_eq_false (fun k => h' k.2)]
        (refine callSim_of tok Tryz.func84 rfl (fun args w => Tryz.call84 args w) rfl rfl rfl (fun F hF => ?_))
        (refine WW ?_)
        exact fin_ret [] rfl rfl rfl rfl
    · rw [decide_eq_false (fun k => h k.1)]
      (refine callSim_of tok Tryz.func84 rfl (fun args w => Tryz.call84 args w) rfl rfl rfl (fun F hF => ?_))
      (refine WW ?_)
      exact fin_ret [] rfl rfl rfl rfl
  · rw [if_neg h3]
    (refine callSim_of tok Tryz.func84 rfl (fun args w => Tryz.call84 args w) rfl rfl rfl (fun F hF => ?_))
    (refine WW ?_)
    exact fin_ret [] rfl rfl rfl rfl
theorem rpN_succ (j : Jn) (r : Int) (i : Nat) : rpN j r (i + 1) = if (phO j i).ring = r then rpN j r i ++ [i] else rpN j r i := by
  unfold rpN
  rw [List.range_succ, List.filter_append]
  by_cases h : (phO j i).ring = r
  · rw [if_pos h]; simp [h]
  · rw [if_neg h]; simp [h]
theorem rpN_pre (j : Jn) (r : Int) : ∀ n i, i ≤ n → ∃ l, rpN j r n = rpN j r i ++ l
  | 0, i, h => ⟨[], by rw [Nat.le_zero.1 h]; simp⟩
  | n + 1, i, h => by
    by_cases e : i = n + 1
    · exact ⟨[], by rw [e]; simp⟩
    · obtain ⟨l, hl⟩ := rpN_pre j r n i (by omega)
      rw [rpN_succ]
      split
      · exact ⟨l ++ [n], by rw [hl, List.append_assoc]⟩
      · exact ⟨l, hl⟩
def phsH (j : Jn) (r : Int) : List (Nat × Ent) := [(1003, .box [slA phA j.ph, slA iA j.cf, iA j.st]), (1004, .box [iA r])]
theorem phs_c (j : Jn) (r : Int) : CallSim Tryz.prog 104 [jnA j, iA r] [] (.fn 109 [.ptr 1003 0 0, .ptr 1004 0 0]) (phsH j r) := by
  (refine callSim_of tok Tryz.func104 rfl (fun args w => Tryz.call104 args w) rfl rfl rfl (fun F hF => ?_))
  repeat' (first | (refine is_ops ?_; first | refine x_w (stp_box (v := AV.agg _) 1003 rfl rfl) rfl rfl rfl ?_ | refine x_w (stp_box (v := AV.s _) 1004 rfl rfl) rfl rfl rfl ?_ | refine x_auto tok rfl rfl ?_ | refine x_nil ?_) | (first | refine sim_seq ?_ | refine x_region ?_ | refine x_draw rfl ?_ | refine sim_cond_true rfl ?_ | refine sim_cond_false rfl ?_ | refine sim_cond rfl (fun hc => ?_) (fun hc => ?_) | refine sim_skip ?_ | refine sim_ret ?_ | refine sim_exit ?_ | refine sim_block ?_))
  exact fin_own [1003, 1004] rfl rfl rfl rfl
theorem phs_it (j : Jn) (hn : j.ph.length ≤ 1000) (r : Int) : IterSim Tryz.prog 109 [.ptr 1003 0 0, .ptr 1004 0 0] (phsH j r) ((rpF j r).map fun p : Nat => [iA (p : Int)]) := by
  have hl := map_len phA j.ph
  refine iterSim_of Tryz.func109 rfl (fun args w => Tryz.call109 args w) rfl rfl rfl (fun F y hro hit hY => ?_)
  unfold phsH
  (refine WW ?_)
  (refine sim_cnt (j.ph.length) [1003, 1004] [1003, 1004] [0, 2, 7, 8] [9, 1000000, 0, 2, 7, 8] rfl (fun i T U => ⟨(9, iA i) :: (1000000, .gh (rpN j r i).length) :: T, U⟩) ?_; (conv => whnf); refine ⟨by rfl, ?_, ?_⟩)
  · intro i hi
    have hy := map_at phA j.ph i hi
    have es := rpN_succ j r i
    change (j.ph.map phA)[i]? = some (phA (phO j i)) at hy
    by_cases hr : (phO j i).ring = r
    · rw [if_pos hr] at es
      obtain ⟨l2, hpre⟩ := rpN_pre j r j.ph.length (i + 1) (by omega)
      rw [es] at hpre ⊢
      have hys : ((rpF j r).map fun p : Nat => [iA (p : Int)])[(rpN j r i).length]? = some [iA (i : Int)] := by
        unfold rpF
        rw [hpre, List.getElem?_map, List.getElem?_append_left (by simp), List.getElem?_append_right (Nat.le_refl _), Nat.sub_self]
        rfl
      have hlen := (List.getElem?_eq_some_iff.1 hys).1
      rw [List.length_append]
      generalize ((rpF j r).map fun p : Nat => [iA (p : Int)]) = xs at *
      generalize (rpN j r i).length = k at *
      generalize phO j i = t at *
      (repeat' (first | (refine is_ops ?_; first | refine x_auto tok rfl rfl ?_ | (refine is_call ?_; first | (refine is_cv ?_; refine x_yield hit hY rfl rfl hys rfl rfl rfl ?_ ?_)) | (refine is_grd ?_; first | refine x_on rfl rfl ?_ | refine x_off rfl rfl rfl rfl ?_ | (refine x_gsplit rfl rfl (fun hc => ?_) (fun hc => ?_) <;> (try simp only [cmpB, decide_eq_true_eq, decide_eq_false_iff_not, beq_iff_eq, bne_iff_ne, ne_eq, Bool.not_eq_true, beq_eq_false_iff_ne, bne_eq_false_iff_eq, Int.not_lt, Int.not_le, Decidable.not_not] at hc))) | (refine is_bin ?_; first | refine x_q (stp_cmp_t rfl rfl rfl (by unfold cmpP; omega)) rfl ?_ | refine x_q (stp_cmp_f rfl rfl rfl (by unfold cmpP; omega)) rfl ?_ | refine x_q (stp_cmp rfl rfl rfl) rfl ?_ | refine x_q (stp_add rfl rfl ⟨by omega, by omega⟩) rfl ?_ | refine x_q (stp_sub rfl rfl ⟨by omega, by omega⟩) rfl ?_ | refine x_q (stp_mul rfl rfl ⟨by omega, by omega⟩) rfl ?_ | refine x_q (stp_quo rfl rfl (by assumption) (by omega)) rfl ?_ | refine x_q (stp_rem rfl rfl (by omega)) rfl ?_ | refine x_q (stp_xor rfl rfl) rfl ?_ | refine x_q (stp_shlI rfl rfl (by omega)) rfl ?_ | refine x_q (stp_shrI rfl rfl (by omega)) rfl ?_ | refine x_q (stp_shift (.inl ⟨rfl, rfl⟩) rfl rfl (by omega)) rfl ?_ | refine x_q (stp_shift (.inr ⟨rfl, rfl⟩) rfl rfl (by omega)) rfl ?_ | refine x_q (stp_bool2 tok rfl rfl rfl rfl (.inl ⟨rfl, rfl⟩)) rfl ?_ | refine x_q (stp_bool2 tok rfl rfl rfl rfl (.inr ⟨rfl, rfl⟩)) rfl ?_ | refine x_q (stp_eqlNil tok (.inl ⟨rfl, rfl⟩) rfl rfl rfl) rfl ?_ | refine x_q (stp_eqlNil_not tok (.inl ⟨rfl, rfl⟩) rfl rfl rfl rfl) rfl ?_ | refine x_q (stp_andI rfl rfl) rfl ?_ | refine x_q (stp_orI rfl rfl) rfl ?_ | refine x_q (stp_bicI rfl rfl) rfl ?_ | refine x_q (stp_strEqV rfl rfl (by assumption)) rfl ?_ | refine x_q (stp_strEq rfl rfl) rfl ?_ | refine x_q (stp_strNeV rfl rfl (by assumption)) rfl ?_ | refine x_q (stp_strNe rfl rfl) rfl ?_) | (refine is_idx ?_; first | refine x_q (stp_indexAddr_sl tok rfl rfl rfl rfl rfl (by omega) (by first | rfl | assumption) rfl rfl) rfl ?_ | refine x_q (stp_indexAddr_r0 tok rfl rfl rfl rfl rfl rfl (by omega) (by omega) rfl) rfl ?_ | refine x_q (stp_indexAddr_box tok rfl rfl rfl rfl rfl rfl (by omega) (by omega)) rfl ?_) | (refine is_load ?_; first | refine x_q (stp_load_fp1 tok rfl rfl rfl (by first | rfl | assumption) rfl) rfl ?_ | refine x_q (stp_load_fpa tok rfl rfl rfl (by first | rfl | assumption) rfl) rfl ?_ | refine x_q (stp_load_arr1 tok rfl rfl rfl rfl (by first | rfl | assumption) rfl) rfl ?_ | refine x_q (stp_load_arra tok rfl rfl rfl rfl (by first | rfl | assumption) rfl) rfl ?_) | (refine is_fad ?_; first | refine x_q (stp_fieldAddr_arr tok rfl rfl rfl rfl rfl rfl rfl rfl) rfl ?_ | refine x_q (stp_fieldAddr_fp tok rfl (by first | rfl | assumption) rfl rfl rfl rfl rfl rfl) rfl ?_) | (refine is_app ?_; first | refine x_appref0 tok rfl rfl rfl rfl rfl rfl rfl (by first | (intro y hy; cases hy; rfl) | exact map_hd _ _ (fun _ => rfl)) rfl rfl rfl (by first | omega | (simp; done) | (simp; omega)) rfl ?_ | refine x_appref tok rfl rfl rfl rfl rfl rfl rfl rfl rfl rfl rfl (by first | (intro y hy; cases hy; rfl) | exact map_hd _ _ (fun _ => rfl)) (by first | omega | (simp; done) | (simp; omega)) rfl ?_) | (refine is_un ?_; first | refine x_q (stp_neg rfl ⟨by omega, by omega⟩) rfl ?_) | (refine is_conv ?_; first | refine x_q (stp_conv_in tok rfl rfl rfl rfl ⟨by omega, by omega⟩) rfl ?_ | refine x_q (stp_conv tok rfl rfl rfl rfl) rfl ?_ | refine x_q (stp_convStr tok rfl rfl rfl rfl rfl rfl rfl (by first | rfl | assumption)) rfl ?_) | (refine is_slc ?_; first | refine x_slcL tok rfl rfl rfl rfl rfl (by first | (intro y hy; cases hy; rfl) | exact map_hd _ _ (fun _ => rfl) | (simp; done)) (by omega) (by simp; omega) (by first | exact List.map_drop.symm | rfl) rfl ?_ | refine x_slcH tok rfl rfl rfl rfl rfl (by first | (intro y hy; cases hy; rfl) | exact map_hd _ _ (fun _ => rfl) | (simp; done)) (by omega) (by simp; omega) (by first | exact List.map_take.symm | rfl) rfl ?_) | (refine is_mks ?_; refine x_mks tok rfl rfl rfl rfl rfl rfl rfl rfl rfl rfl rfl rfl rfl (by omega) (by omega) rfl rfl rfl ?_) | refine x_autow tok rfl rfl rfl rfl ?_ | (refine is_sto ?_; first | refine x_autos tok rfl rfl rfl ?_ | refine x_stoa tok rfl rfl rfl (by first | rfl | assumption) rfl rfl rfl rfl rfl rfl ?_ | refine x_sto1 tok rfl rfl rfl (by first | rfl | assumption) rfl rfl rfl rfl rfl rfl rfl rfl ?_) | refine x_nil ?_ | refine x_nilD (by kernel_rfl) ?_) | (first | refine sim_seq ?_ | refine x_region ?_ | refine x_draw rfl ?_ | refine sim_cond_true rfl ?_ | refine sim_cond_false rfl ?_ | (refine sim_cond rfl (fun hc => ?_) (fun hc => ?_) <;> (try simp only [cmpB, decide_eq_true_eq, decide_eq_false_iff_not, beq_iff_eq, bne_iff_ne, ne_eq, Bool.not_eq_true, beq_eq_false_iff_ne, bne_eq_false_iff_eq, Int.not_lt, Int.not_le, Decidable.not_not] at hc)) | refine sim_skip ?_ | refine sim_ret ?_ | refine sim_exit ?_ | refine sim_block ?_)))
      · rfl
      · exact fini_ret rfl (.inr (by omega))
    · rw [if_neg hr] at es
      rw [es]
      generalize (rpN j r i).length = k at *
      generalize phO j i = t at *
      (refine WW ?_)
      rfl
  · have e : (rpN j r j.ph.length).length = ((rpF j r).map fun p : Nat => [iA (p : Int)]).length := by rw [List.length_map]; rfl
    (refine WW ?_)
    exact fini_normal rfl (.inl e)
end Av
end Go.Proofs.YtkliodbbcblobaaGreat
