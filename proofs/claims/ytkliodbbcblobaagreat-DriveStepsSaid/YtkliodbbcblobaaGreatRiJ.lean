
/- Rings: Step, Init. -/
import Derived.Test.YtkliodbbcblobaaGreatRiI
namespace Go.Proofs.YtkliodbbcblobaaGreat
namespace Av
set_option linter.unusedSimpArgs false
set_option linter.unusedVariables false
set_option maxRecDepth 4000
set_option maxHeartbeats 1000000
theorem cloneL_own (l : List Li) (hl : l.length ≤ 1073741824) : CallSim Tryz.prog 35 [slA liA l] [] (.ref 1001 0 (l.map liA).length) [(1001, .arr 2 (l.map liA) false)] := by
  have hll := map_len liA l
  (refine callSim_of tok Tryz.func35 rfl (fun args w => Tryz.call35 args w) rfl rfl rfl (fun F hF => ?_))
  refine sim_nsplit 0 rfl (fun cap hx => ?_) ?_
  · have : l = [] := by simpa using hx
    subst this
    (repeat' (first | (refine is_ops ?_; first | refine x_auto tok rfl rfl ?_ | (refine is_call ?_; fail) | (refine is_grd ?_; first | refine x_on rfl rfl ?_ | refine x_off rfl rfl rfl rfl ?_ | (refine x_gsplit rfl rfl (fun hc => ?_) (fun hc => ?_) <;> (try simp only [cmpB, decide_eq_true_eq, decide_eq_false_iff_not, beq_iff_eq, bne_iff_ne, ne_eq, Bool.not_eq_true, beq_eq_false_iff_ne, bne_eq_false_iff_eq, Int.not_lt, Int.not_le, Decidable.not_not] at hc))) | (refine is_bin ?_; first | refine x_q (stp_cmp_t rfl rfl rfl (by unfold cmpP; omega)) rfl ?_ | refine x_q (stp_cmp_f rfl rfl rfl (by unfold cmpP; omega)) rfl ?_ | refine x_q (stp_cmp rfl rfl rfl) rfl ?_ | refine x_q (stp_add rfl rfl ⟨by omega, by omega⟩) rfl ?_ | refine x_q (stp_sub rfl rfl ⟨by omega, by omega⟩) rfl ?_ | refine x_q (stp_mul rfl rfl ⟨by omega, by omega⟩) rfl ?_ | refine x_q (stp_quo rfl rfl (by assumption) (by omega)) rfl ?_ | refine x_q (stp_rem rfl rfl (by omega)) rfl ?_ | refine x_q (stp_xor rfl rfl) rfl ?_ | refine x_q (stp_shlI rfl rfl (by omega)) rfl ?_ | refine x_q (stp_shrI rfl rfl (by omega)) rfl ?_ | refine x_q (stp_shift (.inl ⟨rfl, rfl⟩) rfl rfl (by omega)) rfl ?_ | refine x_q (stp_shift (.inr ⟨rfl, rfl⟩) rfl rfl (by omega)) rfl ?_ | refine x_q (stp_bool2 tok rfl rfl rfl rfl (.inl ⟨rfl, rfl⟩)) rfl ?_ | refine x_q (stp_bool2 tok rfl rfl rfl rfl (.inr ⟨rfl, rfl⟩)) rfl ?_ | refine x_q (stp_eqlNil tok (.inl ⟨rfl, rfl⟩) rfl rfl rfl) rfl ?_ | refine x_q (stp_eqlNil_not tok (.inl ⟨rfl, rfl⟩) rfl rfl rfl rfl) rfl ?_ | refine x_q (stp_andI rfl rfl) rfl ?_ | refine x_q (stp_orI rfl rfl) rfl ?_ | refine x_q (stp_bicI rfl rfl) rfl ?_ | refine x_q (stp_strEqV rfl rfl (by assumption)) rfl ?_ | refine x_q (stp_strEq rfl rfl) rfl ?_ | refine x_q (stp_strNeV rfl rfl (by assumption)) rfl ?_ | refine x_q (stp_strNe rfl rfl) rfl ?_) | (refine is_idx ?_; first | refine x_q (stp_indexAddr_sl tok rfl rfl rfl rfl rfl (by omega) (by first | rfl | assumption) rfl rfl) rfl ?_ | refine x_q (stp_indexAddr_r0 tok rfl rfl rfl rfl rfl rfl (by omega) (by omega) rfl) rfl ?_ | refine x_q (stp_indexAddr_box tok rfl rfl rfl rfl rfl rfl (by omega) (by omega)) rfl ?_) | (refine is_load ?_; first | refine x_q (stp_load_fp1 tok rfl rfl rfl (by first | rfl | assumption) rfl) rfl ?_ | refine x_q (stp_load_fpa tok rfl rfl rfl (by first | rfl | assumption) rfl) rfl ?_ | refine x_q (stp_load_arr1 tok rfl rfl rfl rfl (by first | rfl | assumption) rfl) rfl ?_ | refine x_q (stp_load_arra tok rfl rfl rfl rfl (by first | rfl | assumption) rfl) rfl ?_) | (refine is_fad ?_; first | refine x_q (stp_fieldAddr_arr tok rfl rfl rfl rfl rfl rfl rfl rfl) rfl ?_ | refine x_q (stp_fieldAddr_fp tok rfl (by first | rfl | assumption) rfl rfl rfl rfl rfl rfl) rfl ?_) | (refine is_app ?_; first | refine x_appref0 tok rfl rfl rfl rfl rfl rfl rfl (by first | (intro y hy; cases hy; rfl) | exact map_hd _ _ (fun _ => rfl)) rfl rfl rfl (by first | omega | (simp; done) | (simp; omega)) rfl ?_ | refine x_appref tok rfl rfl rfl rfl rfl rfl rfl rfl rfl rfl rfl (by first | (intro y hy; cases hy; rfl) | exact map_hd _ _ (fun _ => rfl)) (by first | omega | (simp; done) | (simp; omega)) rfl ?_) | (refine is_un ?_; first | refine x_q (stp_neg rfl ⟨by omega, by omega⟩) rfl ?_) | (refine is_conv ?_; first | refine x_q (stp_conv_in tok rfl rfl rfl rfl ⟨by omega, by omega⟩) rfl ?_ | refine x_q (stp_conv tok rfl rfl rfl rfl) rfl ?_ | refine x_q (stp_convStr tok rfl rfl rfl rfl rfl rfl rfl (by first | rfl | assumption)) rfl ?_) | (refine is_slc ?_; first | refine x_slcL tok rfl rfl rfl rfl rfl (by first | (intro y hy; cases hy; rfl) | exact map_hd _ _ (fun _ => rfl) | (simp; done)) (by omega) (by simp; omega) (by first | exact List.map_drop.symm | rfl) rfl ?_ | refine x_slcH tok rfl rfl rfl rfl rfl (by first | (intro y hy; cases hy; rfl) | exact map_hd _ _ (fun _ => rfl) | (simp; done)) (by omega) (by simp; omega) (by first | exact List.map_take.symm | rfl) rfl ?_) | fail | refine x_autow tok rfl rfl rfl rfl ?_ | (refine is_sto ?_; first | refine x_autos tok rfl rfl rfl ?_ | refine x_stoa tok rfl rfl rfl (by first | rfl | assumption) rfl rfl rfl rfl rfl rfl ?_ | refine x_sto1 tok rfl rfl rfl (by first | rfl | assumption) rfl rfl rfl rfl rfl rfl rfl rfl ?_) | refine x_nil ?_ | refine x_nilD (by kernel_rfl) ?_) | (first | refine sim_seq ?_ | refine x_region ?_ | refine x_draw rfl ?_ | refine sim_cond_true rfl ?_ | refine sim_cond_false rfl ?_ | (refine sim_cond rfl (fun hc => ?_) (fun hc => ?_) <;> (try simp only [cmpB, decide_eq_true_eq, decide_eq_false_iff_not, beq_iff_eq, bne_iff_ne, ne_eq, Bool.not_eq_true, beq_eq_false_iff_ne, bne_eq_false_iff_eq, Int.not_lt, Int.not_le, Decidable.not_not] at hc)) | refine sim_skip ?_ | refine sim_exit ?_ | refine sim_block ?_)))
    refine sim_virtF 2 1001 2 rfl rfl rfl (sim_ret ?_)
    exact fin_own [1001] rfl rfl rfl rfl
  · repeat' (first | (refine is_ops ?_; first | refine x_auto tok rfl rfl ?_ | (refine is_bin ?_; refine x_q (stp_eqlNil_not tok (.inl ⟨rfl, rfl⟩) rfl rfl rfl rfl) rfl ?_) | (refine is_bsl ?_; refine x_w (nw := [1001]) (stp_buildSlice tok 1001 (xs := []) rfl rfl rfl rfl rfl rfl rfl rfl rfl) rfl rfl rfl ?_) | (refine is_app ?_; refine x_appref0 tok rfl rfl rfl rfl rfl rfl rfl (map_hd _ _ (fun _ => rfl)) rfl rfl rfl (by omega) rfl ?_) | refine x_nil ?_) | (first | refine sim_seq ?_ | refine x_region ?_ | refine x_draw rfl ?_ | refine sim_cond_true rfl ?_ | refine sim_cond_false rfl ?_ | refine sim_cond rfl (fun hc => ?_) (fun hc => ?_) | refine sim_skip ?_ | refine sim_ret ?_ | refine sim_exit ?_ | refine sim_block ?_))
    exact fin_own [1001] rfl rfl rfl rfl
theorem cloneI_own2 (l : List Int) (hl : l.length ≤ 1073741824) : CallSim Tryz.prog 36 [slA iA l] [] (.ref 1002 0 (l.map iA).length) [(1002, .arr 1 (l.map iA) false)] := by
  have hll := map_len iA l
  (refine callSim_of tok Tryz.func36 rfl (fun args w => Tryz.call36 args w) rfl rfl rfl (fun F hF => ?_))
  refine sim_nsplit 0 rfl (fun cap hx => ?_) ?_
  · have : l = [] := by simpa using hx
    subst this
    (repeat' (first | (refine is_ops ?_; first | refine x_auto tok rfl rfl ?_ | (refine is_call ?_; fail) | (refine is_grd ?_; first | refine x_on rfl rfl ?_ | refine x_off rfl rfl rfl rfl ?_ | (refine x_gsplit rfl rfl (fun hc => ?_) (fun hc => ?_) <;> (try simp only [cmpB, decide_eq_true_eq, decide_eq_false_iff_not, beq_iff_eq, bne_iff_ne, ne_eq, Bool.not_eq_true, beq_eq_false_iff_ne, bne_eq_false_iff_eq, Int.not_lt, Int.not_le, Decidable.not_not] at hc))) | (refine is_bin ?_; first | refine x_q (stp_cmp_t rfl rfl rfl (by unfold cmpP; omega)) rfl ?_ | refine x_q (stp_cmp_f rfl rfl rfl (by unfold cmpP; omega)) rfl ?_ | refine x_q (stp_cmp rfl rfl rfl) rfl ?_ | refine x_q (stp_add rfl rfl ⟨by omega, by omega⟩) rfl ?_ | refine x_q (stp_sub rfl rfl ⟨by omega, by omega⟩) rfl ?_ | refine x_q (stp_mul rfl rfl ⟨by omega, by omega⟩) rfl ?_ | refine x_q (stp_quo rfl rfl (by assumption) (by omega)) rfl ?_ | refine x_q (stp_rem rfl rfl (by omega)) rfl ?_ | refine x_q (stp_xor rfl rfl) rfl ?_ | refine x_q (stp_shlI rfl rfl (by omega)) rfl ?_ | refine x_q (stp_shrI rfl rfl (by omega)) rfl ?_ | refine x_q (stp_shift (.inl ⟨rfl, rfl⟩) rfl rfl (by omega)) rfl ?_ | refine x_q (stp_shift (.inr ⟨rfl, rfl⟩) rfl rfl (by omega)) rfl ?_ | refine x_q (stp_bool2 tok rfl rfl rfl rfl (.inl ⟨rfl, rfl⟩)) rfl ?_ | refine x_q (stp_bool2 tok rfl rfl rfl rfl (.inr ⟨rfl, rfl⟩)) rfl ?_ | refine x_q (stp_eqlNil tok (.inl ⟨rfl, rfl⟩) rfl rfl rfl) rfl ?_ | refine x_q (stp_eqlNil_not tok (.inl ⟨rfl, rfl⟩) rfl rfl rfl rfl) rfl ?_ | refine x_q (stp_andI rfl rfl) rfl ?_ | refine x_q (stp_orI rfl rfl) rfl ?_ | refine x_q (stp_bicI rfl rfl) rfl ?_ | refine x_q (stp_strEqV rfl rfl (by assumption)) rfl ?_ | refine x_q (stp_strEq rfl rfl) rfl ?_ | refine x_q (stp_strNeV rfl rfl (by assumption)) rfl ?_ | refine x_q (stp_strNe rfl rfl) rfl ?_) | (refine is_idx ?_; first | refine x_q (stp_indexAddr_sl tok rfl rfl rfl rfl rfl (by omega) (by first | rfl | assumption) rfl rfl) rfl ?_ | refine x_q (stp_indexAddr_r0 tok rfl rfl rfl rfl rfl rfl (by omega) (by omega) rfl) rfl ?_ | refine x_q (stp_indexAddr_box tok rfl rfl rfl rfl rfl rfl (by omega) (by omega)) rfl ?_) | (refine is_load ?_; first | refine x_q (stp_load_fp1 tok rfl rfl rfl (by first | rfl | assumption) rfl) rfl ?_ | refine x_q (stp_load_fpa tok rfl rfl rfl (by first | rfl | assumption) rfl) rfl ?_ | refine x_q (stp_load_arr1 tok rfl rfl rfl rfl (by first | rfl | assumption) rfl) rfl ?_ | refine x_q (stp_load_arra tok rfl rfl rfl rfl (by first | rfl | assumption) rfl) rfl ?_) | (refine is_fad ?_; first | refine x_q (stp_fieldAddr_arr tok rfl rfl rfl rfl rfl rfl rfl rfl) rfl ?_ | refine x_q (stp_fieldAddr_fp tok rfl (by first | rfl | assumption) rfl rfl rfl rfl rfl rfl) rfl ?_) | (refine is_app ?_; first | refine x_appref0 tok rfl rfl rfl rfl rfl rfl rfl (by first | (intro y hy; cases hy; rfl) | exact map_hd _ _ (fun _ => rfl)) rfl rfl rfl (by first | omega | (simp; done) | (simp; omega)) rfl ?_ | refine x_appref tok rfl rfl rfl rfl rfl rfl rfl rfl rfl rfl rfl (by first | (intro y hy; cases hy; rfl) | exact map_hd _ _ (fun _ => rfl)) (by first | omega | (simp; done) | (simp; omega)) rfl ?_) | (refine is_un ?_; first | refine x_q (stp_neg rfl ⟨by omega, by omega⟩) rfl ?_) | (refine is_conv ?_; first | refine x_q (stp_conv_in tok rfl rfl rfl rfl ⟨by omega, by omega⟩) rfl ?_ | refine x_q (stp_conv tok rfl rfl rfl rfl) rfl ?_ | refine x_q (stp_convStr tok rfl rfl rfl rfl rfl rfl rfl (by first | rfl | assumption)) rfl ?_) | (refine is_slc ?_; first | refine x_slcL tok rfl rfl rfl rfl rfl (by first | (intro y hy; cases hy; rfl) | exact map_hd _ _ (fun _ => rfl) | (simp; done)) (by omega) (by simp; omega) (by first | exact List.map_drop.symm | rfl) rfl ?_ | refine x_slcH tok rfl rfl rfl rfl rfl (by first | (intro y hy; cases hy; rfl) | exact map_hd _ _ (fun _ => rfl) | (simp; done)) (by omega) (by simp; omega) (by first | exact List.map_take.symm | rfl) rfl ?_) | fail | refine x_autow tok rfl rfl rfl rfl ?_ | (refine is_sto ?_; first | refine x_autos tok rfl rfl rfl ?_ | refine x_stoa tok rfl rfl rfl (by first | rfl | assumption) rfl rfl rfl rfl rfl rfl ?_ | refine x_sto1 tok rfl rfl rfl (by first | rfl | assumption) rfl rfl rfl rfl rfl rfl rfl rfl ?_) | refine x_nil ?_ | refine x_nilD (by kernel_rfl) ?_) | (first | refine sim_seq ?_ | refine x_region ?_ | refine x_draw rfl ?_ | refine sim_cond_true rfl ?_ | refine sim_cond_false rfl ?_ | (refine sim_cond rfl (fun hc => ?_) (fun hc => ?_) <;> (try simp only [cmpB, decide_eq_true_eq, decide_eq_false_iff_not, beq_iff_eq, bne_iff_ne, ne_eq, Bool.not_eq_true, beq_eq_false_iff_ne, bne_eq_false_iff_eq, Int.not_lt, Int.not_le, Decidable.not_not] at hc)) | refine sim_skip ?_ | refine sim_exit ?_ | refine sim_block ?_)))
    refine sim_virtF 2 1002 1 rfl rfl rfl (sim_ret ?_)
    exact fin_own [1002] rfl rfl rfl rfl
  · repeat' (first | (refine is_ops ?_; first | refine x_auto tok rfl rfl ?_ | (refine is_bin ?_; refine x_q (stp_eqlNil_not tok (.inl ⟨rfl, rfl⟩) rfl rfl rfl rfl) rfl ?_) | (refine is_bsl ?_; refine x_w (nw := [1002]) (stp_buildSlice tok 1002 (xs := []) rfl rfl rfl rfl rfl rfl rfl rfl rfl) rfl rfl rfl ?_) | (refine is_app ?_; refine x_appref0 tok rfl rfl rfl rfl rfl rfl rfl (map_hd _ _ (fun _ => rfl)) rfl rfl rfl (by omega) rfl ?_) | refine x_nil ?_) | (first | refine sim_seq ?_ | refine x_region ?_ | refine x_draw rfl ?_ | refine sim_cond_true rfl ?_ | refine sim_cond_false rfl ?_ | refine sim_cond rfl (fun hc => ?_) (fun hc => ?_) | refine sim_skip ?_ | refine sim_ret ?_ | refine sim_exit ?_ | refine sim_block ?_))
    exact fin_own [1002] rfl rfl rfl rfl
/-- The lights, those before i gone on. -/
def lsM (j : Jn) (c : Ct) (t : Int) (i : Nat) : List Li := (List.range j.ph.length).map fun p => if p < i then lpF (phO j p) (liO c p) (lvS j c t p) else liO c p
theorem lsM_len (j : Jn) (c : Ct) (t : Int) (i : Nat) : (lsM j c t i).length = j.ph.length := by simp [lsM]
theorem lsM_zero {j : Jn} {c : Ct} (hc : c.li.length = j.ph.length) (t : Int) : lsM j c t 0 = c.li := by
  unfold lsM
  apply List.ext_getElem?
  intro p
  rw [List.getElem?_map]
  by_cases h : p < j.ph.length
  · rw [List.getElem?_range h]; simp [liO, List.getD, hc, h]
  · rw [List.getElem?_eq_none (by simp; omega), List.getElem?_eq_none (by omega)]; rfl
theorem lsM_end (j : Jn) (c : Ct) (t : Int) : lsM j c t j.ph.length = lsF j c t := by
  unfold lsM lsF
  apply List.map_congr_left
  intro p hp
  rw [List.mem_range] at hp
  rw [if_pos hp]
theorem lsM_succ (j : Jn) (c : Ct) (t : Int) (i : Nat) : lsM j c t (i + 1) = (lsM j c t i).set i (lpF (phO j i) (liO c i) (lvS j c t i)) := by
  unfold lsM
  apply List.ext_getElem?
  intro p
  rw [List.getElem?_set, List.getElem?_map, List.getElem?_map]
  by_cases h : p < j.ph.length
  · rw [List.getElem?_range h]
    by_cases hs : i = p
    · subst hs; simp [h]
    · rw [if_neg hs]
      by_cases hp : p < i
      · simp [hp, show p < i + 1 by omega]
      · simp [hp, show ¬ p < i + 1 by omega]
  · rw [List.getElem?_eq_none (by simp; omega)]
    split <;> simp; omega
theorem tk_bd {p : Ph} {l : Li} (h : lvF p l = true) (hy : p.yel ≤ 60) (hr : p.red ≤ 60) : 0 ≤ l.tk ∧ l.tk ≤ 1073741824 := by
  unfold lvF at h
  split at h
  · rw [decide_eq_true_eq] at h; omega
  split at h
  · rw [decide_eq_true_eq] at h; omega
  split at h
  · rw [decide_eq_true_eq] at h; omega
  split at h
  · rw [decide_eq_true_eq] at h; omega
  · cases h
theorem is_al7 {P : Program} {K0 : List Nat} {F : Fr K0} {m : Nat} {ops : Array Oper} {rest : List Oper} {Q : List FP → St → Prop} {dr : Bool} {fs : List FP} {ty T : Nat} {pos : String} {after : Array Edge} {st : St} (hk : OpsX P F m ops dr (⟨some 7, .alloc T, ty, pos, after, none⟩ :: rest) st fs Q) : OpsX P F m ops dr (⟨some 7, .alloc T, ty, pos, after, none⟩ :: rest) st fs Q := hk
theorem step_c (j : Jn) (J : JV j) (c : Ct) (C : CV j c) (t : Int) : CallSim Tryz.prog 41 [jnA j, ctA c, iA t] [] (ctA (stF j c t)) [] := by
  have hn := J.n
  have hjc := J.c
  have hcn := C.n
  have hcm := C.m
  have hcw := C.w
  have hst := J.st
  have hlp := map_len phA j.ph
  have hll : (c.li.map liA).length = j.ph.length := by rw [List.length_map]; exact hcn
  have hln : (c.nx.map iA).length = 2 := by rw [List.length_map]; exact hcm
  have k1 := pjunction_c j J
  have k2 := vring_c j J.b c
  rw [vcF_CV J C] at k2
  have k3 := cloneL_own c.li (by omega)
  have k4 := cloneI_own2 c.nx (by omega)
  unfold stF
  by_cases hw : 0 < c.wt
  · rw [if_pos hw]
    (refine callSim_of tok Tryz.func41 rfl (fun args w => Tryz.call41 args w) rfl rfl rfl (fun F hF => ?_))
    (have zc1 := k1; have zc2 := k2; refine WW ?_; clear zc1 zc2)
    repeat' (first | (refine is_ops ?_; first | (refine is_al7 ?_; refine x_w (nw := [3000]) (stp_alloc tok 3000 rfl rfl) rfl rfl rfl ?_) | refine x_auto tok rfl rfl ?_ | (refine is_call ?_; (first | (refine is_fn 35 ?_; first | refine x_q (stp_call (k3) rfl rfl rfl rfl rfl) rfl ?_ | refine x_w (stp_call (k3) rfl rfl rfl rfl rfl) rfl rfl rfl ?_ | refine x_d (stp_call (k3) rfl rfl rfl rfl rfl) rfl rfl rfl ?_) | (refine is_fn 36 ?_; first | refine x_q (stp_call (k4) rfl rfl rfl rfl rfl) rfl ?_ | refine x_w (stp_call (k4) rfl rfl rfl rfl rfl) rfl rfl rfl ?_ | refine x_d (stp_call (k4) rfl rfl rfl rfl rfl) rfl rfl rfl ?_))) | (refine is_sto ?_; refine x_autos tok rfl rfl rfl ?_) | refine x_nilD (by kernel_rfl) ?_ | refine x_nil ?_) | (first | refine sim_seq ?_ | refine x_region ?_ | refine x_draw rfl ?_ | refine sim_skip ?_ | refine sim_ret ?_ | refine sim_exit ?_))
    (refine WW ?_)
    exact fin_ret [] rfl rfl (ctT_eq ⟨c.li, c.gr, c.nx, c.wt - 1⟩) rfl
  rw [if_neg hw]
  have h0 : c.wt = 0 := by omega
  have CL := cv_ls J C h0 t
  have ls0 := lsM_zero hcn t
  have lsE := lsM_end j c t
  rw [hll] at k3
  have hN : ∀ i, ((lsM j c t i).map liA).length = j.ph.length := fun i => by rw [List.length_map]; exact lsM_len j c t i
  (refine callSim_of tok Tryz.func41 rfl (fun args w => Tryz.call41 args w) rfl rfl rfl (fun F hF => ?_))
  (have zc1 := k1; have zc2 := k2; refine WW ?_; clear zc1 zc2)
  repeat' (first | (refine is_ops ?_; first | (refine is_al7 ?_; refine x_w (nw := [3000]) (stp_alloc tok 3000 rfl rfl) rfl rfl rfl ?_) | refine x_auto tok rfl rfl ?_ | (refine is_call ?_; (first | (refine is_fn 35 ?_; first | refine x_q (stp_call (k3) rfl rfl rfl rfl rfl) rfl ?_ | refine x_w (stp_call (k3) rfl rfl rfl rfl rfl) rfl rfl rfl ?_ | refine x_d (stp_call (k3) rfl rfl rfl rfl rfl) rfl rfl rfl ?_) | (refine is_fn 36 ?_; first | refine x_q (stp_call (k4) rfl rfl rfl rfl rfl) rfl ?_ | refine x_w (stp_call (k4) rfl rfl rfl rfl rfl) rfl rfl rfl ?_ | refine x_d (stp_call (k4) rfl rfl rfl rfl rfl) rfl rfl rfl ?_))) | (refine is_sto ?_; refine x_autos tok rfl rfl rfl ?_) | refine x_nilD (by kernel_rfl) ?_ | refine x_nil ?_) | (first | refine sim_seq ?_ | refine x_region ?_ | refine x_draw rfl ?_ | refine sim_skip ?_ | refine sim_ret ?_ | refine sim_exit ?_))
  (repeat' (first | (refine is_ops ?_; first | refine x_auto tok rfl rfl ?_ | (refine is_call ?_; fail) | (refine is_grd ?_; first | refine x_on rfl rfl ?_ | refine x_off rfl rfl rfl rfl ?_ | (refine x_gsplit rfl rfl (fun hc => ?_) (fun hc => ?_) <;> (try simp only [cmpB, decide_eq_true_eq, decide_eq_false_iff_not, beq_iff_eq, bne_iff_ne, ne_eq, Bool.not_eq_true, beq_eq_false_iff_ne, bne_eq_false_iff_eq, Int.not_lt, Int.not_le, Decidable.not_not] at hc))) | (refine is_bin ?_; first | refine x_q (stp_cmp_t rfl rfl rfl (by unfold cmpP; omega)) rfl ?_ | refine x_q (stp_cmp_f rfl rfl rfl (by unfold cmpP; omega)) rfl ?_ | refine x_q (stp_cmp rfl rfl rfl) rfl ?_ | refine x_q (stp_add rfl rfl ⟨by omega, by omega⟩) rfl ?_ | refine x_q (stp_sub rfl rfl ⟨by omega, by omega⟩) rfl ?_ | refine x_q (stp_mul rfl rfl ⟨by omega, by omega⟩) rfl ?_ | refine x_q (stp_quo rfl rfl (by assumption) (by omega)) rfl ?_ | refine x_q (stp_rem rfl rfl (by omega)) rfl ?_ | refine x_q (stp_xor rfl rfl) rfl ?_ | refine x_q (stp_shlI rfl rfl (by omega)) rfl ?_ | refine x_q (stp_shrI rfl rfl (by omega)) rfl ?_ | refine x_q (stp_shift (.inl ⟨rfl, rfl⟩) rfl rfl (by omega)) rfl ?_ | refine x_q (stp_shift (.inr ⟨rfl, rfl⟩) rfl rfl (by omega)) rfl ?_ | refine x_q (stp_bool2 tok rfl rfl rfl rfl (.inl ⟨rfl, rfl⟩)) rfl ?_ | refine x_q (stp_bool2 tok rfl rfl rfl rfl (.inr ⟨rfl, rfl⟩)) rfl ?_ | refine x_q (stp_eqlNil tok (.inl ⟨rfl, rfl⟩) rfl rfl rfl) rfl ?_ | refine x_q (stp_eqlNil_not tok (.inl ⟨rfl, rfl⟩) rfl rfl rfl rfl) rfl ?_ | refine x_q (stp_andI rfl rfl) rfl ?_ | refine x_q (stp_orI rfl rfl) rfl ?_ | refine x_q (stp_bicI rfl rfl) rfl ?_ | refine x_q (stp_strEqV rfl rfl (by assumption)) rfl ?_ | refine x_q (stp_strEq rfl rfl) rfl ?_ | refine x_q (stp_strNeV rfl rfl (by assumption)) rfl ?_ | refine x_q (stp_strNe rfl rfl) rfl ?_) | (refine is_idx ?_; first | refine x_q (stp_indexAddr_sl tok rfl rfl rfl rfl rfl (by omega) (by first | rfl | assumption) rfl rfl) rfl ?_ | refine x_q (stp_indexAddr_r0 tok rfl rfl rfl rfl rfl rfl (by omega) (by omega) rfl) rfl ?_ | refine x_q (stp_indexAddr_box tok rfl rfl rfl rfl rfl rfl (by omega) (by omega)) rfl ?_) | (refine is_load ?_; first | refine x_q (stp_load_fp1 tok rfl rfl rfl (by first | rfl | assumption) rfl) rfl ?_ | refine x_q (stp_load_fpa tok rfl rfl rfl (by first | rfl | assumption) rfl) rfl ?_ | refine x_q (stp_load_arr1 tok rfl rfl rfl rfl (by first | rfl | assumption) rfl) rfl ?_ | refine x_q (stp_load_arra tok rfl rfl rfl rfl (by first | rfl | assumption) rfl) rfl ?_) | (refine is_fad ?_; first | refine x_q (stp_fieldAddr_arr tok rfl rfl rfl rfl rfl rfl rfl rfl) rfl ?_ | refine x_q (stp_fieldAddr_fp tok rfl (by first | rfl | assumption) rfl rfl rfl rfl rfl rfl) rfl ?_) | (refine is_app ?_; first | refine x_appref0 tok rfl rfl rfl rfl rfl rfl rfl (by first | (intro y hy; cases hy; rfl) | exact map_hd _ _ (fun _ => rfl)) rfl rfl rfl (by first | omega | (simp; done) | (simp; omega)) rfl ?_ | refine x_appref tok rfl rfl rfl rfl rfl rfl rfl rfl rfl rfl rfl (by first | (intro y hy; cases hy; rfl) | exact map_hd _ _ (fun _ => rfl)) (by first | omega | (simp; done) | (simp; omega)) rfl ?_) | (refine is_un ?_; first | refine x_q (stp_neg rfl ⟨by omega, by omega⟩) rfl ?_) | (refine is_conv ?_; first | refine x_q (stp_conv_in tok rfl rfl rfl rfl ⟨by omega, by omega⟩) rfl ?_ | refine x_q (stp_conv tok rfl rfl rfl rfl) rfl ?_ | refine x_q (stp_convStr tok rfl rfl rfl rfl rfl rfl rfl (by first | rfl | assumption)) rfl ?_) | (refine is_slc ?_; first | refine x_slcL tok rfl rfl rfl rfl rfl (by first | (intro y hy; cases hy; rfl) | exact map_hd _ _ (fun _ => rfl) | (simp; done)) (by omega) (by simp; omega) (by first | exact List.map_drop.symm | rfl) rfl ?_ | refine x_slcH tok rfl rfl rfl rfl rfl (by first | (intro y hy; cases hy; rfl) | exact map_hd _ _ (fun _ => rfl) | (simp; done)) (by omega) (by simp; omega) (by first | exact List.map_take.symm | rfl) rfl ?_) | (refine is_mks ?_; refine x_mks tok rfl rfl rfl rfl rfl rfl rfl rfl rfl rfl rfl rfl rfl (by omega) (by omega) rfl rfl rfl ?_) | refine x_autow tok rfl rfl rfl rfl ?_ | (refine is_sto ?_; first | refine x_autos tok rfl rfl rfl ?_ | refine x_stoa tok rfl rfl rfl (by first | rfl | assumption) rfl rfl rfl rfl rfl rfl ?_ | refine x_sto1 tok rfl rfl rfl (by first | rfl | assumption) rfl rfl rfl rfl rfl rfl rfl rfl ?_) | refine x_nil ?_ | refine x_nilD (by kernel_rfl) ?_) | (first | refine sim_seq ?_ | refine x_region ?_ | refine x_draw rfl ?_ | refine sim_skip ?_ | refine sim_ret ?_ | refine sim_exit ?_)))
  refine sim_cond_false rfl (sim_skip ?_)
  refine sim_seq ?_
  refine sim_join [3000, 1001, 1002, 3, 4, 6] [2, 3, 4, 6, 7, 8] ⟨[(2, iA t), (3, .ptr 3 0 0), (4, .ptr 4 0 0), (6, .ptr 6 0 0), (7, .ptr 3000 0 0), (8, bA (aimF j t))], [(3000, .box [.ref 1001 0 j.ph.length, iA c.gr, .ref 1002 0 (c.nx.map iA).length, iA c.wt]), (1001, .arr 2 (c.li.map liA) false), (1002, .arr 1 (c.nx.map iA) false), (3, .box [slA phA j.ph, slA iA j.cf, iA j.st]), (4, .box [slA liA c.li, iA c.gr, slA iA c.nx, iA c.wt]), (6, .box [.s (.slice none 0 0), iA 0, .s (.slice none 0 0), iA 0])]⟩ rfl ?_ ?_
  · clear k1 k2 k3 k4 CL
    by_cases a1 : 0 ≤ t
    · by_cases a2 : t < j.ph.length
      · rw [show aimF j t = true from decide_eq_true ⟨a1, a2⟩]
        (refine WW ?_)
        exact ⟨rfl, rfl⟩
      · rw [show aimF j t = false from decide_eq_false (fun h => a2 h.2)]
        (refine WW ?_)
        exact ⟨rfl, rfl⟩
    · rw [show aimF j t = false from decide_eq_false (fun h => a1 h.1)]
      (refine WW ?_)
      exact ⟨rfl, rfl⟩
  clear k1 k2 k3 k4
  (refine WW ?_)
  (refine sim_cnt (j.ph.length) [1001, 3, 4, 6, 3000, 1002] [3, 4, 6, 3000, 1002] [2, 3, 4, 6, 7, 8, 51, 52] [53, 2, 3, 4, 6, 7, 8, 51, 52] rfl (fun i T U => ⟨(53, iA i) :: T, (1001, .arr 2 ((lsM j c t i).map liA) false) :: U⟩) ?_; (conv => whnf); refine ⟨by (rw [ls0]; rfl), ?_, ?_⟩)
  · intro i hi
    have hy := map_at phA j.ph i hi
    change (j.ph.map phA)[i]? = some (phA (phO j i)) at hy
    have hyl := map_at liA c.li i (by omega)
    change (c.li.map liA)[i]? = some (liA (liO c i)) at hyl
    have hym : ∃ l, ((lsM j c t i).map liA)[i]? = some (liA l) := ⟨_, map_at liA (lsM j c t i) i (by rw [lsM_len]; exact hi)⟩
    obtain ⟨lm, hym⟩ := hym
    have hti := J.ti i hi
    have htk := tk_bd (C.k i hi) (by omega) (by omega)
    have hph : PhB (phO j i) := ⟨by omega, by omega, by omega, by omega⟩
    have hNi := hN i
    have ls := fun lv => lstep_c (phO j i) hph (liO c i) (by omega) lv
    have ck := conf_c j.cf (by omega) i t
    have es := lsM_succ j c t i
    have em : (lsM j c t (i + 1)).map liA = ((lsM j c t i).map liA).set i (liA (lpF (phO j i) (liO c i) (lvS j c t i))) := by rw [es, List.map_set]
    rw [em]
    have elv : lvS j c t i = _ := rfl
    conv at elv => rhs; unfold lvS
    have lsv := ls (lvS j c t i)
    clear ls es em CL hN ls0 lsE
    generalize lpF (phO j i) (liO c i) (lvS j c t i) = ln at *
    generalize (lsM j c t i).map liA = xs at *
    generalize lvS j c t i = lv at *
    generalize cfP j.cf i t = cq at *
    cases ha : aimF j t with
    | false =>
      rw [ha] at elv
      rw [if_neg (by decide)] at elv
      generalize phO j i = ph at *
      generalize liO c i = l at *
      by_cases hm : ph.maxg ≤ l.tk + 1
      · rw [decide_eq_true hm] at elv
        subst elv
        (have zc1 := lsv; refine WW ?_; clear zc1)
        rfl
      · rw [decide_eq_false hm] at elv
        subst elv
        (have zc1 := lsv; refine WW ?_; clear zc1)
        rfl
    | true =>
      rw [ha] at elv
      rw [if_pos rfl] at elv
      generalize phO j i = ph at *
      generalize liO c i = l at *
      by_cases hpt : (i : Int) = t
      · rw [decide_eq_false (fun h => h hpt)] at elv
        rw [Bool.false_and] at elv
        subst elv
        by_cases hm : ph.maxg ≤ l.tk + 1
        · (have zc1 := lsv; refine WW ?_; clear zc1)
          rfl
        · (have zc1 := lsv; refine WW ?_; clear zc1)
          rfl
      rw [decide_eq_true hpt, Bool.true_and] at elv
      by_cases hm : ph.maxg ≤ l.tk + 1
      · rw [decide_eq_true hm, Bool.true_or] at elv
        subst elv
        (have zc1 := lsv; refine WW ?_; clear zc1)
        rfl
      · rw [decide_eq_false hm, Bool.false_or] at elv
        rw [elv] at lsv
        clear elv
        cases cq with
        | true =>
          (have zc1 := ck; have zc2 := lsv; refine WW ?_; clear zc1 zc2)
          rfl
        | false =>
          (have zc1 := ck; have zc2 := lsv; refine WW ?_; clear zc1 zc2)
          rfl
  · rw [lsE]
    have e1 : ((lsF j c t).map liA).length = j.ph.length := by simp [lsF]
    clear lsE ls0 hN
    cases ha : aimF j t with
    | true =>
      rw [if_pos rfl]
      unfold aimF at ha
      rw [decide_eq_true_eq] at ha
      obtain ⟨tn, rfl⟩ : ∃ tn : Nat, t = tn := ⟨t.toNat, by omega⟩
      rw [Int.toNat_natCast]
      have cs := serve_c j J ⟨lsF j c tn, c.gr, c.nx, c.wt⟩ CL h0 tn (by omega)
      unfold ctH at cs
      dsimp only at cs
      rw [e1] at cs
      generalize svS j tn (svS j tn ⟨lsF j c tn, c.gr, c.nx, c.wt⟩ 0) 1 = c2 at *
      generalize (if (svS j tn ⟨lsF j c tn, c.gr, c.nx, c.wt⟩ 0).gr = c.gr then (svS j tn ⟨lsF j c tn, c.gr, c.nx, c.wt⟩ 0).nx else c.nx) = o at *
      generalize (lsF j c tn).map liA = xs at *
      clear CL
      cases hE : decide (c2.gr ≠ c.gr) with
      | true =>
        rw [hE, show ctX true c2 o = ctE c2 o from rfl] at cs
        unfold ctE at cs
        clear hE
        (have zc1 := cs; refine WW ?_; clear zc1)
        exact fin_ret [] rfl rfl (ctT_eq c2) rfl
      | false =>
        rw [hE, show ctX false c2 o = ctH c2 1002 from rfl] at cs
        unfold ctH at cs
        clear hE
        (have zc1 := cs; refine WW ?_; clear zc1)
        exact fin_ret [] rfl rfl (ctT_eq c2) rfl
    | false =>
      rw [if_neg (by decide)]
      have cs := cycle_c j J ⟨lsF j c t, c.gr, c.nx, c.wt⟩ CL h0
      unfold ctH at cs
      dsimp only at cs
      rw [e1] at cs
      generalize cyF j ⟨lsF j c t, c.gr, c.nx, c.wt⟩ = c2 at *
      generalize cyO ⟨lsF j c t, c.gr, c.nx, c.wt⟩ = e at *
      generalize (lsF j c t).map liA = xs at *
      clear CL
      cases e with
      | true =>
        rw [show ctX true c2 c.nx = ctE c2 c.nx from rfl] at cs
        unfold ctE at cs
        (have zc1 := cs; refine WW ?_; clear zc1)
        exact fin_ret [] rfl rfl (ctT_eq c2) rfl
      | false =>
        rw [show ctX false c2 c.nx = ctH c2 1002 from rfl] at cs
        unfold ctH at cs
        (have zc1 := cs; refine WW ?_; clear zc1)
        exact fin_ret [] rfl rfl (ctT_eq c2) rfl
end Av
end Go.Proofs.YtkliodbbcblobaaGreat
