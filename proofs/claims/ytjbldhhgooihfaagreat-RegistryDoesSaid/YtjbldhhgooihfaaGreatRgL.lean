
/- law17: the reference's Register. -/
import Derived.Test.YtjbldhhgooihfaaGreatRgK
namespace Go.Proofs.YtjbldhhgooihfaaGreat
namespace Av
set_option linter.unusedSimpArgs false
set_option linter.unusedVariables false
set_option maxRecDepth 4000
set_option maxHeartbeats 1000000
theorem place_ex (l : List Vh) (id : Int) : ∃ k, k ≤ l.length ∧ (∀ i, i < k → (l.getD i default).id < id) ∧ (k < l.length → ¬ (l.getD k default).id < id) := by
  induction l with
  | nil => exact ⟨0, Nat.le_refl _, fun i h => absurd h (Nat.not_lt_zero _), fun h => absurd h (by simp)⟩
  | cons x l ih =>
    obtain ⟨k, h1, h2, h3⟩ := ih
    by_cases hx : x.id < id
    · refine ⟨k + 1, by simpa using h1, fun i hi => ?_, fun hk => ?_⟩
      · cases i with
        | zero => exact hx
        | succ i => exact h2 i (by omega)
      · exact h3 (by simpa using hk)
    · exact ⟨0, Nat.zero_le _, fun i h => absurd h (Nat.not_lt_zero _), fun _ => hx⟩
theorem vv_at {l : List Vh} : vvF l = true ↔ l.length ≤ 8 ∧ ∀ i, i < l.length → (0 ≤ (l.getD i default).id ∧ (l.getD i default).id ≤ 4294967295 ∧ 0 ≤ (l.getD i default).cls ∧ (l.getD i default).cls ≤ 3) ∧ (0 < i → (l.getD (i - 1) default).id < (l.getD i default).id) := by
  unfold vvF
  simp only [Bool.and_eq_true, decide_eq_true_eq, List.all_eq_true, List.mem_range]
  constructor
  · rintro ⟨h1, h2⟩
    refine ⟨by omega, fun i hi => ?_⟩
    have := h1 i hi
    unfold vokF at this
    rw [decide_eq_true_eq] at this
    exact ⟨⟨this.1, this.2.1, this.2.2.1, this.2.2.2.1⟩, this.2.2.2.2⟩
  · rintro ⟨h1, h2⟩
    refine ⟨fun i hi => ?_, by omega⟩
    unfold vokF
    rw [decide_eq_true_eq]
    have := h2 i hi
    exact ⟨this.1.1, this.1.2.1, this.1.2.2.1, this.1.2.2.2, this.2⟩
theorem ins_at (l : List Vh) (v : Vh) (k i : Nat) (hk : k ≤ l.length) : (l.take k ++ v :: l.drop k).getD i default = if i < k then l.getD i default else if i = k then v else l.getD (i - 1) default := by
  simp only [List.getD_eq_getElem?_getD]
  split
  · rename_i h
    rw [List.getElem?_append_left (by simp; omega), List.getElem?_take, if_pos h]
  · rename_i h
    rw [List.getElem?_append_right (by simp; omega), List.length_take, Nat.min_eq_left hk]
    split
    · rename_i h2
      rw [h2, Nat.sub_self]; rfl
    · rename_i h2
      obtain ⟨j, rfl⟩ : ∃ j, i = k + (j + 1) := ⟨i - k - 1, by omega⟩
      rw [show k + (j + 1) - k = j + 1 by omega, List.getElem?_cons_succ, List.getElem?_drop]
      rfl
theorem vv_ins {l : List Vh} {v : Vh} {k : Nat} (hok : vvF l = true) (htw : hasV l v.id = false) (h1 : 0 ≤ v.id ∧ v.id ≤ 4294967295) (h3 : 0 ≤ v.cls ∧ v.cls ≤ 3) (h8 : l.length < 8) (k1 : k ≤ l.length) (k2 : ∀ i, i < k → (l.getD i default).id < v.id) (k3 : k < l.length → ¬ (l.getD k default).id < v.id) : vvF (l.take k ++ v :: l.drop k) = true := by
  rw [vv_at] at hok ⊢
  obtain ⟨_, ho⟩ := hok
  have hlen : (l.take k ++ v :: l.drop k).length = l.length + 1 := by simp; omega
  refine ⟨by omega, fun i hi => ?_⟩
  rw [ins_at l v k i k1]
  have hne : ∀ j, j < l.length → (l.getD j default).id ≠ v.id := fun j hj e => by
    have := List.any_eq_false.1 htw (l.getD j default) (by simp [List.getD, hj])
    exact this (by rw [beq_iff_eq]; exact e)
  rcases Nat.lt_trichotomy i k with h | h | h
  · rw [if_pos h]
    refine ⟨(ho i (by omega)).1, fun h0 => ?_⟩
    rw [ins_at l v k _ k1, if_pos (by omega)]
    exact (ho i (by omega)).2 h0
  · rw [if_neg (by omega), if_pos h]
    refine ⟨⟨h1.1, h1.2, h3.1, h3.2⟩, fun h0 => ?_⟩
    rw [ins_at l v k _ k1, if_pos (by omega)]
    exact k2 _ (by omega)
  · rw [if_neg (by omega), if_neg (by omega)]
    refine ⟨(ho (i - 1) (by omega)).1, fun h0 => ?_⟩
    rw [ins_at l v k _ k1, if_neg (by omega)]
    by_cases hik : i - 1 = k
    · rw [if_pos hik]
      have q1 := k3 (by omega)
      have q2 := hne k (by omega)
      rw [hik]
      omega
    · rw [if_neg hik]
      exact (ho (i - 1) (by omega)).2 (by omega)
theorem register2_ex (l : List Vh) (hn : l.length ≤ 1000000) (a : Ag) (hlim : (a.lim.length : Int) = 4) (hcl : 0 ≤ a.cls ∧ a.cls ≤ 3) (v : Vh) : ∃ (l' : List Vh) (e : Int), CallSim Tryz.prog 39 [slA vhA l, agA a, vhA v, iA 3] [] (.tup [slA vhA l', iA e]) [] ∧ (e = 0 → l'.length ≤ 8 ∧ vvF l' = true) := by
  have hll := map_len vhA l
  have hla := map_len iA a.lim
  have c1 := find2_c l v.id hn
  have c2 := vvalid2_c l hn
  have c3 := count3_c l v.cls hn
  have hcl3 : min a.cls 3 = a.cls := by omega
  generalize hf : findV l v.id = fv at *
  generalize htw : hasV l v.id = tw at *
  generalize hok : vvF l = ok at *
  generalize countV l v.cls = cn at *
  cases ok
  · refine ⟨[], 1, ?_, fun h => by omega⟩
    (refine callSim_of tok Tryz.func39 rfl (fun args w => Tryz.call39 args w) rfl rfl rfl (fun F hF => ?_))
    (have zc1 := c1; have zc2 := c2; refine WL ?_; clear zc1 zc2)
    exact fin_ret [] rfl rfl rfl rfl
  by_cases h1 : 0 ≤ v.id ∧ v.id ≤ 4294967295
  case neg =>
    refine ⟨[], 8, ?_, fun h => by omega⟩
    by_cases g1 : 0 ≤ v.id <;> ((refine callSim_of tok Tryz.func39 rfl (fun args w => Tryz.call39 args w) rfl rfl rfl (fun F hF => ?_)); ((have zc1 := c1; have zc2 := c2; refine WL ?_; clear zc1 zc2)); exact fin_ret [] rfl rfl rfl rfl)
  obtain ⟨h1, h2⟩ := h1
  by_cases h3 : 0 ≤ v.cls ∧ v.cls ≤ a.cls
  case neg =>
    refine ⟨[], 17, ?_, fun h => by omega⟩
    by_cases g1 : 0 ≤ v.cls <;> ((refine callSim_of tok Tryz.func39 rfl (fun args w => Tryz.call39 args w) rfl rfl rfl (fun F hF => ?_)); ((have zc1 := c1; have zc2 := c2; refine WL ?_; clear zc1 zc2)); exact fin_ret [] rfl rfl rfl rfl)
  obtain ⟨h3, h4⟩ := h3
  cases tw
  case true =>
    refine ⟨[], 11, ?_, fun h => by omega⟩
    (refine callSim_of tok Tryz.func39 rfl (fun args w => Tryz.call39 args w) rfl rfl rfl (fun F hF => ?_))
    (have zc1 := c1; have zc2 := c2; refine WL ?_; clear zc1 zc2)
    exact fin_ret [] rfl rfl rfl rfl
  have hyl := map_atI iA a.lim v.cls h3 (by omega)
  generalize a.lim.getD v.cls.toNat default = lim at *
  by_cases h5 : lim ≤ cn
  · refine ⟨[], 14, ?_, fun h => by omega⟩
    (refine callSim_of tok Tryz.func39 rfl (fun args w => Tryz.call39 args w) rfl rfl rfl (fun F hF => ?_))
    (have zc1 := c1; have zc2 := c2; have zc3 := c3; refine WL ?_; clear zc1 zc2 zc3)
    exact fin_ret [] rfl rfl rfl rfl
  by_cases h6 : l.length < 8
  case neg =>
    refine ⟨[], 10, ?_, fun h => by omega⟩
    (refine callSim_of tok Tryz.func39 rfl (fun args w => Tryz.call39 args w) rfl rfl rfl (fun F hF => ?_))
    (have zc1 := c1; have zc2 := c2; have zc3 := c3; refine WL ?_; clear zc1 zc2 zc3)
    exact fin_ret [] rfl rfl rfl rfl
  obtain ⟨k, k1, k2, k3⟩ := place_ex l v.id
  refine ⟨l.take k ++ v :: l.drop k, 0, ?_, fun _ => ⟨by simp; omega, vv_ins hok htw ⟨h1, h2⟩ (by omega) (by omega) k1 k2 k3⟩⟩
  clear hok htw
  (refine callSim_of tok Tryz.func39 rfl (fun args w => Tryz.call39 args w) rfl rfl rfl (fun F hF => ?_))
  (have zc1 := c1; have zc2 := c2; have zc3 := c3; refine WL ?_; clear zc1 zc2 zc3)
  (refine sim_cntP (l.length + 1) [6] [6] [0, 6] [12, 0, 6] rfl (fun i T U zs => (i ≤ k) ∧ zs = ⟨(12, iA i) :: T, U⟩) ?_; (conv => whnf); refine ⟨?_, ?_, ?_⟩)
  · exact ⟨Nat.zero_le _, rfl⟩
  · rintro i st hi ⟨hik, rfl⟩
    by_cases hlt : i < k
    · have hy := map_at vhA l i (by omega)
      have hh := k2 i hlt
      generalize l.getD i default = x at *
      (refine WW ?_)
      exact ⟨by omega, rfl⟩
    · obtain rfl : i = k := by omega
      by_cases hkl : i < l.length
      · have hy := map_at vhA l i hkl
        have hh := k3 hkl
        generalize l.getD i default = x at *
        (repeat' (first | (refine is_ops ?_; first | refine x_auto tok rfl rfl ?_ | (refine is_call ?_; fail) | (refine is_grd ?_; first | refine x_on rfl rfl ?_ | refine x_off rfl rfl rfl rfl ?_ | (refine x_gsplit rfl rfl (fun hc => ?_) (fun hc => ?_) <;> (try simp only [cmpB, decide_eq_true_eq, decide_eq_false_iff_not, beq_iff_eq, bne_iff_ne, ne_eq, Bool.not_eq_true, beq_eq_false_iff_ne, bne_eq_false_iff_eq, Int.not_lt, Int.not_le, Decidable.not_not] at hc))) | (refine is_bin ?_; first | refine x_q (stp_cmp_t rfl rfl rfl (by unfold cmpP; omega)) rfl ?_ | refine x_q (stp_cmp_f rfl rfl rfl (by unfold cmpP; omega)) rfl ?_ | refine x_q (stp_cmp rfl rfl rfl) rfl ?_ | refine x_q (stp_add rfl rfl ⟨by omega, by omega⟩) rfl ?_ | refine x_q (stp_sub rfl rfl ⟨by omega, by omega⟩) rfl ?_ | refine x_q (stp_mul rfl rfl ⟨by omega, by omega⟩) rfl ?_ | refine x_q (stp_quo rfl rfl (by assumption) (by omega)) rfl ?_ | refine x_q (stp_rem rfl rfl (by omega)) rfl ?_ | refine x_q (stp_xor rfl rfl) rfl ?_ | refine x_q (stp_shlI rfl rfl (by omega)) rfl ?_ | refine x_q (stp_shrI rfl rfl (by omega)) rfl ?_ | refine x_q (stp_shift (.inl ⟨rfl, rfl⟩) rfl rfl (by omega)) rfl ?_ | refine x_q (stp_shift (.inr ⟨rfl, rfl⟩) rfl rfl (by omega)) rfl ?_ | refine x_q (stp_bool2 tok rfl rfl rfl rfl (.inl ⟨rfl, rfl⟩)) rfl ?_ | refine x_q (stp_bool2 tok rfl rfl rfl rfl (.inr ⟨rfl, rfl⟩)) rfl ?_ | refine x_q (stp_eqlNil tok (.inl ⟨rfl, rfl⟩) rfl rfl rfl) rfl ?_ | refine x_q (stp_eqlNil_not tok (.inl ⟨rfl, rfl⟩) rfl rfl rfl rfl) rfl ?_ | refine x_q (stp_andI rfl rfl) rfl ?_ | refine x_q (stp_orI rfl rfl) rfl ?_ | refine x_q (stp_bicI rfl rfl) rfl ?_ | refine x_q (stp_strEqV rfl rfl (by assumption)) rfl ?_ | refine x_q (stp_strEq rfl rfl) rfl ?_ | refine x_q (stp_strNeV rfl rfl (by assumption)) rfl ?_ | refine x_q (stp_strNe rfl rfl) rfl ?_) | (refine is_idx ?_; first | refine x_q (stp_indexAddr_sl tok rfl rfl rfl rfl rfl (by omega) (by first | rfl | assumption) rfl rfl) rfl ?_ | refine x_q (stp_indexAddr_r0 tok rfl rfl rfl rfl rfl rfl (by omega) (by omega) rfl) rfl ?_ | refine x_q (stp_indexAddr_box tok rfl rfl rfl rfl rfl rfl (by omega) (by omega)) rfl ?_) | (refine is_load ?_; first | refine x_q (stp_load_fp1 tok rfl rfl rfl (by first | rfl | assumption) rfl) rfl ?_ | refine x_q (stp_load_fpa tok rfl rfl rfl (by first | rfl | assumption) rfl) rfl ?_ | refine x_q (stp_load_arr1 tok rfl rfl rfl rfl (by first | rfl | assumption) rfl) rfl ?_ | refine x_q (stp_load_arra tok rfl rfl rfl rfl (by first | rfl | assumption) rfl) rfl ?_) | (refine is_fad ?_; first | refine x_q (stp_fieldAddr_arr tok rfl rfl rfl rfl rfl rfl rfl rfl) rfl ?_ | refine x_q (stp_fieldAddr_fp tok rfl (by first | rfl | assumption) rfl rfl rfl rfl rfl rfl) rfl ?_) | (refine is_app ?_; first | refine x_appref0 tok rfl rfl rfl rfl rfl rfl rfl (by first | (intro y hy; cases hy; rfl) | exact map_hd _ _ (fun _ => rfl)) rfl rfl rfl (by first | omega | (simp; done) | (simp; omega)) rfl ?_ | refine x_appref tok rfl rfl rfl rfl rfl rfl rfl rfl rfl rfl rfl (by first | (intro y hy; cases hy; rfl) | exact map_hd _ _ (fun _ => rfl)) (by first | omega | (simp; done) | (simp; omega)) rfl ?_) | (refine is_un ?_; first | refine x_q (stp_neg rfl ⟨by omega, by omega⟩) rfl ?_) | (refine is_conv ?_; first | refine x_q (stp_conv_in tok rfl rfl rfl rfl ⟨by omega, by omega⟩) rfl ?_ | refine x_q (stp_conv tok rfl rfl rfl rfl) rfl ?_ | refine x_q (stp_convStr tok rfl rfl rfl rfl rfl rfl rfl (by first | rfl | assumption)) rfl ?_) | (refine is_slc ?_; first | refine x_slcL tok rfl rfl rfl rfl rfl (by first | (intro y hy; cases hy; rfl) | exact map_hd _ _ (fun _ => rfl) | (simp; done)) (by omega) (by simp; omega) (by first | exact List.map_drop.symm | rfl) rfl ?_ | refine x_slcH tok rfl rfl rfl rfl rfl (by first | (intro y hy; cases hy; rfl) | exact map_hd _ _ (fun _ => rfl) | (simp; done)) (by omega) (by simp; omega) (by first | exact List.map_take.symm | rfl) rfl ?_) | (refine is_app ?_; refine x_appnilK 1001 tok rfl rfl rfl rfl rfl rfl (map_hd _ _ (fun _ => rfl)) rfl rfl rfl (by simp; omega) rfl rfl rfl ?_) | (refine is_bsl ?_; refine x_lit tok rfl rfl ?_) | refine x_autow tok rfl rfl rfl rfl ?_ | (refine is_sto ?_; first | refine x_autos tok rfl rfl rfl ?_ | refine x_stoa tok rfl rfl rfl (by first | rfl | assumption) rfl rfl rfl rfl rfl rfl ?_ | refine x_sto1 tok rfl rfl rfl (by first | rfl | assumption) rfl rfl rfl rfl rfl rfl rfl rfl ?_) | refine x_nil ?_ | refine x_nilD (by kernel_rfl) ?_) | (first | refine sim_seq ?_ | refine x_region ?_ | refine x_draw rfl ?_ | refine sim_cond_true rfl ?_ | refine sim_cond_false rfl ?_ | (refine sim_cond rfl (fun hc => ?_) (fun hc => ?_) <;> (try simp only [cmpB, decide_eq_true_eq, decide_eq_false_iff_not, beq_iff_eq, bne_iff_ne, ne_eq, Bool.not_eq_true, beq_eq_false_iff_ne, bne_eq_false_iff_eq, Int.not_lt, Int.not_le, Decidable.not_not] at hc)) | refine sim_skip ?_ | refine sim_ret ?_ | refine sim_exit ?_ | refine sim_block ?_)))
        exact fin_ret [] rfl rfl (congrArg (fun z => AV.tup [AV.sl false z, iA 0]) (by rw [List.drop_zero, List.take_length]; simp [List.map_take, List.map_drop, vhA, iA])) rfl
      · (repeat' (first | (refine is_ops ?_; first | refine x_auto tok rfl rfl ?_ | (refine is_call ?_; fail) | (refine is_grd ?_; first | refine x_on rfl rfl ?_ | refine x_off rfl rfl rfl rfl ?_ | (refine x_gsplit rfl rfl (fun hc => ?_) (fun hc => ?_) <;> (try simp only [cmpB, decide_eq_true_eq, decide_eq_false_iff_not, beq_iff_eq, bne_iff_ne, ne_eq, Bool.not_eq_true, beq_eq_false_iff_ne, bne_eq_false_iff_eq, Int.not_lt, Int.not_le, Decidable.not_not] at hc))) | (refine is_bin ?_; first | refine x_q (stp_cmp_t rfl rfl rfl (by unfold cmpP; omega)) rfl ?_ | refine x_q (stp_cmp_f rfl rfl rfl (by unfold cmpP; omega)) rfl ?_ | refine x_q (stp_cmp rfl rfl rfl) rfl ?_ | refine x_q (stp_add rfl rfl ⟨by omega, by omega⟩) rfl ?_ | refine x_q (stp_sub rfl rfl ⟨by omega, by omega⟩) rfl ?_ | refine x_q (stp_mul rfl rfl ⟨by omega, by omega⟩) rfl ?_ | refine x_q (stp_quo rfl rfl (by assumption) (by omega)) rfl ?_ | refine x_q (stp_rem rfl rfl (by omega)) rfl ?_ | refine x_q (stp_xor rfl rfl) rfl ?_ | refine x_q (stp_shlI rfl rfl (by omega)) rfl ?_ | refine x_q (stp_shrI rfl rfl (by omega)) rfl ?_ | refine x_q (stp_shift (.inl ⟨rfl, rfl⟩) rfl rfl (by omega)) rfl ?_ | refine x_q (stp_shift (.inr ⟨rfl, rfl⟩) rfl rfl (by omega)) rfl ?_ | refine x_q (stp_bool2 tok rfl rfl rfl rfl (.inl ⟨rfl, rfl⟩)) rfl ?_ | refine x_q (stp_bool2 tok rfl rfl rfl rfl (.inr ⟨rfl, rfl⟩)) rfl ?_ | refine x_q (stp_eqlNil tok (.inl ⟨rfl, rfl⟩) rfl rfl rfl) rfl ?_ | refine x_q (stp_eqlNil_not tok (.inl ⟨rfl, rfl⟩) rfl rfl rfl rfl) rfl ?_ | refine x_q (stp_andI rfl rfl) rfl ?_ | refine x_q (stp_orI rfl rfl) rfl ?_ | refine x_q (stp_bicI rfl rfl) rfl ?_ | refine x_q (stp_strEqV rfl rfl (by assumption)) rfl ?_ | refine x_q (stp_strEq rfl rfl) rfl ?_ | refine x_q (stp_strNeV rfl rfl (by assumption)) rfl ?_ | refine x_q (stp_strNe rfl rfl) rfl ?_) | (refine is_idx ?_; first | refine x_q (stp_indexAddr_sl tok rfl rfl rfl rfl rfl (by omega) (by first | rfl | assumption) rfl rfl) rfl ?_ | refine x_q (stp_indexAddr_r0 tok rfl rfl rfl rfl rfl rfl (by omega) (by omega) rfl) rfl ?_ | refine x_q (stp_indexAddr_box tok rfl rfl rfl rfl rfl rfl (by omega) (by omega)) rfl ?_) | (refine is_load ?_; first | refine x_q (stp_load_fp1 tok rfl rfl rfl (by first | rfl | assumption) rfl) rfl ?_ | refine x_q (stp_load_fpa tok rfl rfl rfl (by first | rfl | assumption) rfl) rfl ?_ | refine x_q (stp_load_arr1 tok rfl rfl rfl rfl (by first | rfl | assumption) rfl) rfl ?_ | refine x_q (stp_load_arra tok rfl rfl rfl rfl (by first | rfl | assumption) rfl) rfl ?_) | (refine is_fad ?_; first | refine x_q (stp_fieldAddr_arr tok rfl rfl rfl rfl rfl rfl rfl rfl) rfl ?_ | refine x_q (stp_fieldAddr_fp tok rfl (by first | rfl | assumption) rfl rfl rfl rfl rfl rfl) rfl ?_) | (refine is_app ?_; first | refine x_appref0 tok rfl rfl rfl rfl rfl rfl rfl (by first | (intro y hy; cases hy; rfl) | exact map_hd _ _ (fun _ => rfl)) rfl rfl rfl (by first | omega | (simp; done) | (simp; omega)) rfl ?_ | refine x_appref tok rfl rfl rfl rfl rfl rfl rfl rfl rfl rfl rfl (by first | (intro y hy; cases hy; rfl) | exact map_hd _ _ (fun _ => rfl)) (by first | omega | (simp; done) | (simp; omega)) rfl ?_) | (refine is_un ?_; first | refine x_q (stp_neg rfl ⟨by omega, by omega⟩) rfl ?_) | (refine is_conv ?_; first | refine x_q (stp_conv_in tok rfl rfl rfl rfl ⟨by omega, by omega⟩) rfl ?_ | refine x_q (stp_conv tok rfl rfl rfl rfl) rfl ?_ | refine x_q (stp_convStr tok rfl rfl rfl rfl rfl rfl rfl (by first | rfl | assumption)) rfl ?_) | (refine is_slc ?_; first | refine x_slcL tok rfl rfl rfl rfl rfl (by first | (intro y hy; cases hy; rfl) | exact map_hd _ _ (fun _ => rfl) | (simp; done)) (by omega) (by simp; omega) (by first | exact List.map_drop.symm | rfl) rfl ?_ | refine x_slcH tok rfl rfl rfl rfl rfl (by first | (intro y hy; cases hy; rfl) | exact map_hd _ _ (fun _ => rfl) | (simp; done)) (by omega) (by simp; omega) (by first | exact List.map_take.symm | rfl) rfl ?_) | (refine is_app ?_; refine x_appnilK 1001 tok rfl rfl rfl rfl rfl rfl (map_hd _ _ (fun _ => rfl)) rfl rfl rfl (by simp; omega) rfl rfl rfl ?_) | (refine is_bsl ?_; refine x_lit tok rfl rfl ?_) | refine x_autow tok rfl rfl rfl rfl ?_ | (refine is_sto ?_; first | refine x_autos tok rfl rfl rfl ?_ | refine x_stoa tok rfl rfl rfl (by first | rfl | assumption) rfl rfl rfl rfl rfl rfl ?_ | refine x_sto1 tok rfl rfl rfl (by first | rfl | assumption) rfl rfl rfl rfl rfl rfl rfl rfl ?_) | refine x_nil ?_ | refine x_nilD (by kernel_rfl) ?_) | (first | refine sim_seq ?_ | refine x_region ?_ | refine x_draw rfl ?_ | refine sim_cond_true rfl ?_ | refine sim_cond_false rfl ?_ | (refine sim_cond rfl (fun hc => ?_) (fun hc => ?_) <;> (try simp only [cmpB, decide_eq_true_eq, decide_eq_false_iff_not, beq_iff_eq, bne_iff_ne, ne_eq, Bool.not_eq_true, beq_eq_false_iff_ne, bne_eq_false_iff_eq, Int.not_lt, Int.not_le, Decidable.not_not] at hc)) | refine sim_skip ?_ | refine sim_ret ?_ | refine sim_exit ?_ | refine sim_block ?_)))
        exact fin_ret [] rfl rfl (congrArg (fun z => AV.tup [AV.sl false z, iA 0]) (by rw [List.drop_zero, List.take_length]; simp [List.map_take, List.map_drop, vhA, iA])) rfl
  · rintro st ⟨hik, rfl⟩
    exfalso; omega
end Av
end Go.Proofs.YtjbldhhgooihfaaGreat
