
/- law17: token.Derive and token.Revoke where they do something. -/
import Derived.Test.YtjbldhhgooihfaaGreatRhA
namespace Go.Proofs.YtjbldhhgooihfaaGreat
namespace Av
set_option linter.unusedSimpArgs false
set_option linter.unusedVariables false
set_option maxRecDepth 4000
set_option maxHeartbeats 1000000
theorem nus_c (t : Tk) : CallSim Tryz.prog 97 [tkA t] [] (bA (!t.used)) [] := by
  obtain ⟨u, a, b, c, d, e⟩ := t
  cases u with
  | true =>
    rw [show tkA ⟨true, a, b, c, d, e⟩ = .agg [bA true, slA yA a, iA b, iA c, iA d, iA e] from rfl]
    (refine callSim_of tok Tryz.func97 rfl (fun args w => Tryz.call97 args w) rfl rfl rfl (fun F hF => ?_))
    (refine WW ?_)
    exact fin_ret [] rfl rfl rfl rfl
  | false =>
    rw [show tkA ⟨false, a, b, c, d, e⟩ = .agg [bA false, slA yA a, iA b, iA c, iA d, iA e] from rfl]
    (refine callSim_of tok Tryz.func97 rfl (fun args w => Tryz.call97 args w) rfl rfl rfl (fun F hF => ?_))
    (refine WW ?_)
    exact fin_ret [] rfl rfl rfl rfl
theorem ixT_c (l : List Tk) (hn : l.length ≤ 1000000) (k : Nat) (hk : k < l.length) (h1 : ∀ i, i < k → (l.getD i default).used = true) (h2 : (l.getD k default).used = false) : CallSim Tryz.prog 96 [slA tkA l, .fn 97 []] [] (iA k) [] := by
  have hl := map_len tkA l
  (refine callSim_of tok Tryz.func96 rfl (fun args w => Tryz.call96 args w) rfl rfl rfl (fun F hF => ?_))
  (refine WW ?_)
  (refine sim_cntP (l.length) [] [] [0, 1, 7] [8, 0, 1, 7] rfl (fun i T U zs => (i ≤ k) ∧ zs = ⟨(8, iA i) :: T, U⟩) ?_; (conv => whnf); refine ⟨?_, ?_, ?_⟩)
  · exact ⟨Nat.zero_le _, rfl⟩
  · rintro i st hi ⟨hik, rfl⟩
    have hy := map_at tkA l i hi
    have c := nus_c (l.getD i default)
    by_cases hie : i = k
    · subst hie
      rw [h2] at c
      generalize l.getD i default = t at *
      (repeat' (first | (refine is_ops ?_; first | refine x_auto tok rfl rfl ?_ | (refine is_call ?_; (refine is_cv ?_; first | refine x_q (stp_call (c) rfl rfl rfl rfl rfl) rfl ?_ | refine x_w (stp_call (c) rfl rfl rfl rfl rfl) rfl rfl rfl ?_ | refine x_d (stp_call (c) rfl rfl rfl rfl rfl) rfl rfl rfl ?_)) | (refine is_grd ?_; first | refine x_on rfl rfl ?_ | refine x_off rfl rfl rfl rfl ?_ | (refine x_gsplit rfl rfl (fun hc => ?_) (fun hc => ?_) <;> (try simp only [cmpB, decide_eq_true_eq, decide_eq_false_iff_not, beq_iff_eq, bne_iff_ne, ne_eq, Bool.not_eq_true, beq_eq_false_iff_ne, bne_eq_false_iff_eq, Int.not_lt, Int.not_le, Decidable.not_not] at hc))) | (refine is_bin ?_; first | refine x_q (stp_cmp_t rfl rfl rfl (by unfold cmpP; omega)) rfl ?_ | refine x_q (stp_cmp_f rfl rfl rfl (by unfold cmpP; omega)) rfl ?_ | refine x_q (stp_cmp rfl rfl rfl) rfl ?_ | refine x_q (stp_add rfl rfl ⟨by omega, by omega⟩) rfl ?_ | refine x_q (stp_sub rfl rfl ⟨by omega, by omega⟩) rfl ?_ | refine x_q (stp_mul rfl rfl ⟨by omega, by omega⟩) rfl ?_ | refine x_q (stp_quo rfl rfl (by assumption) (by omega)) rfl ?_ | refine x_q (stp_rem rfl rfl (by omega)) rfl ?_ | refine x_q (stp_xor rfl rfl) rfl ?_ | refine x_q (stp_shlI rfl rfl (by omega)) rfl ?_ | refine x_q (stp_shrI rfl rfl (by omega)) rfl ?_ | refine x_q (stp_shift (.inl ⟨rfl, rfl⟩) rfl rfl (by omega)) rfl ?_ | refine x_q (stp_shift (.inr ⟨rfl, rfl⟩) rfl rfl (by omega)) rfl ?_ | refine x_q (stp_bool2 tok rfl rfl rfl rfl (.inl ⟨rfl, rfl⟩)) rfl ?_ | refine x_q (stp_bool2 tok rfl rfl rfl rfl (.inr ⟨rfl, rfl⟩)) rfl ?_ | refine x_q (stp_eqlNil tok (.inl ⟨rfl, rfl⟩) rfl rfl rfl) rfl ?_ | refine x_q (stp_eqlNil_not tok (.inl ⟨rfl, rfl⟩) rfl rfl rfl rfl) rfl ?_ | refine x_q (stp_andI rfl rfl) rfl ?_ | refine x_q (stp_orI rfl rfl) rfl ?_ | refine x_q (stp_bicI rfl rfl) rfl ?_ | refine x_q (stp_strEqV rfl rfl (by assumption)) rfl ?_ | refine x_q (stp_strEq rfl rfl) rfl ?_ | refine x_q (stp_strNeV rfl rfl (by assumption)) rfl ?_ | refine x_q (stp_strNe rfl rfl) rfl ?_) | (refine is_idx ?_; first | refine x_q (stp_indexAddr_sl tok rfl rfl rfl rfl rfl (by omega) (by first | rfl | assumption) rfl rfl) rfl ?_ | refine x_q (stp_indexAddr_r0 tok rfl rfl rfl rfl rfl rfl (by omega) (by omega) rfl) rfl ?_ | refine x_q (stp_indexAddr_box tok rfl rfl rfl rfl rfl rfl (by omega) (by omega)) rfl ?_) | (refine is_load ?_; first | refine x_q (stp_load_fp1 tok rfl rfl rfl (by first | rfl | assumption) rfl) rfl ?_ | refine x_q (stp_load_fpa tok rfl rfl rfl (by first | rfl | assumption) rfl) rfl ?_ | refine x_q (stp_load_arr1 tok rfl rfl rfl rfl (by first | rfl | assumption) rfl) rfl ?_ | refine x_q (stp_load_arra tok rfl rfl rfl rfl (by first | rfl | assumption) rfl) rfl ?_) | (refine is_fad ?_; first | refine x_q (stp_fieldAddr_arr tok rfl rfl rfl rfl rfl rfl rfl rfl) rfl ?_ | refine x_q (stp_fieldAddr_fp tok rfl (by first | rfl | assumption) rfl rfl rfl rfl rfl rfl) rfl ?_) | (refine is_app ?_; first | refine x_appref0 tok rfl rfl rfl rfl rfl rfl rfl (by first | (intro y hy; cases hy; rfl) | exact map_hd _ _ (fun _ => rfl)) rfl rfl rfl (by first | omega | (simp; done) | (simp; omega)) rfl ?_ | refine x_appref tok rfl rfl rfl rfl rfl rfl rfl rfl rfl rfl rfl (by first | (intro y hy; cases hy; rfl) | exact map_hd _ _ (fun _ => rfl)) (by first | omega | (simp; done) | (simp; omega)) rfl ?_) | (refine is_un ?_; first | refine x_q (stp_neg rfl ⟨by omega, by omega⟩) rfl ?_) | (refine is_conv ?_; first | refine x_q (stp_conv_in tok rfl rfl rfl rfl ⟨by omega, by omega⟩) rfl ?_ | refine x_q (stp_conv tok rfl rfl rfl rfl) rfl ?_ | refine x_q (stp_convStr tok rfl rfl rfl rfl rfl rfl rfl (by first | rfl | assumption)) rfl ?_) | (refine is_slc ?_; first | refine x_slcL tok rfl rfl rfl rfl rfl (by first | (intro y hy; cases hy; rfl) | exact map_hd _ _ (fun _ => rfl) | (simp; done)) (by omega) (by simp; omega) (by first | exact List.map_drop.symm | rfl) rfl ?_ | refine x_slcH tok rfl rfl rfl rfl rfl (by first | (intro y hy; cases hy; rfl) | exact map_hd _ _ (fun _ => rfl) | (simp; done)) (by omega) (by simp; omega) (by first | exact List.map_take.symm | rfl) rfl ?_) | (refine is_mks ?_; refine x_mks tok rfl rfl rfl rfl rfl rfl rfl rfl rfl rfl rfl rfl rfl (by omega) (by omega) rfl rfl rfl ?_) | refine x_autow tok rfl rfl rfl rfl ?_ | (refine is_sto ?_; first | refine x_autos tok rfl rfl rfl ?_ | refine x_stoa tok rfl rfl rfl (by first | rfl | assumption) rfl rfl rfl rfl rfl rfl ?_ | refine x_sto1 tok rfl rfl rfl (by first | rfl | assumption) rfl rfl rfl rfl rfl rfl rfl rfl ?_) | refine x_nil ?_ | refine x_nilD (by kernel_rfl) ?_) | (first | refine sim_seq ?_ | refine x_region ?_ | refine x_draw rfl ?_ | refine sim_cond_true rfl ?_ | refine sim_cond_false rfl ?_ | (refine sim_cond rfl (fun hc => ?_) (fun hc => ?_) <;> (try simp only [cmpB, decide_eq_true_eq, decide_eq_false_iff_not, beq_iff_eq, bne_iff_ne, ne_eq, Bool.not_eq_true, beq_eq_false_iff_ne, bne_eq_false_iff_eq, Int.not_lt, Int.not_le, Decidable.not_not] at hc)) | refine sim_skip ?_ | refine sim_ret ?_ | refine sim_exit ?_ | refine sim_block ?_)))
      exact fin_ret [] rfl rfl rfl rfl
    · rw [h1 i (by omega)] at c
      generalize l.getD i default = t at *
      (repeat' (first | (refine is_ops ?_; first | refine x_auto tok rfl rfl ?_ | (refine is_call ?_; (refine is_cv ?_; first | refine x_q (stp_call (c) rfl rfl rfl rfl rfl) rfl ?_ | refine x_w (stp_call (c) rfl rfl rfl rfl rfl) rfl rfl rfl ?_ | refine x_d (stp_call (c) rfl rfl rfl rfl rfl) rfl rfl rfl ?_)) | (refine is_grd ?_; first | refine x_on rfl rfl ?_ | refine x_off rfl rfl rfl rfl ?_ | (refine x_gsplit rfl rfl (fun hc => ?_) (fun hc => ?_) <;> (try simp only [cmpB, decide_eq_true_eq, decide_eq_false_iff_not, beq_iff_eq, bne_iff_ne, ne_eq, Bool.not_eq_true, beq_eq_false_iff_ne, bne_eq_false_iff_eq, Int.not_lt, Int.not_le, Decidable.not_not] at hc))) | (refine is_bin ?_; first | refine x_q (stp_cmp_t rfl rfl rfl (by unfold cmpP; omega)) rfl ?_ | refine x_q (stp_cmp_f rfl rfl rfl (by unfold cmpP; omega)) rfl ?_ | refine x_q (stp_cmp rfl rfl rfl) rfl ?_ | refine x_q (stp_add rfl rfl ⟨by omega, by omega⟩) rfl ?_ | refine x_q (stp_sub rfl rfl ⟨by omega, by omega⟩) rfl ?_ | refine x_q (stp_mul rfl rfl ⟨by omega, by omega⟩) rfl ?_ | refine x_q (stp_quo rfl rfl (by assumption) (by omega)) rfl ?_ | refine x_q (stp_rem rfl rfl (by omega)) rfl ?_ | refine x_q (stp_xor rfl rfl) rfl ?_ | refine x_q (stp_shlI rfl rfl (by omega)) rfl ?_ | refine x_q (stp_shrI rfl rfl (by omega)) rfl ?_ | refine x_q (stp_shift (.inl ⟨rfl, rfl⟩) rfl rfl (by omega)) rfl ?_ | refine x_q (stp_shift (.inr ⟨rfl, rfl⟩) rfl rfl (by omega)) rfl ?_ | refine x_q (stp_bool2 tok rfl rfl rfl rfl (.inl ⟨rfl, rfl⟩)) rfl ?_ | refine x_q (stp_bool2 tok rfl rfl rfl rfl (.inr ⟨rfl, rfl⟩)) rfl ?_ | refine x_q (stp_eqlNil tok (.inl ⟨rfl, rfl⟩) rfl rfl rfl) rfl ?_ | refine x_q (stp_eqlNil_not tok (.inl ⟨rfl, rfl⟩) rfl rfl rfl rfl) rfl ?_ | refine x_q (stp_andI rfl rfl) rfl ?_ | refine x_q (stp_orI rfl rfl) rfl ?_ | refine x_q (stp_bicI rfl rfl) rfl ?_ | refine x_q (stp_strEqV rfl rfl (by assumption)) rfl ?_ | refine x_q (stp_strEq rfl rfl) rfl ?_ | refine x_q (stp_strNeV rfl rfl (by assumption)) rfl ?_ | refine x_q (stp_strNe rfl rfl) rfl ?_) | (refine is_idx ?_; first | refine x_q (stp_indexAddr_sl tok rfl rfl rfl rfl rfl (by omega) (by first | rfl | assumption) rfl rfl) rfl ?_ | refine x_q (stp_indexAddr_r0 tok rfl rfl rfl rfl rfl rfl (by omega) (by omega) rfl) rfl ?_ | refine x_q (stp_indexAddr_box tok rfl rfl rfl rfl rfl rfl (by omega) (by omega)) rfl ?_) | (refine is_load ?_; first | refine x_q (stp_load_fp1 tok rfl rfl rfl (by first | rfl | assumption) rfl) rfl ?_ | refine x_q (stp_load_fpa tok rfl rfl rfl (by first | rfl | assumption) rfl) rfl ?_ | refine x_q (stp_load_arr1 tok rfl rfl rfl rfl (by first | rfl | assumption) rfl) rfl ?_ | refine x_q (stp_load_arra tok rfl rfl rfl rfl (by first | rfl | assumption) rfl) rfl ?_) | (refine is_fad ?_; first | refine x_q (stp_fieldAddr_arr tok rfl rfl rfl rfl rfl rfl rfl rfl) rfl ?_ | refine x_q (stp_fieldAddr_fp tok rfl (by first | rfl | assumption) rfl rfl rfl rfl rfl rfl) rfl ?_) | (refine is_app ?_; first | refine x_appref0 tok rfl rfl rfl rfl rfl rfl rfl (by first | (intro y hy; cases hy; rfl) | exact map_hd _ _ (fun _ => rfl)) rfl rfl rfl (by first | omega | (simp; done) | (simp; omega)) rfl ?_ | refine x_appref tok rfl rfl rfl rfl rfl rfl rfl rfl rfl rfl rfl (by first | (intro y hy; cases hy; rfl) | exact map_hd _ _ (fun _ => rfl)) (by first | omega | (simp; done) | (simp; omega)) rfl ?_) | (refine is_un ?_; first | refine x_q (stp_neg rfl ⟨by omega, by omega⟩) rfl ?_) | (refine is_conv ?_; first | refine x_q (stp_conv_in tok rfl rfl rfl rfl ⟨by omega, by omega⟩) rfl ?_ | refine x_q (stp_conv tok rfl rfl rfl rfl) rfl ?_ | refine x_q (stp_convStr tok rfl rfl rfl rfl rfl rfl rfl (by first | rfl | assumption)) rfl ?_) | (refine is_slc ?_; first | refine x_slcL tok rfl rfl rfl rfl rfl (by first | (intro y hy; cases hy; rfl) | exact map_hd _ _ (fun _ => rfl) | (simp; done)) (by omega) (by simp; omega) (by first | exact List.map_drop.symm | rfl) rfl ?_ | refine x_slcH tok rfl rfl rfl rfl rfl (by first | (intro y hy; cases hy; rfl) | exact map_hd _ _ (fun _ => rfl) | (simp; done)) (by omega) (by simp; omega) (by first | exact List.map_take.symm | rfl) rfl ?_) | (refine is_mks ?_; refine x_mks tok rfl rfl rfl rfl rfl rfl rfl rfl rfl rfl rfl rfl rfl (by omega) (by omega) rfl rfl rfl ?_) | refine x_autow tok rfl rfl rfl rfl ?_ | (refine is_sto ?_; first | refine x_autos tok rfl rfl rfl ?_ | refine x_stoa tok rfl rfl rfl (by first | rfl | assumption) rfl rfl rfl rfl rfl rfl ?_ | refine x_sto1 tok rfl rfl rfl (by first | rfl | assumption) rfl rfl rfl rfl rfl rfl rfl rfl ?_) | refine x_nil ?_ | refine x_nilD (by kernel_rfl) ?_) | (first | refine sim_seq ?_ | refine x_region ?_ | refine x_draw rfl ?_ | refine sim_cond_true rfl ?_ | refine sim_cond_false rfl ?_ | (refine sim_cond rfl (fun hc => ?_) (fun hc => ?_) <;> (try simp only [cmpB, decide_eq_true_eq, decide_eq_false_iff_not, beq_iff_eq, bne_iff_ne, ne_eq, Bool.not_eq_true, beq_eq_false_iff_ne, bne_eq_false_iff_eq, Int.not_lt, Int.not_le, Decidable.not_not] at hc)) | refine sim_skip ?_ | refine sim_ret ?_ | refine sim_exit ?_ | refine sim_block ?_)))
      exact ⟨by omega, rfl⟩
  · rintro st ⟨hik, rfl⟩
    exfalso; omega
def unF (life now : Int) : Int := if 0 < life then now + life else 0
theorem tset_eq (l : List Tk) (k : Nat) (t : Tk) (n : Nat) (hn : n = l.length) : slA tkA (l.set k t) = .sl false (((l.map tkA).set k (tkA t)).take n) := by
  rw [← List.map_set, List.take_of_length_le (by simp; omega)]; rfl
theorem tderive_c (l : List Tk) (hb : TkB l) (hv : tvF l = true) (p R c life : Int) (sec : List Int) (hs : (sec.length : Int) = 8) (now : Int) (hnow : 0 ≤ now ∧ now ≤ 1000) (hu : usF l p = true) (hw : wiF R (l.getD p.toNat default).rights = true) (hc : 0 ≤ c ∧ c ≤ (l.getD p.toNat default).cls) (hl : 0 ≤ life ∧ life ≤ 600) (hla : laF (unF life now) (l.getD p.toNat default).til = false)
    (k : Nat) (hk : k < l.length) (h1 : ∀ i, i < k → (l.getD i default).used = true) (h2 : (l.getD k default).used = false) :
    CallSim Tryz.prog 61 [slA tkA l, iA p, iA R, iA c, iA life, slA yA sec, iA now] [] (.tup [slA tkA (l.set k ⟨true, sec, p, R, c, unF life now⟩), iA k, iA 0]) [] := by
  have hn := hb.n
  have c1 := tvalid_c l
  rw [hv] at c1
  have c2 := used_c l p
  rw [hu] at c2
  obtain ⟨hp0, hp1⟩ := usF_bd hu
  have hy := map_atI tkA l p hp0 hp1
  have c3 := within_c R (l.getD p.toNat default).rights
  rw [hw] at c3
  have c4 := later_c (unF life now) (l.getD p.toNat default).til
  rw [hla] at c4
  have c5 := ixT_c l hn k hk h1 h2
  have c6 := tclone_own l hb
  have c7 := cloneY_c sec (by omega)
  have hll := map_len tkA l
  have hls := map_len yA sec
  have hyk := map_at tkA l k hk
  have eS := tset_eq l k ⟨true, sec, p, R, c, unF life now⟩ (l.map tkA).length hll
  rw [eS]
  clear eS hu hw hla h1 h2 hv
  generalize l.getD p.toNat default = t at *
  generalize l.getD k default = tk at *
  have hun : unF life now = if 0 < life then now + life else 0 := rfl
  generalize unF life now = un at *
  by_cases h0 : 0 < life
  · rw [if_pos h0] at hun
    subst hun
    (refine callSim_of tok Tryz.func61 rfl (fun args w => Tryz.call61 args w) rfl rfl rfl (fun F hF => ?_))
    (have zc1 := c1; have zc2 := c2; have zc3 := c3; have zc4 := c4; have zc5 := c5; have zc6 := c6; have zc7 := c7; refine WW ?_; clear zc1 zc2 zc3 zc4 zc5 zc6 zc7)
    exact fin_ret [] rfl rfl rfl rfl
  · rw [if_neg h0] at hun
    subst hun
    (refine callSim_of tok Tryz.func61 rfl (fun args w => Tryz.call61 args w) rfl rfl rfl (fun F hF => ?_))
    (have zc1 := c1; have zc2 := c2; have zc3 := c3; have zc4 := c4; have zc5 := c5; have zc6 := c6; have zc7 := c7; refine WW ?_; clear zc1 zc2 zc3 zc4 zc5 zc6 zc7)
    exact fin_ret [] rfl rfl rfl rfl
/-! ### Revoke -/
def rvAt (l : List Tk) (s : Int) (j : Nat) : Tk := if deF l j s = true then frT else l.getD j default
def rvS (l : List Tk) (s : Int) (n : Nat) : List Tk := (List.range l.length).map fun j => if j < n then rvAt l s j else l.getD j default
theorem rvS_len (l : List Tk) (s : Int) (n : Nat) : (rvS l s n).length = l.length := by simp [rvS]
theorem rvS_zero (l : List Tk) (s : Int) : rvS l s 0 = l := by
  apply List.ext_getElem?
  intro i
  unfold rvS
  rw [List.getElem?_map]
  by_cases h : i < l.length
  · rw [List.getElem?_range h]; simp [h, List.getD]
  · rw [List.getElem?_eq_none (l := List.range l.length) (by simp; omega), List.getElem?_eq_none (by omega)]; rfl
theorem rvS_at (l : List Tk) (s : Int) (n : Nat) (h : n < l.length) : (rvS l s n)[n]? = some (l.getD n default) := by
  unfold rvS
  rw [List.getElem?_map, List.getElem?_range h]
  simp
theorem rvS_succ (l : List Tk) (s : Int) (n : Nat) (h : n < l.length) : rvS l s (n + 1) = (rvS l s n).set n (rvAt l s n) := by
  apply List.ext_getElem?
  intro i
  rw [List.getElem?_set]
  unfold rvS
  rw [List.getElem?_map, List.getElem?_map, List.length_map, List.length_range]
  by_cases hi : i < l.length
  · rw [List.getElem?_range hi]
    by_cases e : n = i
    · subst e
      rw [if_pos rfl, if_pos hi]
      simp
    · rw [if_neg e]
      simp only [Option.map_some]
      by_cases h1 : i < n
      · rw [if_pos h1, if_pos (by omega)]
      · rw [if_neg h1, if_neg (by omega)]
  · rw [List.getElem?_eq_none (l := List.range l.length) (by simp; omega), if_neg (by omega)]
    rfl
theorem trevoke_c (l : List Tk) (hb : TkB l) (hv : tvF l = true) (s : Int) (hs : 1 ≤ s ∧ s < 8) (h8 : l.length = 8) (hu : (l.getD s.toNat default).used = true) : CallSim Tryz.prog 29 [slA tkA l, iA s] [] (.tup [slA tkA (rvS l s l.length), iA 0]) [] := by
  have c1 := tvalid_c l
  rw [hv] at c1
  have c2 := tclone_own l hb
  have hll := map_len tkA l
  have hy := map_atI tkA l s (by omega) (by omega)
  have hd := fun j => desc_c l j s
  have fc := free_c
  generalize l.getD s.toNat default = t at *
  obtain ⟨u, a1, a2, a3, a4, a5⟩ := t
  dsimp only at hu
  subst hu
  rw [show tkA ⟨true, a1, a2, a3, a4, a5⟩ = .agg [bA true, slA yA a1, iA a2, iA a3, iA a4, iA a5] from rfl] at hy
  (refine callSim_of tok Tryz.func29 rfl (fun args w => Tryz.call29 args w) rfl rfl rfl (fun F hF => ?_))
  (have zc1 := c1; have zc2 := c2; refine WW ?_; clear zc1 zc2)
  (refine sim_cnt (l.length) [1001] [] [0, 1, 6, 26] [27, 0, 1, 6, 26] rfl (fun i T U => ⟨(27, iA i) :: T, (1001, .arr 6 ((rvS l s i).map tkA) false) :: U⟩) ?_; (conv => whnf); refine ⟨by (rw [rvS_zero]; rfl), ?_, ?_⟩)
  · intro i hi
    have hyi : ((rvS l s i).map tkA)[i]? = some (tkA (l.getD i default)) := by rw [List.getElem?_map, rvS_at l s i hi]; rfl
    have c3 := hd i
    have hrl : i < ((rvS l s i).map tkA).length := by rw [List.length_map, rvS_len]; exact hi
    rw [rvS_succ l s i hi, List.map_set]
    have hset : (l.getD i default) = (l.getD i default) := rfl
    have hsame : ((rvS l s i).map tkA).set i (tkA (l.getD i default)) = (rvS l s i).map tkA := by
      rw [List.getElem?_eq_some_iff] at hyi
      obtain ⟨h, e⟩ := hyi
      rw [← e, List.set_getElem_self]
    unfold rvAt
    cases hde : deF l i s with
    | true =>
      rw [hde] at c3
      rw [if_pos rfl]
      generalize (rvS l s i).map tkA = xs at *
      generalize l.getD i default = ti at *
      clear hsame hset hd c1 c2
      (have zc1 := c3; have zc2 := fc; refine WW ?_; clear zc1 zc2)
      rfl
    | false =>
      rw [hde] at c3
      rw [if_neg Bool.false_ne_true, hsame]
      generalize (rvS l s i).map tkA = xs at *
      clear hsame hset hd c1 c2 fc
      (have zc1 := c3; refine WW ?_; clear zc1)
      rfl
  · have hle := rvS_len l s l.length
    rw [show slA tkA (rvS l s l.length) = .sl false (((rvS l s l.length).map tkA).take (l.map tkA).length) by rw [List.take_of_length_le (by simp [hle])]; rfl]
    generalize (rvS l s l.length).map tkA = xs at *
    (refine WW ?_)
    exact fin_ret [] rfl rfl rfl rfl
end Av
end Go.Proofs.YtjbldhhgooihfaaGreat
