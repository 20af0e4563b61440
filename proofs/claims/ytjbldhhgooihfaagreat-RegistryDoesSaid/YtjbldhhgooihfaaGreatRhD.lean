
/- law17: token.Derive and the reference's, exactly. -/
import Derived.Test.YtjbldhhgooihfaaGreatRhB
import Derived.Test.YtjbldhhgooihfaaGreatRgF
import Derived.Test.YtjbldhhgooihfaaGreatRgP
namespace Go.Proofs.YtjbldhhgooihfaaGreat
namespace Av
set_option linter.unusedSimpArgs false
set_option linter.unusedVariables false
set_option maxRecDepth 4000
set_option maxHeartbeats 4000000
def dvO (l : List Tk) (k : Nat) (e : Int) (t : Tk) : List Tk := if e = 0 then l.set k t else []
theorem dvO_len (l : List Tk) (k : Nat) (e : Int) (t : Tk) (h : l.length ≤ 1000000) : (dvO l k e t).length ≤ 1000000 := by
  unfold dvO; split
  · rw [List.length_set]; exact h
  · exact Nat.zero_le _
theorem leastT {P : Nat → Prop} : ∀ n, P n → ∃ m, m ≤ n ∧ P m ∧ ∀ k, k < m → ¬ P k := by
  intro n
  induction n using Nat.strongRecOn with
  | _ n ih =>
    intro h
    by_cases hx : ∃ k, k < n ∧ P k
    · obtain ⟨k, h1, h2⟩ := hx
      obtain ⟨m, h3, h4, h5⟩ := ih k h1 h2
      exact ⟨m, by omega, h4, h5⟩
    · exact ⟨n, Nat.le_refl _, h, fun k h1 h2 => hx ⟨k, h1, h2⟩⟩
theorem ixT_no (l : List Tk) (hn : l.length ≤ 1000000) (h1 : ∀ i, i < l.length → (l.getD i default).used = true) : CallSim Tryz.prog 96 [slA tkA l, .fn 97 []] [] (iA (-1)) [] := by
  have hl := map_len tkA l
  (refine callSim_of tok Tryz.func96 rfl (fun args w => Tryz.call96 args w) rfl rfl rfl (fun F hF => ?_))
  (refine WW ?_)
  (refine sim_cnt (l.length) [] [] [0, 1, 7] [8, 0, 1, 7] rfl (fun i T U => ⟨(8, iA i) :: T, U⟩) ?_; (conv => whnf); refine ⟨by rfl, ?_, ?_⟩)
  · intro i hi
    have hy := map_at tkA l i hi
    have c := nus_c (l.getD i default)
    rw [h1 i hi] at c
    generalize l.getD i default = t at *
    (repeat' (first | (refine is_ops ?_; first | refine x_auto tok rfl rfl ?_ | (refine is_call ?_; (refine is_cv ?_; first | refine x_q (stp_call (c) rfl rfl rfl rfl rfl) rfl ?_ | refine x_w (stp_call (c) rfl rfl rfl rfl rfl) rfl rfl rfl ?_ | refine x_d (stp_call (c) rfl rfl rfl rfl rfl) rfl rfl rfl ?_)) | (refine is_grd ?_; first | refine x_on rfl rfl ?_ | refine x_off rfl rfl rfl rfl ?_ | (refine x_gsplit rfl rfl (fun hc => ?_) (fun hc => ?_) <;> (try simp only [cmpB, decide_eq_true_eq, decide_eq_false_iff_not, beq_iff_eq, bne_iff_ne, ne_eq, Bool.not_eq_true, beq_eq_false_iff_ne, bne_eq_false_iff_eq, Int.not_lt, Int.not_le, Decidable.not_not] at hc))) | (refine is_bin ?_; first | refine x_q (stp_cmp_t rfl rfl rfl (by unfold cmpP; omega)) rfl ?_ | refine x_q (stp_cmp_f rfl rfl rfl (by unfold cmpP; omega)) rfl ?_ | refine x_q (stp_cmp rfl rfl rfl) rfl ?_ | refine x_q (stp_add rfl rfl ⟨by omega, by omega⟩) rfl ?_ | refine x_q (stp_sub rfl rfl ⟨by omega, by omega⟩) rfl ?_ | refine x_q (stp_mul rfl rfl ⟨by omega, by omega⟩) rfl ?_ | refine x_q (stp_quo rfl rfl (by assumption) (by omega)) rfl ?_ | refine x_q (stp_rem rfl rfl (by omega)) rfl ?_ | refine x_q (stp_xor rfl rfl) rfl ?_ | refine x_q (stp_shlI rfl rfl (by omega)) rfl ?_ | refine x_q (stp_shrI rfl rfl (by omega)) rfl ?_ | refine x_q (stp_shift (.inl ⟨rfl, rfl⟩) rfl rfl (by omega)) rfl ?_ | refine x_q (stp_shift (.inr ⟨rfl, rfl⟩) rfl rfl (by omega)) rfl ?_ | refine x_q (stp_bool2 tok rfl rfl rfl rfl (.inl ⟨rfl, rfl⟩)) rfl ?_ | refine x_q (stp_bool2 tok rfl rfl rfl rfl (.inr ⟨rfl, rfl⟩)) rfl ?_ | refine x_q (stp_eqlNil tok (.inl ⟨rfl, rfl⟩) rfl rfl rfl) rfl ?_ | refine x_q (stp_eqlNil_not tok (.inl ⟨rfl, rfl⟩) rfl rfl rfl rfl) rfl ?_ | refine x_q (stp_andI rfl rfl) rfl ?_ | refine x_q (stp_orI rfl rfl) rfl ?_ | refine x_q (stp_bicI rfl rfl) rfl ?_ | refine x_q (stp_strEqV rfl rfl (by assumption)) rfl ?_ | refine x_q (stp_strEq rfl rfl) rfl ?_ | refine x_q (stp_strNeV rfl rfl (by assumption)) rfl ?_ | refine x_q (stp_strNe rfl rfl) rfl ?_) | (refine is_idx ?_; first | refine x_q (stp_indexAddr_sl tok rfl rfl rfl rfl rfl (by omega) (by first | rfl | assumption) rfl rfl) rfl ?_ | refine x_q (stp_indexAddr_r0 tok rfl rfl rfl rfl rfl rfl (by omega) (by omega) rfl) rfl ?_ | refine x_q (stp_indexAddr_box tok rfl rfl rfl rfl rfl rfl (by omega) (by omega)) rfl ?_) | (refine is_load ?_; first | refine x_q (stp_load_fp1 tok rfl rfl rfl (by first | rfl | assumption) rfl) rfl ?_ | refine x_q (stp_load_fpa tok rfl rfl rfl (by first | rfl | assumption) rfl) rfl ?_ | refine x_q (stp_load_arr1 tok rfl rfl rfl rfl (by first | rfl | assumption) rfl) rfl ?_ | refine x_q (stp_load_arra tok rfl rfl rfl rfl (by first | rfl | assumption) rfl) rfl ?_) | (refine is_fad ?_; first | refine x_q (stp_fieldAddr_arr tok rfl rfl rfl rfl rfl rfl rfl rfl) rfl ?_ | refine x_q (stp_fieldAddr_fp tok rfl (by first | rfl | assumption) rfl rfl rfl rfl rfl rfl) rfl ?_) | (refine is_app ?_; first | refine x_appref0 tok rfl rfl rfl rfl rfl rfl rfl (by first | (intro y hy; cases hy; rfl) | exact map_hd _ _ (fun _ => rfl)) rfl rfl rfl (by first | omega | (simp; done) | (simp; omega)) rfl ?_ | refine x_appref tok rfl rfl rfl rfl rfl rfl rfl rfl rfl rfl rfl (by first | (intro y hy; cases hy; rfl) | exact map_hd _ _ (fun _ => rfl)) (by first | omega | (simp; done) | (simp; omega)) rfl ?_) | (refine is_un ?_; first | refine x_q (stp_neg rfl ⟨by omega, by omega⟩) rfl ?_) | (refine is_conv ?_; first | refine x_q (stp_conv_in tok rfl rfl rfl rfl ⟨by omega, by omega⟩) rfl ?_ | refine x_q (stp_conv tok rfl rfl rfl rfl) rfl ?_ | refine x_q (stp_convStr tok rfl rfl rfl rfl rfl rfl rfl (by first | rfl | assumption)) rfl ?_) | (refine is_slc ?_; first | refine x_slcL tok rfl rfl rfl rfl rfl (by first | (intro y hy; cases hy; rfl) | exact map_hd _ _ (fun _ => rfl) | (simp; done)) (by omega) (by simp; omega) (by first | exact List.map_drop.symm | rfl) rfl ?_ | refine x_slcH tok rfl rfl rfl rfl rfl (by first | (intro y hy; cases hy; rfl) | exact map_hd _ _ (fun _ => rfl) | (simp; done)) (by omega) (by simp; omega) (by first | exact List.map_take.symm | rfl) rfl ?_) | (refine is_mks ?_; refine x_mks tok rfl rfl rfl rfl rfl rfl rfl rfl rfl rfl rfl rfl rfl (by omega) (by omega) rfl rfl rfl ?_) | refine x_autow tok rfl rfl rfl rfl ?_ | (refine is_sto ?_; first | refine x_autos tok rfl rfl rfl ?_ | refine x_stoa tok rfl rfl rfl (by first | rfl | assumption) rfl rfl rfl rfl rfl rfl ?_ | refine x_sto1 tok rfl rfl rfl (by first | rfl | assumption) rfl rfl rfl rfl rfl rfl rfl rfl ?_) | refine x_nil ?_ | refine x_nilD (by kernel_rfl) ?_) | (first | refine sim_seq ?_ | refine x_region ?_ | refine x_draw rfl ?_ | refine sim_cond_true rfl ?_ | refine sim_cond_false rfl ?_ | (refine sim_cond rfl (fun hc => ?_) (fun hc => ?_) <;> (try simp only [cmpB, decide_eq_true_eq, decide_eq_false_iff_not, beq_iff_eq, bne_iff_ne, ne_eq, Bool.not_eq_true, beq_eq_false_iff_ne, bne_eq_false_iff_eq, Int.not_lt, Int.not_le, Decidable.not_not] at hc)) | refine sim_skip ?_ | refine sim_ret ?_ | refine sim_exit ?_ | refine sim_block ?_)))
    rfl
  · (refine WW ?_)
    exact fin_ret [] rfl rfl rfl rfl
def DvBoth (l : List Tk) (p R c life now : Int) : Prop := ∃ (k : Nat) (e : Int), (0 ≤ e ∧ e ≤ 20) ∧ (k = 0 ∨ k < l.length) ∧ (e = 0 → tvF l = true ∧ 0 ≤ p ∧ p < l.length) ∧ ∀ sec : List Int, (sec.length : Int) = 8 →
    CallSim Tryz.prog 61 [slA tkA l, iA p, iA R, iA c, iA life, slA yA sec, iA now] [] (.tup [slA tkA (dvO l k e ⟨true, sec, p, R, c, unF life now⟩), iA k, iA e]) [] ∧
    CallSim Tryz.prog 37 [slA tkA l, iA p, iA R, iA c, iA life, slA yA sec, iA now] [] (.tup [slA tkA (dvO l k e ⟨true, sec, p, R, c, unF life now⟩), iA k, iA e]) []
theorem dvBad {l : List Tk} {p R c life now : Int} (e : Int) (h1 : 1 ≤ e) (h2 : e ≤ 20) (h : ∀ sec : List Int, (sec.length : Int) = 8 → CallSim Tryz.prog 61 [slA tkA l, iA p, iA R, iA c, iA life, slA yA sec, iA now] [] (.tup [slA tkA [], iA 0, iA e]) [] ∧ CallSim Tryz.prog 37 [slA tkA l, iA p, iA R, iA c, iA life, slA yA sec, iA now] [] (.tup [slA tkA [], iA 0, iA e]) []) : DvBoth l p R c life now :=
  ⟨0, e, ⟨by omega, h2⟩, .inl rfl, fun h0 => by omega, fun sec hs => by
    have hd : dvO l 0 e ⟨true, sec, p, R, c, unF life now⟩ = [] := by unfold dvO; rw [if_neg (by omega)]
    rw [hd]
    exact h sec hs⟩
theorem derive_both (l : List Tk) (hb : TkB l) (p R c life now : Int) : DvBoth l p R c life now := by
  have hn := hb.n
  have hll := map_len tkA l
  have c1 := tvalid_c l
  have r1 := tvalid2_c l
  rw [← tv_eq] at r1
  cases hv : tvF l with
  | false =>
    rw [hv] at c1 r1
    exact dvBad 1 (by omega) (by omega) fun sec hs => ⟨by
      have hls := map_len yA sec
      (refine callSim_of tok Tryz.func61 rfl (fun args w => Tryz.call61 args w) rfl rfl rfl (fun F hF => ?_))
      (have zc1 := c1; refine WW ?_; clear zc1)
      exact fin_ret [] rfl rfl rfl rfl, by
      have hls := map_len yA sec
      (refine callSim_of tok Tryz.func37 rfl (fun args w => Tryz.call37 args w) rfl rfl rfl (fun F hF => ?_))
      (have zc1 := r1; refine WW ?_; clear zc1)
      exact fin_ret [] rfl rfl rfl rfl⟩
  | true =>
  rw [hv] at c1 r1
  have h8 : (l.length : Int) = 8 := by unfold tvF at hv; rw [Bool.and_eq_true, decide_eq_true_eq] at hv; exact hv.1
  by_cases hn0 : 0 ≤ now
  case neg =>
    exact dvBad 1 (by omega) (by omega) fun sec hs => ⟨by
      have hls := map_len yA sec
      (refine callSim_of tok Tryz.func61 rfl (fun args w => Tryz.call61 args w) rfl rfl rfl (fun F hF => ?_))
      (have zc1 := c1; refine WW ?_; clear zc1)
      exact fin_ret [] rfl rfl rfl rfl, by
      have hls := map_len yA sec
      (refine callSim_of tok Tryz.func37 rfl (fun args w => Tryz.call37 args w) rfl rfl rfl (fun F hF => ?_))
      (have zc1 := r1; refine WW ?_; clear zc1)
      exact fin_ret [] rfl rfl rfl rfl⟩
  by_cases hn1 : now ≤ 1073741824
  case neg =>
    exact dvBad 1 (by omega) (by omega) fun sec hs => ⟨by
      have hls := map_len yA sec
      (refine callSim_of tok Tryz.func61 rfl (fun args w => Tryz.call61 args w) rfl rfl rfl (fun F hF => ?_))
      (have zc1 := c1; refine WW ?_; clear zc1)
      exact fin_ret [] rfl rfl rfl rfl, by
      have hls := map_len yA sec
      (refine callSim_of tok Tryz.func37 rfl (fun args w => Tryz.call37 args w) rfl rfl rfl (fun F hF => ?_))
      (have zc1 := r1; refine WW ?_; clear zc1)
      exact fin_ret [] rfl rfl rfl rfl⟩
  have c2 := used_c l p
  by_cases hp0 : 0 ≤ p
  case neg =>
    rw [show usF l p = false by unfold usF; rw [decide_eq_false (fun h => hp0 h.1)]; rfl] at c2
    exact dvBad 12 (by omega) (by omega) fun sec hs => ⟨by
      have hls := map_len yA sec
      (refine callSim_of tok Tryz.func61 rfl (fun args w => Tryz.call61 args w) rfl rfl rfl (fun F hF => ?_))
      (have zc1 := c1; have zc2 := c2; refine WW ?_; clear zc1 zc2)
      exact fin_ret [] rfl rfl rfl rfl, by
      have hls := map_len yA sec
      (refine callSim_of tok Tryz.func37 rfl (fun args w => Tryz.call37 args w) rfl rfl rfl (fun F hF => ?_))
      (have zc1 := r1; refine WW ?_; clear zc1)
      exact fin_ret [] rfl rfl rfl rfl⟩
  by_cases hp1 : p < l.length
  case neg =>
    rw [show usF l p = false by unfold usF; rw [decide_eq_false (fun h => hp1 h.2)]; rfl] at c2
    exact dvBad 12 (by omega) (by omega) fun sec hs => ⟨by
      have hls := map_len yA sec
      (refine callSim_of tok Tryz.func61 rfl (fun args w => Tryz.call61 args w) rfl rfl rfl (fun F hF => ?_))
      (have zc1 := c1; have zc2 := c2; refine WW ?_; clear zc1 zc2)
      exact fin_ret [] rfl rfl rfl rfl, by
      have hls := map_len yA sec
      (refine callSim_of tok Tryz.func37 rfl (fun args w => Tryz.call37 args w) rfl rfl rfl (fun F hF => ?_))
      (have zc1 := r1; refine WW ?_; clear zc1)
      exact fin_ret [] rfl rfl rfl rfl⟩
  have hy := map_atI tkA l p hp0 hp1
  have hus : usF l p = (l.getD p.toNat default).used := by unfold usF; rw [decide_eq_true ⟨hp0, hp1⟩, Bool.true_and]
  rw [hus] at c2
  have c3 := within_c R (l.getD p.toNat default).rights
  have r3 := within2_c R (l.getD p.toNat default).rights
  have c4 := later_c (unF life now) (l.getD p.toNat default).til
  have r4 := later2_c (unF life now) (l.getD p.toNat default).til
  have hun : unF life now = if 0 < life then now + life else 0 := rfl
  generalize unF life now = un at *
  clear hus
  generalize l.getD p.toNat default = t at *
  obtain ⟨u, t1, t2, t3, t4, t5⟩ := t
  rw [show ∀ u, tkA ⟨u, t1, t2, t3, t4, t5⟩ = .agg [bA u, slA yA t1, iA t2, iA t3, iA t4, iA t5] from fun _ => rfl] at hy
  dsimp only at *
  cases u with
  | false =>
    exact dvBad 12 (by omega) (by omega) fun sec hs => ⟨by
      have hls := map_len yA sec
      (refine callSim_of tok Tryz.func61 rfl (fun args w => Tryz.call61 args w) rfl rfl rfl (fun F hF => ?_))
      (have zc1 := c1; have zc2 := c2; refine WW ?_; clear zc1 zc2)
      exact fin_ret [] rfl rfl rfl rfl, by
      have hls := map_len yA sec
      (refine callSim_of tok Tryz.func37 rfl (fun args w => Tryz.call37 args w) rfl rfl rfl (fun F hF => ?_))
      (have zc1 := r1; refine WW ?_; clear zc1)
      exact fin_ret [] rfl rfl rfl rfl⟩
  | true =>
  cases hw : wiF R t3 with
  | false =>
    rw [hw] at c3 r3
    exact dvBad 8 (by omega) (by omega) fun sec hs => ⟨by
      have hls := map_len yA sec
      (refine callSim_of tok Tryz.func61 rfl (fun args w => Tryz.call61 args w) rfl rfl rfl (fun F hF => ?_))
      (have zc1 := c1; have zc2 := c2; have zc3 := c3; refine WW ?_; clear zc1 zc2 zc3)
      exact fin_ret [] rfl rfl rfl rfl, by
      have hls := map_len yA sec
      (refine callSim_of tok Tryz.func37 rfl (fun args w => Tryz.call37 args w) rfl rfl rfl (fun F hF => ?_))
      (have zc1 := r1; have zc2 := r3; refine WW ?_; clear zc1 zc2)
      exact fin_ret [] rfl rfl rfl rfl⟩
  | true =>
  rw [hw] at c3 r3
  by_cases hc0 : 0 ≤ c
  case neg =>
    exact dvBad 8 (by omega) (by omega) fun sec hs => ⟨by
      have hls := map_len yA sec
      (refine callSim_of tok Tryz.func61 rfl (fun args w => Tryz.call61 args w) rfl rfl rfl (fun F hF => ?_))
      (have zc1 := c1; have zc2 := c2; have zc3 := c3; refine WW ?_; clear zc1 zc2 zc3)
      exact fin_ret [] rfl rfl rfl rfl, by
      have hls := map_len yA sec
      (refine callSim_of tok Tryz.func37 rfl (fun args w => Tryz.call37 args w) rfl rfl rfl (fun F hF => ?_))
      (have zc1 := r1; have zc2 := r3; refine WW ?_; clear zc1 zc2)
      exact fin_ret [] rfl rfl rfl rfl⟩
  by_cases hc1 : c ≤ t4
  case neg =>
    exact dvBad 8 (by omega) (by omega) fun sec hs => ⟨by
      have hls := map_len yA sec
      (refine callSim_of tok Tryz.func61 rfl (fun args w => Tryz.call61 args w) rfl rfl rfl (fun F hF => ?_))
      (have zc1 := c1; have zc2 := c2; have zc3 := c3; refine WW ?_; clear zc1 zc2 zc3)
      exact fin_ret [] rfl rfl rfl rfl, by
      have hls := map_len yA sec
      (refine callSim_of tok Tryz.func37 rfl (fun args w => Tryz.call37 args w) rfl rfl rfl (fun F hF => ?_))
      (have zc1 := r1; have zc2 := r3; refine WW ?_; clear zc1 zc2)
      exact fin_ret [] rfl rfl rfl rfl⟩
  by_cases hl0 : 0 ≤ life
  case neg =>
    exact dvBad 8 (by omega) (by omega) fun sec hs => ⟨by
      have hls := map_len yA sec
      (refine callSim_of tok Tryz.func61 rfl (fun args w => Tryz.call61 args w) rfl rfl rfl (fun F hF => ?_))
      (have zc1 := c1; have zc2 := c2; have zc3 := c3; refine WW ?_; clear zc1 zc2 zc3)
      exact fin_ret [] rfl rfl rfl rfl, by
      have hls := map_len yA sec
      (refine callSim_of tok Tryz.func37 rfl (fun args w => Tryz.call37 args w) rfl rfl rfl (fun F hF => ?_))
      (have zc1 := r1; have zc2 := r3; refine WW ?_; clear zc1 zc2)
      exact fin_ret [] rfl rfl rfl rfl⟩
  by_cases hl1 : life ≤ 600
  case neg =>
    exact dvBad 8 (by omega) (by omega) fun sec hs => ⟨by
      have hls := map_len yA sec
      (refine callSim_of tok Tryz.func61 rfl (fun args w => Tryz.call61 args w) rfl rfl rfl (fun F hF => ?_))
      (have zc1 := c1; have zc2 := c2; have zc3 := c3; refine WW ?_; clear zc1 zc2 zc3)
      exact fin_ret [] rfl rfl rfl rfl, by
      have hls := map_len yA sec
      (refine callSim_of tok Tryz.func37 rfl (fun args w => Tryz.call37 args w) rfl rfl rfl (fun F hF => ?_))
      (have zc1 := r1; have zc2 := r3; refine WW ?_; clear zc1 zc2)
      exact fin_ret [] rfl rfl rfl rfl⟩
  cases hla : laF un t5 with
  | true =>
    rw [hla] at c4 r4
    by_cases h0 : 0 < life
    · rw [if_pos h0] at hun
      subst hun
      exact dvBad 8 (by omega) (by omega) fun sec hs => ⟨by
        have hls := map_len yA sec
        (refine callSim_of tok Tryz.func61 rfl (fun args w => Tryz.call61 args w) rfl rfl rfl (fun F hF => ?_))
        (have zc1 := c1; have zc2 := c2; have zc3 := c3; have zc4 := c4; refine WW ?_; clear zc1 zc2 zc3 zc4)
        exact fin_ret [] rfl rfl rfl rfl, by
        have hls := map_len yA sec
        (refine callSim_of tok Tryz.func37 rfl (fun args w => Tryz.call37 args w) rfl rfl rfl (fun F hF => ?_))
        (have zc1 := r1; have zc2 := r3; have zc3 := r4; refine WW ?_; clear zc1 zc2 zc3)
        exact fin_ret [] rfl rfl rfl rfl⟩
    · rw [if_neg h0] at hun
      subst hun
      exact dvBad 8 (by omega) (by omega) fun sec hs => ⟨by
        have hls := map_len yA sec
        (refine callSim_of tok Tryz.func61 rfl (fun args w => Tryz.call61 args w) rfl rfl rfl (fun F hF => ?_))
        (have zc1 := c1; have zc2 := c2; have zc3 := c3; have zc4 := c4; refine WW ?_; clear zc1 zc2 zc3 zc4)
        exact fin_ret [] rfl rfl rfl rfl, by
        have hls := map_len yA sec
        (refine callSim_of tok Tryz.func37 rfl (fun args w => Tryz.call37 args w) rfl rfl rfl (fun F hF => ?_))
        (have zc1 := r1; have zc2 := r3; have zc3 := r4; refine WW ?_; clear zc1 zc2 zc3)
        exact fin_ret [] rfl rfl rfl rfl⟩
  | false =>
  rw [hla] at c4 r4
  clear hla hw
  by_cases hex : ∃ k, k < l.length ∧ (l.getD k default).used = false
  case neg =>
    have hall : ∀ i, i < l.length → (l.getD i default).used = true := fun i hi => by
      cases h : (l.getD i default).used with
      | true => rfl
      | false => exact absurd ⟨i, hi, h⟩ hex
    have c5 := ixT_no l hn hall
    rcases (show (0 < life ∧ unF life now = now + life) ∨ (¬ 0 < life ∧ unF life now = 0) by unfold unF; by_cases h : 0 < life; exact .inl ⟨h, if_pos h⟩; exact .inr ⟨h, if_neg h⟩) with ⟨h0, hu0⟩ | ⟨h0, hu0⟩
    · rw [if_pos h0] at hun
      subst hun
      exact dvBad 10 (by omega) (by omega) fun sec hs => ⟨by
        have hls := map_len yA sec
        (refine callSim_of tok Tryz.func61 rfl (fun args w => Tryz.call61 args w) rfl rfl rfl (fun F hF => ?_))
        (have zc1 := c1; have zc2 := c2; have zc3 := c3; have zc4 := c4; have zc5 := c5; refine WW ?_; clear zc1 zc2 zc3 zc4 zc5)
        exact fin_ret [] rfl rfl rfl rfl, by
        have hls := map_len yA sec
        (refine callSim_of tok Tryz.func37 rfl (fun args w => Tryz.call37 args w) rfl rfl rfl (fun F hF => ?_))
        (have zc1 := r1; have zc2 := r3; have zc3 := r4; refine WW ?_; clear zc1 zc2 zc3)
        (refine sim_cnt (l.length) [] [] [0, 1, 2, 3, 5, 18, 90, 91] [92, 0, 1, 2, 3, 5, 18, 90, 91] rfl (fun i T U => ⟨(92, iA i) :: T, U⟩) ?_; (conv => whnf); refine ⟨by rfl, ?_, ?_⟩)
        · intro i hi
          have hyi := map_at tkA l i hi
          have hui := hall i hi
          generalize l.getD i default = x at *
          obtain ⟨xu, x1, x2, x3, x4, x5⟩ := x
          dsimp only at hui
          subst hui
          rw [show tkA ⟨true, x1, x2, x3, x4, x5⟩ = .agg [bA true, slA yA x1, iA x2, iA x3, iA x4, iA x5] from rfl] at hyi
          (refine WW ?_)
          rfl
        · (refine WW ?_)
          exact fin_ret [] rfl rfl rfl rfl⟩
    · rw [if_neg h0] at hun
      subst hun
      exact dvBad 10 (by omega) (by omega) fun sec hs => ⟨by
        have hls := map_len yA sec
        (refine callSim_of tok Tryz.func61 rfl (fun args w => Tryz.call61 args w) rfl rfl rfl (fun F hF => ?_))
        (have zc1 := c1; have zc2 := c2; have zc3 := c3; have zc4 := c4; have zc5 := c5; refine WW ?_; clear zc1 zc2 zc3 zc4 zc5)
        exact fin_ret [] rfl rfl rfl rfl, by
        have hls := map_len yA sec
        (refine callSim_of tok Tryz.func37 rfl (fun args w => Tryz.call37 args w) rfl rfl rfl (fun F hF => ?_))
        (have zc1 := r1; have zc2 := r3; have zc3 := r4; refine WW ?_; clear zc1 zc2 zc3)
        (refine sim_cnt (l.length) [] [] [0, 1, 2, 3, 5, 18, 90, 91] [92, 0, 1, 2, 3, 5, 18, 90, 91] rfl (fun i T U => ⟨(92, iA i) :: T, U⟩) ?_; (conv => whnf); refine ⟨by rfl, ?_, ?_⟩)
        · intro i hi
          have hyi := map_at tkA l i hi
          have hui := hall i hi
          generalize l.getD i default = x at *
          obtain ⟨xu, x1, x2, x3, x4, x5⟩ := x
          dsimp only at hui
          subst hui
          rw [show tkA ⟨true, x1, x2, x3, x4, x5⟩ = .agg [bA true, slA yA x1, iA x2, iA x3, iA x4, iA x5] from rfl] at hyi
          (refine WW ?_)
          rfl
        · (refine WW ?_)
          exact fin_ret [] rfl rfl rfl rfl⟩
  obtain ⟨k0, hk0, hu0⟩ := hex
  obtain ⟨k, _, ⟨hk, hkf⟩, hkm⟩ := leastT (P := fun k => k < l.length ∧ (l.getD k default).used = false) k0 ⟨hk0, hu0⟩
  have hbe : ∀ i, i < k → (l.getD i default).used = true := fun i hi => by
    cases h : (l.getD i default).used with
    | true => rfl
    | false => exact absurd ⟨by omega, h⟩ (hkm i hi)
  have c5 := ixT_c l hn k hk hbe hkf
  have c6 := tclone_own l hb
  have r6 := copyT2_own l hb
  refine ⟨k, 0, by omega, .inr hk, fun _ => ⟨hv, hp0, hp1⟩, fun sec hs => ?_⟩
  have hd : ∀ x : Tk, dvO l k 0 x = l.set k x := fun x => by unfold dvO; rw [if_pos rfl]
  rw [hd]
  have c7 := cloneY_c sec (by omega)
  have hls := map_len yA sec
  have hyk := map_at tkA l k hk
  have eS := tset_eq l k ⟨true, sec, p, R, c, unF life now⟩ (l.map tkA).length hll
  rw [eS]
  clear eS hd
  rw [show unF life now = if 0 < life then now + life else 0 from rfl]
  by_cases h0 : 0 < life
  · rw [if_pos h0] at hun ⊢
    subst hun
    refine ⟨?_, ?_⟩
    · clear r1 r3 r4 r6 hbe hkm hkf
      generalize l.getD k default = tk at *
      (refine callSim_of tok Tryz.func61 rfl (fun args w => Tryz.call61 args w) rfl rfl rfl (fun F hF => ?_))
      (have zc1 := c1; have zc2 := c2; have zc3 := c3; have zc4 := c4; have zc5 := c5; have zc6 := c6; have zc7 := c7; refine WW ?_; clear zc1 zc2 zc3 zc4 zc5 zc6 zc7)
      exact fin_ret [] rfl rfl rfl rfl
    · clear c1 c2 c3 c4 c5 c6 c7
      (refine callSim_of tok Tryz.func37 rfl (fun args w => Tryz.call37 args w) rfl rfl rfl (fun F hF => ?_))
      (have zc1 := r1; have zc2 := r3; have zc3 := r4; refine WW ?_; clear zc1 zc2 zc3)
      (refine sim_cntP (l.length) [] [] [0, 1, 2, 3, 5, 18, 90, 91] [92, 0, 1, 2, 3, 5, 18, 90, 91] rfl (fun i T U zs => (i ≤ k) ∧ zs = ⟨(92, iA i) :: T, U⟩) ?_; (conv => whnf); refine ⟨?_, ?_, ?_⟩)
      · exact ⟨Nat.zero_le _, rfl⟩
      · rintro i st hi ⟨hik, rfl⟩
        have hyi := map_at tkA l i hi
        by_cases hie : i = k
        · subst hie
          clear hbe hkm hyk hy
          generalize l.getD i default = x at *
          obtain ⟨xu, x1, x2, x3, x4, x5⟩ := x
          dsimp only at hkf
          subst hkf
          rw [show tkA ⟨false, x1, x2, x3, x4, x5⟩ = .agg [bA false, slA yA x1, iA x2, iA x3, iA x4, iA x5] from rfl] at hyi
          (have zc1 := r6; refine WL ?_; clear zc1)
          exact fin_ret [] rfl rfl rfl rfl
        · have hui := hbe i (by omega)
          clear hbe hkm hyk hkf hy
          generalize l.getD i default = x at *
          obtain ⟨xu, x1, x2, x3, x4, x5⟩ := x
          dsimp only at hui
          subst hui
          rw [show tkA ⟨true, x1, x2, x3, x4, x5⟩ = .agg [bA true, slA yA x1, iA x2, iA x3, iA x4, iA x5] from rfl] at hyi
          (refine WW ?_)
          exact ⟨by omega, rfl⟩
      · rintro st ⟨hik, rfl⟩
        exfalso; omega
  · rw [if_neg h0] at hun ⊢
    subst hun
    refine ⟨?_, ?_⟩
    · clear r1 r3 r4 r6 hbe hkm hkf
      generalize l.getD k default = tk at *
      (refine callSim_of tok Tryz.func61 rfl (fun args w => Tryz.call61 args w) rfl rfl rfl (fun F hF => ?_))
      (have zc1 := c1; have zc2 := c2; have zc3 := c3; have zc4 := c4; have zc5 := c5; have zc6 := c6; have zc7 := c7; refine WW ?_; clear zc1 zc2 zc3 zc4 zc5 zc6 zc7)
      exact fin_ret [] rfl rfl rfl rfl
    · clear c1 c2 c3 c4 c5 c6 c7
      (refine callSim_of tok Tryz.func37 rfl (fun args w => Tryz.call37 args w) rfl rfl rfl (fun F hF => ?_))
      (have zc1 := r1; have zc2 := r3; have zc3 := r4; refine WW ?_; clear zc1 zc2 zc3)
      (refine sim_cntP (l.length) [] [] [0, 1, 2, 3, 5, 18, 90, 91] [92, 0, 1, 2, 3, 5, 18, 90, 91] rfl (fun i T U zs => (i ≤ k) ∧ zs = ⟨(92, iA i) :: T, U⟩) ?_; (conv => whnf); refine ⟨?_, ?_, ?_⟩)
      · exact ⟨Nat.zero_le _, rfl⟩
      · rintro i st hi ⟨hik, rfl⟩
        have hyi := map_at tkA l i hi
        by_cases hie : i = k
        · subst hie
          clear hbe hkm hyk hy
          generalize l.getD i default = x at *
          obtain ⟨xu, x1, x2, x3, x4, x5⟩ := x
          dsimp only at hkf
          subst hkf
          rw [show tkA ⟨false, x1, x2, x3, x4, x5⟩ = .agg [bA false, slA yA x1, iA x2, iA x3, iA x4, iA x5] from rfl] at hyi
          (have zc1 := r6; refine WL ?_; clear zc1)
          exact fin_ret [] rfl rfl rfl rfl
        · have hui := hbe i (by omega)
          clear hbe hkm hyk hkf hy
          generalize l.getD i default = x at *
          obtain ⟨xu, x1, x2, x3, x4, x5⟩ := x
          dsimp only at hui
          subst hui
          rw [show tkA ⟨true, x1, x2, x3, x4, x5⟩ = .agg [bA true, slA yA x1, iA x2, iA x3, iA x4, iA x5] from rfl] at hyi
          (refine WW ?_)
          exact ⟨by omega, rfl⟩
      · rintro st ⟨hik, rfl⟩
        exfalso; omega
end Av
end Go.Proofs.YtjbldhhgooihfaaGreat
