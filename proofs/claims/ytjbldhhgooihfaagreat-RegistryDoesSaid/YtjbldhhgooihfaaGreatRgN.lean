
/- law17: the legs and messages of a deck. -/
import Derived.Test.YtjbldhhgooihfaaGreatRgM
import Derived.Test.YtjbldhhgooihfaaGreatLibD
namespace Go.Proofs.YtjbldhhgooihfaaGreat
namespace Av
set_option linter.unusedSimpArgs false
set_option linter.unusedVariables false
set_option maxRecDepth 4000
set_option maxHeartbeats 1000000
def zCf : AV := .agg [.sl false [], .sl false [], iA 0, iA 0, iA 0, iA 0]
def lgS (k : Nat) (l : List Int) (d : Dk) : List Int × Dk :=
  (l ++ [Int.tmod (nx d 3 + k) (max 1 (((([] : List AV).length : Nat) : Int) + (nx (ad d) 12).tdiv 11)), nx (ad (ad (ad (ad d)))) (2 + (nx (ad (ad (ad d))) 12).tdiv 11), nx (ad (ad d)) 3, nx (ad (ad d)) 3 + nx (ad (ad (ad (ad (ad d))))) 50], ad (ad (ad (ad (ad (ad d))))))
def lgL (l : List Int) (d : Dk) : Nat → List Int × Dk
  | 0 => (l, d)
  | i + 1 => lgS i (lgL l d i).1 (lgL l d i).2
theorem lgL_p (l : List Int) (d : Dk) : ∀ i, (lgL l d i).1.length = l.length + 4 * i ∧ rem (lgL l d i).2 ≤ rem d
  | 0 => ⟨rfl, Nat.le_refl _⟩
  | i + 1 => by
    have ih := lgL_p l d i
    show (lgS i _ _).1.length = _ ∧ rem (lgS i _ _).2 ≤ _
    generalize (lgL l d i).2 = e at *
    have r1 := rem_ad e
    have r2 := rem_ad (ad e)
    have r3 := rem_ad (ad (ad e))
    have r4 := rem_ad (ad (ad (ad e)))
    have r5 := rem_ad (ad (ad (ad (ad e))))
    have r6 := rem_ad (ad (ad (ad (ad (ad e)))))
    refine ⟨by simp only [lgS, List.length_append, List.length_cons, List.length_nil]; omega, by simp only [lgS]; omega⟩
theorem div11 (x : Int) (h : 0 ≤ x ∧ x < 12) : 0 ≤ x.tdiv 11 ∧ x.tdiv 11 ≤ 1 ∧ InR .i64 (x.tdiv 11) := by
  have : x.tdiv 11 = x / 11 := Int.tdiv_eq_ediv_of_nonneg h.1
  rw [this]
  refine ⟨by omega, by omega, by unfold InR; omega⟩
theorem legs_c (l : List Int) (hl : l.length ≤ 1000) (d : Dk) : CallSim Tryz.prog 56 [.ptr 1000 0 0, zCf, .ref 107 0 (l.map iA).length] [(1000, dkE d), (107, .arr 1 (l.map iA) false)] (.ref 107 0 ((lgL l (ad d) (1 + (nx d 2).toNat)).1.map iA).length) [(1000, dkE (lgL l (ad d) (1 + (nx d 2).toNat)).2), (107, .arr 1 ((lgL l (ad d) (1 + (nx d 2).toNat)).1.map iA) true)] := by
  have c1 := next_c d 2 (by omega) (by omega)
  have b1 := nx_bd d 2 (by omega)
  generalize nx d 2 = n at *
  generalize ad d = d1 at *
  obtain ⟨N, hN⟩ : ∃ N : Nat, 1 + n.toNat = N := ⟨_, rfl⟩
  have hN2 : 1 + n = (N : Int) := by omega
  rw [hN]
  unfold zCf
  (refine callSim_of tok Tryz.func56 rfl (fun args w => Tryz.call56 args w) rfl rfl rfl (fun F hF => ?_))
  (have zc1 := c1; refine WW ?_; clear zc1)
  refine sim_stale 107 rfl ?_
  (refine sim_cnt (N) [1000, 107, 4] [4] [0, 4, 15] [2, 16, 0, 4, 15] rfl (fun i T U => ⟨(2, .ref 107 0 ((lgL l d1 i).1.map iA).length) :: (16, iA i) :: T, (1000, dkE (lgL l d1 i).2) :: (107, .arr 1 ((lgL l d1 i).1.map iA) true) :: U⟩) ?_; (conv => whnf); refine ⟨by rfl, ?_, ?_⟩)
  · intro i hi
    have hl := (lgL_p l d1 i).1
    have eS : lgL l d1 (i + 1) = lgS i (lgL l d1 i).1 (lgL l d1 i).2 := rfl
    unfold lgS at eS
    generalize (lgL l d1 i).1 = p at *
    generalize (lgL l d1 i).2 = e at *
    have hi2 : (i : Int) ≤ 1 := by omega
    have n1 := next_c e 3 (by omega) (by omega)
    have n2 := next_c (ad e) 12 (by omega) (by omega)
    have n3 := next_c (ad (ad e)) 3 (by omega) (by omega)
    have n4 := next_c (ad (ad (ad e))) 12 (by omega) (by omega)
    have w1 := nx_bd e 3 (by omega)
    have w2 := nx_bd (ad e) 12 (by omega)
    have w3 := nx_bd (ad (ad e)) 3 (by omega)
    have w4 := nx_bd (ad (ad (ad e))) 12 (by omega)
    obtain ⟨v2, u2, i2⟩ := div11 _ w2
    obtain ⟨v4, u4, i4⟩ := div11 _ w4
    have n5 := next_c (ad (ad (ad (ad e)))) (2 + (nx (ad (ad (ad e))) 12).tdiv 11) (by omega) (by omega)
    have n6 := next_c (ad (ad (ad (ad (ad e))))) 50 (by omega) (by omega)
    have w6 := nx_bd (ad (ad (ad (ad (ad e))))) 50 (by omega)
    have hj : Int.tmod (nx e 3 + i) (max 1 (((([] : List AV).length : Nat) : Int) + (nx (ad e) 12).tdiv 11)) = 0 := by
      rw [show max 1 (((([] : List AV).length : Nat) : Int) + (nx (ad e) 12).tdiv 11) = 1 by rw [show ((([] : List AV).length : Nat) : Int) = 0 from rfl]; omega]
      exact Int.tmod_one _
    have hm : 1 ≤ max 1 (((([] : List AV).length : Nat) : Int) + (nx (ad e) 12).tdiv 11) := by rw [show ((([] : List AV).length : Nat) : Int) = 0 from rfl]; omega
    have h00 : ((([] : List AV).length : Nat) : Int) = 0 := rfl
    generalize hx5 : nx (ad (ad (ad (ad e)))) (2 + (nx (ad (ad (ad e))) 12).tdiv 11) = x5 at *
    generalize nx (ad (ad (ad (ad (ad e))))) 50 = x6 at *
    generalize nx (ad (ad (ad e))) 12 = x4 at *
    generalize nx (ad (ad e)) 3 = x3 at *
    generalize nx (ad e) 12 = x2 at *
    generalize nx e 3 = x1 at *
    generalize ad e = e1 at *
    generalize ad e1 = e2 at *
    generalize ad e2 = e3 at *
    generalize ad e3 = e4 at *
    generalize ad e4 = e5 at *
    generalize ad e5 = e6 at *
    rw [eS]
    (have zc1 := n1; have zc2 := n2; have zc3 := n3; have zc4 := n4; have zc5 := n5; have zc6 := n6; refine WW ?_; clear zc1 zc2 zc3 zc4 zc5 zc6)
    show restr _ _ _ = _
    rw [List.map_append]
    rfl
  · (refine WW ?_)
    exact fin_own [1000, 107] rfl rfl rfl rfl
def mgT (g : Int) (d : Dk) : List Int × Dk :=
  if nx d 9 = 7 then (g :: nx (ad d) 4 :: secF (2000 + 10 * g + nx (ad (ad d)) 3), ad (ad (ad d)))
  else if nx d 9 = 8 then (nx (ad d) 3 :: 0 :: secF (1000 + nx (ad (ad d)) 3), ad (ad (ad d)))
  else (g :: 0 :: secF (1000 + g), ad d)
theorem mgT_p (g : Int) (hg : 0 ≤ g ∧ g < 256) (d : Dk) : BY (mgT g d).1 ∧ rem (mgT g d).2 ≤ rem d := by
  have r1 := rem_ad d
  have r2 := rem_ad (ad d)
  have r3 := rem_ad (ad (ad d))
  have b1 := nx_bd (ad d) 4 (by omega)
  have b2 := nx_bd (ad d) 3 (by omega)
  unfold mgT
  split
  · exact ⟨by_tok hg (by omega) (secF_by _), by dsimp only; omega⟩
  · split
    · exact ⟨by_tok (by omega) (by omega) (secF_by _), by dsimp only; omega⟩
    · exact ⟨by_tok hg (by omega) (secF_by _), by dsimp only; omega⟩
def kd4 (q : Int) : Int := if q = 1 then 4 else if q = 3 then 7 else 6
theorem kd4_at (q : Int) (h : 0 ≤ q ∧ q < 4) : ([AV.s (.int .i64 6), AV.s (.int .i64 4), AV.s (.int .i64 6), AV.s (.int .i64 7)] : List AV)[q.toNat]? = some (AV.s (.int .i64 (kd4 q))) := by
  have : q = 0 ∨ q = 1 ∨ q = 2 ∨ q = 3 := by omega
  rcases this with rfl | rfl | rfl | rfl <;> rfl
def mgK (k : Int) (d : Dk) : Int × Dk := if nx d 2 = 0 then (kd4 (nx (ad d) 4), ad (ad d)) else (k, ad d)
theorem mgK_p (k : Int) (hk : 1 ≤ k ∧ k ≤ 12) (d : Dk) : (1 ≤ (mgK k d).1 ∧ (mgK k d).1 ≤ 12) ∧ rem (mgK k d).2 ≤ rem d := by
  have r1 := rem_ad d
  have r2 := rem_ad (ad d)
  unfold mgK kd4
  split
  · refine ⟨?_, by dsimp only; omega⟩
    dsimp only
    split
    · omega
    · split <;> omega
  · exact ⟨hk, by dsimp only; omega⟩
def upS (l : List Int) (d : Dk) : List Int × Dk := (l ++ [nx d 3, nx d 3 + nx (ad d) 40], ad (ad d))
def upL (l : List Int) (d : Dk) : Nat → List Int × Dk
  | 0 => (l, d)
  | i + 1 => upS (upL l d i).1 (upL l d i).2
theorem upL_p (l : List Int) (d : Dk) : ∀ i, (upL l d i).1.length = l.length + 2 * i ∧ rem (upL l d i).2 ≤ rem d
  | 0 => ⟨rfl, Nat.le_refl _⟩
  | i + 1 => by
    have ih := upL_p l d i
    show (upS _ _).1.length = _ ∧ rem (upS _ _).2 ≤ _
    generalize (upL l d i).2 = e at *
    have r1 := rem_ad e
    have r2 := rem_ad (ad e)
    refine ⟨by simp only [upS, List.length_append, List.length_cons, List.length_nil]; omega, by simp only [upS]; omega⟩
def rq5 (q : Int) : Int := if q = 0 then 63 else if q = 1 then 1 else if q = 2 then 3 else if q = 3 then 47 else 64
def lf4 (q : Int) : Int := if q = 0 then 0 else if q = 1 then 5 else if q = 2 then 30 else 700
theorem rq5_at (q : Int) (h : 0 ≤ q ∧ q < 5) : ([AV.s (.int .i64 63), AV.s (.int .i64 1), AV.s (.int .i64 3), AV.s (.int .i64 47), AV.s (.int .i64 64)] : List AV)[q.toNat]? = some (AV.s (.int .i64 (rq5 q))) := by
  have : q = 0 ∨ q = 1 ∨ q = 2 ∨ q = 3 ∨ q = 4 := by omega
  rcases this with rfl | rfl | rfl | rfl | rfl <;> rfl
theorem lf4_at (q : Int) (h : 0 ≤ q ∧ q < 4) : ([AV.s (.int .i64 0), AV.s (.int .i64 5), AV.s (.int .i64 30), AV.s (.int .i64 700)] : List AV)[q.toNat]? = some (AV.s (.int .i64 (lf4 q))) := by
  have : q = 0 ∨ q = 1 ∨ q = 2 ∨ q = 3 := by omega
  rcases this with rfl | rfl | rfl | rfl <;> rfl
def mgA (k c : Int) (d : Dk) : List Int × Dk :=
  if k = 2 then ([rq5 (nx d 5), nx (ad d) 5, lf4 (nx (ad (ad d)) 4)], ad (ad (ad d)))
  else if k = 3 ∨ k = 8 ∨ k = 5 ∨ k = 10 ∨ k = 11 then ([nx d 4], ad d)
  else if k = 4 then ([nx d 4, c], ad d)
  else if k = 6 then lgL [nx d 4, nx (ad d) 4, 1 + nx (ad (ad d)) (60 - 1 + 1)] (ad (ad (ad (ad d)))) (1 + (nx (ad (ad (ad d))) 2).toNat)
  else if k = 7 then upL [nx d 4] (ad (ad d)) (1 + (nx (ad d) 2).toNat)
  else ([], d)
theorem mgA_rem (k c : Int) (d : Dk) : rem (mgA k c d).2 ≤ rem d := by
  have r1 := rem_ad d
  have r2 := rem_ad (ad d)
  have r3 := rem_ad (ad (ad d))
  have r4 := rem_ad (ad (ad (ad d)))
  unfold mgA
  split
  · dsimp only; omega
  split
  · dsimp only; omega
  split
  · dsimp only; omega
  split
  · exact Nat.le_trans (lgL_p _ _ _).2 (by omega)
  split
  · exact Nat.le_trans (upL_p _ _ _).2 (by omega)
  · exact Nat.le_refl _
theorem mgT_len (g : Int) (d : Dk) : (mgT g d).1.length = 10 := by
  unfold mgT
  split
  · simp [secF_len]
  · split <;> simp [secF_len]
theorem mgA_len (k c : Int) (d : Dk) : (mgA k c d).1.length ≤ 1000 := by
  have w1 := nx_bd (ad (ad (ad d))) 2 (by omega)
  have w2 := nx_bd (ad d) 2 (by omega)
  unfold mgA
  split
  · simp
  split
  · simp
  split
  · simp
  split
  · rw [(lgL_p _ _ _).1]
    simp only [List.length_cons, List.length_nil]
    omega
  split
  · rw [(upL_p _ _ _).1]
    simp only [List.length_cons, List.length_nil]
    omega
  · simp
def LBm (m : Ms) : Prop := m.tok.length ≤ 1000 ∧ m.args.length ≤ 1000 ∧ m.data.length ≤ 1000
theorem message_exL (g : Int) (hg : 0 ≤ g ∧ g < 256) (d : Dk) : ∃ (m : Ms) (d' : Dk), BY m.tok ∧ (1 ≤ m.kind ∧ m.kind ≤ 12) ∧ LBm m ∧ rem d' ≤ rem d ∧ CallSim Tryz.prog 24 [.ptr 1000 0 0, zCf, iA g, bA false] [(1000, dkE d)] (msA m) [(1000, dkE d')] := by
  have c1 := next_c d 12 (by omega) (by omega)
  have b1 := nx_bd d 12 (by omega)
  have r1 := rem_ad d
  have cs0 := secret_c (1000 + g)
  have cb0 := bytes2_c g 0 (secF (1000 + g)) (by rw [secF_len]; omega) hg.1 hg.2 (by omega) (by omega)
  generalize hx : nx d 12 = x at *
  generalize ad d = d1 at *
  have hT := mgT_p g hg d1
  have hTl := mgT_len g d1
  generalize hTe : mgT g d1 = v at *
  obtain ⟨tk0, d2⟩ := v
  dsimp only at hT hTl
  have hK := mgK_p (1 + x) (by omega) d2
  generalize hKe : mgK (1 + x) d2 = v at *
  obtain ⟨k, d3⟩ := v
  dsimp only at hK
  have c3 := next_c d3 4 (by omega) (by omega)
  have r3 := rem_ad d3
  generalize nx d3 4 = c at *
  generalize ad d3 = d4 at *
  have hA := mgA_rem k c d4
  have hAl := mgA_len k c d4
  generalize hAe : mgA k c d4 = v at *
  obtain ⟨args, d5⟩ := v
  dsimp only at hA hAl
  refine ⟨⟨k, tk0, args, []⟩, d5, hT.1, hK.1, ⟨by dsimp only; omega, hAl, Nat.zero_le _⟩, by omega, ?_⟩
  clear hTl hAl
  have n9 := next_c d1 9 (by omega) (by omega)
  unfold zCf
  (refine callSim_of tok Tryz.func24 rfl (fun args w => Tryz.call24 args w) rfl rfl rfl (fun F hF => ?_))
  (repeat' (first | (refine is_ops ?_; first | refine x_auto tok rfl rfl ?_ | (refine is_call ?_; (first | (refine is_fn 9 ?_; first | refine x_q (stp_call (c1) rfl rfl rfl rfl rfl) rfl ?_ | refine x_w (stp_call (c1) rfl rfl rfl rfl rfl) rfl rfl rfl ?_ | refine x_d (stp_call (c1) rfl rfl rfl rfl rfl) rfl rfl rfl ?_) | (refine is_fn 9 ?_; first | refine x_q (stp_call (n9) rfl rfl rfl rfl rfl) rfl ?_ | refine x_w (stp_call (n9) rfl rfl rfl rfl rfl) rfl rfl rfl ?_ | refine x_d (stp_call (n9) rfl rfl rfl rfl rfl) rfl rfl rfl ?_) | (refine is_fn 10 ?_; first | refine x_q (stp_call (cs0) rfl rfl rfl rfl rfl) rfl ?_ | refine x_w (stp_call (cs0) rfl rfl rfl rfl rfl) rfl rfl rfl ?_ | refine x_d (stp_call (cs0) rfl rfl rfl rfl rfl) rfl rfl rfl ?_) | (refine is_fn 18 ?_; first | refine x_q (stp_call (cb0) rfl rfl rfl rfl rfl) rfl ?_ | refine x_w (stp_call (cb0) rfl rfl rfl rfl rfl) rfl rfl rfl ?_ | refine x_d (stp_call (cb0) rfl rfl rfl rfl rfl) rfl rfl rfl ?_))) | (refine is_grd ?_; first | refine x_on rfl rfl ?_ | refine x_off rfl rfl rfl rfl ?_ | (refine x_gsplit rfl rfl (fun hc => ?_) (fun hc => ?_) <;> (try simp only [cmpB, decide_eq_true_eq, decide_eq_false_iff_not, beq_iff_eq, bne_iff_ne, ne_eq, Bool.not_eq_true, beq_eq_false_iff_ne, bne_eq_false_iff_eq, Int.not_lt, Int.not_le, Decidable.not_not] at hc))) | (refine is_bin ?_; first | refine x_q (stp_cmp_t rfl rfl rfl (by unfold cmpP; omega)) rfl ?_ | refine x_q (stp_cmp_f rfl rfl rfl (by unfold cmpP; omega)) rfl ?_ | refine x_q (stp_cmp rfl rfl rfl) rfl ?_ | refine x_q (stp_add rfl rfl ⟨by omega, by omega⟩) rfl ?_ | refine x_q (stp_sub rfl rfl ⟨by omega, by omega⟩) rfl ?_ | refine x_q (stp_mul rfl rfl ⟨by omega, by omega⟩) rfl ?_ | refine x_q (stp_quo rfl rfl (by assumption) (by omega)) rfl ?_ | refine x_q (stp_rem rfl rfl (by omega)) rfl ?_ | refine x_q (stp_xor rfl rfl) rfl ?_ | refine x_q (stp_shlI rfl rfl (by omega)) rfl ?_ | refine x_q (stp_shrI rfl rfl (by omega)) rfl ?_ | refine x_q (stp_shift (.inl ⟨rfl, rfl⟩) rfl rfl (by omega)) rfl ?_ | refine x_q (stp_shift (.inr ⟨rfl, rfl⟩) rfl rfl (by omega)) rfl ?_ | refine x_q (stp_bool2 tok rfl rfl rfl rfl (.inl ⟨rfl, rfl⟩)) rfl ?_ | refine x_q (stp_bool2 tok rfl rfl rfl rfl (.inr ⟨rfl, rfl⟩)) rfl ?_ | refine x_q (stp_eqlNil tok (.inl ⟨rfl, rfl⟩) rfl rfl rfl) rfl ?_ | refine x_q (stp_eqlNil_not tok (.inl ⟨rfl, rfl⟩) rfl rfl rfl rfl) rfl ?_ | refine x_q (stp_andI rfl rfl) rfl ?_ | refine x_q (stp_orI rfl rfl) rfl ?_ | refine x_q (stp_bicI rfl rfl) rfl ?_ | refine x_q (stp_strEqV rfl rfl (by assumption)) rfl ?_ | refine x_q (stp_strEq rfl rfl) rfl ?_ | refine x_q (stp_strNeV rfl rfl (by assumption)) rfl ?_ | refine x_q (stp_strNe rfl rfl) rfl ?_) | (refine is_idx ?_; first | refine x_q (stp_indexAddr_sl tok rfl rfl rfl rfl rfl (by omega) (by first | rfl | assumption) rfl rfl) rfl ?_ | refine x_q (stp_indexAddr_r0 tok rfl rfl rfl rfl rfl rfl (by omega) (by omega) rfl) rfl ?_ | refine x_q (stp_indexAddr_box tok rfl rfl rfl rfl rfl rfl (by omega) (by omega)) rfl ?_) | (refine is_load ?_; first | refine x_q (stp_load_fp1 tok rfl rfl rfl (by first | rfl | assumption) rfl) rfl ?_ | refine x_q (stp_load_fpa tok rfl rfl rfl (by first | rfl | assumption) rfl) rfl ?_ | refine x_q (stp_load_arr1 tok rfl rfl rfl rfl (by first | rfl | assumption) rfl) rfl ?_ | refine x_q (stp_load_arra tok rfl rfl rfl rfl (by first | rfl | assumption) rfl) rfl ?_) | (refine is_fad ?_; first | refine x_q (stp_fieldAddr_arr tok rfl rfl rfl rfl rfl rfl rfl rfl) rfl ?_ | refine x_q (stp_fieldAddr_fp tok rfl (by first | rfl | assumption) rfl rfl rfl rfl rfl rfl) rfl ?_) | (refine is_app ?_; first | refine x_appref0 tok rfl rfl rfl rfl rfl rfl rfl (by first | (intro y hy; cases hy; rfl) | exact map_hd _ _ (fun _ => rfl)) rfl rfl rfl (by first | omega | (simp; done) | (simp; omega)) rfl ?_ | refine x_appref tok rfl rfl rfl rfl rfl rfl rfl rfl rfl rfl rfl (by first | (intro y hy; cases hy; rfl) | exact map_hd _ _ (fun _ => rfl)) (by first | omega | (simp; done) | (simp; omega)) rfl ?_) | (refine is_un ?_; first | refine x_q (stp_neg rfl ⟨by omega, by omega⟩) rfl ?_) | (refine is_conv ?_; first | refine x_q (stp_conv_in tok rfl rfl rfl rfl ⟨by omega, by omega⟩) rfl ?_ | refine x_q (stp_conv tok rfl rfl rfl rfl) rfl ?_ | refine x_q (stp_convStr tok rfl rfl rfl rfl rfl rfl rfl (by first | rfl | assumption)) rfl ?_) | (refine is_slc ?_; first | refine x_slcL tok rfl rfl rfl rfl rfl (by first | (intro y hy; cases hy; rfl) | exact map_hd _ _ (fun _ => rfl) | (simp; done)) (by omega) (by simp; omega) (by first | exact List.map_drop.symm | rfl) rfl ?_ | refine x_slcH tok rfl rfl rfl rfl rfl (by first | (intro y hy; cases hy; rfl) | exact map_hd _ _ (fun _ => rfl) | (simp; done)) (by omega) (by simp; omega) (by first | exact List.map_take.symm | rfl) rfl ?_) | (refine is_mks ?_; refine x_mks tok rfl rfl rfl rfl rfl rfl rfl rfl rfl rfl rfl rfl rfl (by omega) (by omega) rfl rfl rfl ?_) | refine x_autow tok rfl rfl rfl rfl ?_ | (refine is_sto ?_; first | refine x_autos tok rfl rfl rfl ?_ | refine x_stoa tok rfl rfl rfl (by first | rfl | assumption) rfl rfl rfl rfl rfl rfl ?_ | refine x_sto1 tok rfl rfl rfl (by first | rfl | assumption) rfl rfl rfl rfl rfl rfl rfl rfl ?_) | refine x_nil ?_ | refine x_nilD (by kernel_rfl) ?_) | (first | refine sim_seq ?_ | refine x_region ?_ | refine x_draw rfl ?_ | refine sim_skip ?_ | refine sim_ret ?_ | refine sim_exit ?_)))
  refine sim_join [1000, 5, 8, 9] [0, 2, 3, 5, 8, 9] ⟨[(0, .ptr 1000 0 0), (2, iA g), (3, bA false), (5, .ptr 5 0 0), (8, .ptr 8 0 0), (9, .ptr 9 0 0)], [(1000, dkE d2), (5, .box [.sl false [], .sl false [], iA 0, iA 0, iA 0, iA 0]), (8, .box [iA 0, .s (.slice none 0 0), .s (.slice none 0 0), .s (.slice none 0 0)]), (9, .box [iA (1 + x), slA yA tk0, .s (.slice none 0 0), .s (.slice none 0 0)])]⟩ rfl ?_ ?_
  · unfold mgT at hTe
    by_cases h7 : nx d1 9 = 7
    · rw [if_pos h7] at hTe
      cases hTe
      have n1 := next_c (ad d1) 4 (by omega) (by omega)
      have n2 := next_c (ad (ad d1)) 3 (by omega) (by omega)
      have w1 := nx_bd (ad d1) 4 (by omega)
      have w2 := nx_bd (ad (ad d1)) 3 (by omega)
      have cs := secret_c (2000 + 10 * g + nx (ad (ad d1)) 3)
      have cb := bytes2_c g (nx (ad d1) 4) (secF (2000 + 10 * g + nx (ad (ad d1)) 3)) (by rw [secF_len]; omega) hg.1 hg.2 (by omega) (by omega)
      clear hT hKe
      (have zc1 := n1; have zc2 := n2; have zc3 := cs; have zc4 := cb; refine WW ?_; clear zc1 zc2 zc3 zc4)
      exact ⟨rfl, rfl⟩
    rw [if_neg h7] at hTe
    by_cases h8 : nx d1 9 = 8
    · rw [if_pos h8] at hTe
      cases hTe
      have n1 := next_c (ad d1) 3 (by omega) (by omega)
      have n2 := next_c (ad (ad d1)) 3 (by omega) (by omega)
      have w1 := nx_bd (ad d1) 3 (by omega)
      have w2 := nx_bd (ad (ad d1)) 3 (by omega)
      have cs := secret_c (1000 + nx (ad (ad d1)) 3)
      have cb := bytes2_c (nx (ad d1) 3) 0 (secF (1000 + nx (ad (ad d1)) 3)) (by rw [secF_len]; omega) (by omega) (by omega) (by omega) (by omega)
      clear hT hKe
      (have zc1 := n1; have zc2 := n2; have zc3 := cs; have zc4 := cb; refine WW ?_; clear zc1 zc2 zc3 zc4)
      exact ⟨rfl, rfl⟩
    · rw [if_neg h8] at hTe
      cases hTe
      clear hT hKe
      (refine WW ?_)
      exact ⟨rfl, rfl⟩
  clear hTe n9 c1 cs0 cb0
  have n2 := next_c d2 2 (by omega) (by omega)
  (repeat' (first | (refine is_ops ?_; first | refine x_auto tok rfl rfl ?_ | (refine is_call ?_; (first | (refine is_fn 9 ?_; first | refine x_q (stp_call (n2) rfl rfl rfl rfl rfl) rfl ?_ | refine x_w (stp_call (n2) rfl rfl rfl rfl rfl) rfl rfl rfl ?_ | refine x_d (stp_call (n2) rfl rfl rfl rfl rfl) rfl rfl rfl ?_))) | (refine is_grd ?_; first | refine x_on rfl rfl ?_ | refine x_off rfl rfl rfl rfl ?_ | (refine x_gsplit rfl rfl (fun hc => ?_) (fun hc => ?_) <;> (try simp only [cmpB, decide_eq_true_eq, decide_eq_false_iff_not, beq_iff_eq, bne_iff_ne, ne_eq, Bool.not_eq_true, beq_eq_false_iff_ne, bne_eq_false_iff_eq, Int.not_lt, Int.not_le, Decidable.not_not] at hc))) | (refine is_bin ?_; first | refine x_q (stp_cmp_t rfl rfl rfl (by unfold cmpP; omega)) rfl ?_ | refine x_q (stp_cmp_f rfl rfl rfl (by unfold cmpP; omega)) rfl ?_ | refine x_q (stp_cmp rfl rfl rfl) rfl ?_ | refine x_q (stp_add rfl rfl ⟨by omega, by omega⟩) rfl ?_ | refine x_q (stp_sub rfl rfl ⟨by omega, by omega⟩) rfl ?_ | refine x_q (stp_mul rfl rfl ⟨by omega, by omega⟩) rfl ?_ | refine x_q (stp_quo rfl rfl (by assumption) (by omega)) rfl ?_ | refine x_q (stp_rem rfl rfl (by omega)) rfl ?_ | refine x_q (stp_xor rfl rfl) rfl ?_ | refine x_q (stp_shlI rfl rfl (by omega)) rfl ?_ | refine x_q (stp_shrI rfl rfl (by omega)) rfl ?_ | refine x_q (stp_shift (.inl ⟨rfl, rfl⟩) rfl rfl (by omega)) rfl ?_ | refine x_q (stp_shift (.inr ⟨rfl, rfl⟩) rfl rfl (by omega)) rfl ?_ | refine x_q (stp_bool2 tok rfl rfl rfl rfl (.inl ⟨rfl, rfl⟩)) rfl ?_ | refine x_q (stp_bool2 tok rfl rfl rfl rfl (.inr ⟨rfl, rfl⟩)) rfl ?_ | refine x_q (stp_eqlNil tok (.inl ⟨rfl, rfl⟩) rfl rfl rfl) rfl ?_ | refine x_q (stp_eqlNil_not tok (.inl ⟨rfl, rfl⟩) rfl rfl rfl rfl) rfl ?_ | refine x_q (stp_andI rfl rfl) rfl ?_ | refine x_q (stp_orI rfl rfl) rfl ?_ | refine x_q (stp_bicI rfl rfl) rfl ?_ | refine x_q (stp_strEqV rfl rfl (by assumption)) rfl ?_ | refine x_q (stp_strEq rfl rfl) rfl ?_ | refine x_q (stp_strNeV rfl rfl (by assumption)) rfl ?_ | refine x_q (stp_strNe rfl rfl) rfl ?_) | (refine is_idx ?_; first | refine x_q (stp_indexAddr_sl tok rfl rfl rfl rfl rfl (by omega) (by first | rfl | assumption) rfl rfl) rfl ?_ | refine x_q (stp_indexAddr_r0 tok rfl rfl rfl rfl rfl rfl (by omega) (by omega) rfl) rfl ?_ | refine x_q (stp_indexAddr_box tok rfl rfl rfl rfl rfl rfl (by omega) (by omega)) rfl ?_) | (refine is_load ?_; first | refine x_q (stp_load_fp1 tok rfl rfl rfl (by first | rfl | assumption) rfl) rfl ?_ | refine x_q (stp_load_fpa tok rfl rfl rfl (by first | rfl | assumption) rfl) rfl ?_ | refine x_q (stp_load_arr1 tok rfl rfl rfl rfl (by first | rfl | assumption) rfl) rfl ?_ | refine x_q (stp_load_arra tok rfl rfl rfl rfl (by first | rfl | assumption) rfl) rfl ?_) | (refine is_fad ?_; first | refine x_q (stp_fieldAddr_arr tok rfl rfl rfl rfl rfl rfl rfl rfl) rfl ?_ | refine x_q (stp_fieldAddr_fp tok rfl (by first | rfl | assumption) rfl rfl rfl rfl rfl rfl) rfl ?_) | (refine is_app ?_; first | refine x_appref0 tok rfl rfl rfl rfl rfl rfl rfl (by first | (intro y hy; cases hy; rfl) | exact map_hd _ _ (fun _ => rfl)) rfl rfl rfl (by first | omega | (simp; done) | (simp; omega)) rfl ?_ | refine x_appref tok rfl rfl rfl rfl rfl rfl rfl rfl rfl rfl rfl (by first | (intro y hy; cases hy; rfl) | exact map_hd _ _ (fun _ => rfl)) (by first | omega | (simp; done) | (simp; omega)) rfl ?_) | (refine is_un ?_; first | refine x_q (stp_neg rfl ⟨by omega, by omega⟩) rfl ?_) | (refine is_conv ?_; first | refine x_q (stp_conv_in tok rfl rfl rfl rfl ⟨by omega, by omega⟩) rfl ?_ | refine x_q (stp_conv tok rfl rfl rfl rfl) rfl ?_ | refine x_q (stp_convStr tok rfl rfl rfl rfl rfl rfl rfl (by first | rfl | assumption)) rfl ?_) | (refine is_slc ?_; first | refine x_slcL tok rfl rfl rfl rfl rfl (by first | (intro y hy; cases hy; rfl) | exact map_hd _ _ (fun _ => rfl) | (simp; done)) (by omega) (by simp; omega) (by first | exact List.map_drop.symm | rfl) rfl ?_ | refine x_slcH tok rfl rfl rfl rfl rfl (by first | (intro y hy; cases hy; rfl) | exact map_hd _ _ (fun _ => rfl) | (simp; done)) (by omega) (by simp; omega) (by first | exact List.map_take.symm | rfl) rfl ?_) | (refine is_mks ?_; refine x_mks tok rfl rfl rfl rfl rfl rfl rfl rfl rfl rfl rfl rfl rfl (by omega) (by omega) rfl rfl rfl ?_) | refine x_autow tok rfl rfl rfl rfl ?_ | (refine is_sto ?_; first | refine x_autos tok rfl rfl rfl ?_ | refine x_stoa tok rfl rfl rfl (by first | rfl | assumption) rfl rfl rfl rfl rfl rfl ?_ | refine x_sto1 tok rfl rfl rfl (by first | rfl | assumption) rfl rfl rfl rfl rfl rfl rfl rfl ?_) | refine x_nil ?_ | refine x_nilD (by kernel_rfl) ?_) | (first | refine sim_seq ?_ | refine x_region ?_ | refine x_draw rfl ?_ | refine sim_skip ?_ | refine sim_ret ?_ | refine sim_exit ?_)))
  refine sim_join [1000, 5, 8, 9] [0, 2, 3, 5, 8, 9] ⟨[(0, .ptr 1000 0 0), (2, iA g), (3, bA false), (5, .ptr 5 0 0), (8, .ptr 8 0 0), (9, .ptr 9 0 0)], [(1000, dkE d3), (5, .box [.sl false [], .sl false [], iA 0, iA 0, iA 0, iA 0]), (8, .box [iA 0, .s (.slice none 0 0), .s (.slice none 0 0), .s (.slice none 0 0)]), (9, .box [iA k, slA yA tk0, .s (.slice none 0 0), .s (.slice none 0 0)])]⟩ rfl ?_ ?_
  · unfold mgK at hKe
    have n3 := next_c (ad d2) 4 (by omega) (by omega)
    have w3 := nx_bd (ad d2) 4 (by omega)
    have hy := kd4_at _ w3
    have hl4 : ([AV.s (.int .i64 6), AV.s (.int .i64 4), AV.s (.int .i64 6), AV.s (.int .i64 7)] : List AV).length = 4 := rfl
    clear hAe c3 hK
    by_cases h0 : nx d2 2 = 0
    · rw [if_pos h0] at hKe
      cases hKe
      (repeat' (first | (refine is_ops ?_; first | refine x_auto tok rfl rfl ?_ | (refine is_call ?_; (first | (refine is_fn 9 ?_; first | refine x_q (stp_call (n3) rfl rfl rfl rfl rfl) rfl ?_ | refine x_w (stp_call (n3) rfl rfl rfl rfl rfl) rfl rfl rfl ?_ | refine x_d (stp_call (n3) rfl rfl rfl rfl rfl) rfl rfl rfl ?_))) | (refine is_grd ?_; first | refine x_on rfl rfl ?_ | refine x_off rfl rfl rfl rfl ?_ | (refine x_gsplit rfl rfl (fun hc => ?_) (fun hc => ?_) <;> (try simp only [cmpB, decide_eq_true_eq, decide_eq_false_iff_not, beq_iff_eq, bne_iff_ne, ne_eq, Bool.not_eq_true, beq_eq_false_iff_ne, bne_eq_false_iff_eq, Int.not_lt, Int.not_le, Decidable.not_not] at hc))) | (refine is_bin ?_; first | refine x_q (stp_cmp_t rfl rfl rfl (by unfold cmpP; omega)) rfl ?_ | refine x_q (stp_cmp_f rfl rfl rfl (by unfold cmpP; omega)) rfl ?_ | refine x_q (stp_cmp rfl rfl rfl) rfl ?_ | refine x_q (stp_add rfl rfl ⟨by omega, by omega⟩) rfl ?_ | refine x_q (stp_sub rfl rfl ⟨by omega, by omega⟩) rfl ?_ | refine x_q (stp_mul rfl rfl ⟨by omega, by omega⟩) rfl ?_ | refine x_q (stp_quo rfl rfl (by assumption) (by omega)) rfl ?_ | refine x_q (stp_rem rfl rfl (by omega)) rfl ?_ | refine x_q (stp_xor rfl rfl) rfl ?_ | refine x_q (stp_shlI rfl rfl (by omega)) rfl ?_ | refine x_q (stp_shrI rfl rfl (by omega)) rfl ?_ | refine x_q (stp_shift (.inl ⟨rfl, rfl⟩) rfl rfl (by omega)) rfl ?_ | refine x_q (stp_shift (.inr ⟨rfl, rfl⟩) rfl rfl (by omega)) rfl ?_ | refine x_q (stp_bool2 tok rfl rfl rfl rfl (.inl ⟨rfl, rfl⟩)) rfl ?_ | refine x_q (stp_bool2 tok rfl rfl rfl rfl (.inr ⟨rfl, rfl⟩)) rfl ?_ | refine x_q (stp_eqlNil tok (.inl ⟨rfl, rfl⟩) rfl rfl rfl) rfl ?_ | refine x_q (stp_eqlNil_not tok (.inl ⟨rfl, rfl⟩) rfl rfl rfl rfl) rfl ?_ | refine x_q (stp_andI rfl rfl) rfl ?_ | refine x_q (stp_orI rfl rfl) rfl ?_ | refine x_q (stp_bicI rfl rfl) rfl ?_ | refine x_q (stp_strEqV rfl rfl (by assumption)) rfl ?_ | refine x_q (stp_strEq rfl rfl) rfl ?_ | refine x_q (stp_strNeV rfl rfl (by assumption)) rfl ?_ | refine x_q (stp_strNe rfl rfl) rfl ?_) | (refine is_idx ?_; first | refine x_q (stp_indexAddr_sl tok rfl rfl rfl rfl rfl (by omega) (by first | rfl | assumption) rfl rfl) rfl ?_ | refine x_q (stp_indexAddr_r0 tok rfl rfl rfl rfl rfl rfl (by omega) (by omega) rfl) rfl ?_ | refine x_q (stp_indexAddr_box tok rfl rfl rfl rfl rfl rfl (by omega) (by omega)) rfl ?_) | (refine is_load ?_; first | refine x_q (stp_load_fp1 tok rfl rfl rfl (by first | rfl | assumption) rfl) rfl ?_ | refine x_q (stp_load_fpa tok rfl rfl rfl (by first | rfl | assumption) rfl) rfl ?_ | refine x_q (stp_load_arr1 tok rfl rfl rfl rfl (by first | rfl | assumption) rfl) rfl ?_ | refine x_q (stp_load_arra tok rfl rfl rfl rfl (by first | rfl | assumption) rfl) rfl ?_) | (refine is_fad ?_; first | refine x_q (stp_fieldAddr_arr tok rfl rfl rfl rfl rfl rfl rfl rfl) rfl ?_ | refine x_q (stp_fieldAddr_fp tok rfl (by first | rfl | assumption) rfl rfl rfl rfl rfl rfl) rfl ?_) | (refine is_app ?_; first | refine x_appref0 tok rfl rfl rfl rfl rfl rfl rfl (by first | (intro y hy; cases hy; rfl) | exact map_hd _ _ (fun _ => rfl)) rfl rfl rfl (by first | omega | (simp; done) | (simp; omega)) rfl ?_ | refine x_appref tok rfl rfl rfl rfl rfl rfl rfl rfl rfl rfl rfl (by first | (intro y hy; cases hy; rfl) | exact map_hd _ _ (fun _ => rfl)) (by first | omega | (simp; done) | (simp; omega)) rfl ?_) | (refine is_un ?_; first | refine x_q (stp_neg rfl ⟨by omega, by omega⟩) rfl ?_) | (refine is_conv ?_; first | refine x_q (stp_conv_in tok rfl rfl rfl rfl ⟨by omega, by omega⟩) rfl ?_ | refine x_q (stp_conv tok rfl rfl rfl rfl) rfl ?_ | refine x_q (stp_convStr tok rfl rfl rfl rfl rfl rfl rfl (by first | rfl | assumption)) rfl ?_) | (refine is_slc ?_; first | refine x_slcL tok rfl rfl rfl rfl rfl (by first | (intro y hy; cases hy; rfl) | exact map_hd _ _ (fun _ => rfl) | (simp; done)) (by omega) (by simp; omega) (by first | exact List.map_drop.symm | rfl) rfl ?_ | refine x_slcH tok rfl rfl rfl rfl rfl (by first | (intro y hy; cases hy; rfl) | exact map_hd _ _ (fun _ => rfl) | (simp; done)) (by omega) (by simp; omega) (by first | exact List.map_take.symm | rfl) rfl ?_) | (refine is_mks ?_; refine x_mks tok rfl rfl rfl rfl rfl rfl rfl rfl rfl rfl rfl rfl rfl (by omega) (by omega) rfl rfl rfl ?_) | refine x_autow tok rfl rfl rfl rfl ?_ | (refine is_sto ?_; first | refine x_autos tok rfl rfl rfl ?_ | refine x_stoa tok rfl rfl rfl (by first | rfl | assumption) rfl rfl rfl rfl rfl rfl ?_ | refine x_sto1 tok rfl rfl rfl (by first | rfl | assumption) rfl rfl rfl rfl rfl rfl rfl rfl ?_) | refine x_nil ?_ | refine x_nilD (by kernel_rfl) ?_) | (first | refine sim_seq ?_ | refine x_region ?_ | refine x_draw rfl ?_ | refine sim_cond_true rfl ?_ | refine sim_cond_false rfl ?_ | (refine sim_cond rfl (fun hc => ?_) (fun hc => ?_) <;> (try simp only [cmpB, decide_eq_true_eq, decide_eq_false_iff_not, beq_iff_eq, bne_iff_ne, ne_eq, Bool.not_eq_true, beq_eq_false_iff_ne, bne_eq_false_iff_eq, Int.not_lt, Int.not_le, Decidable.not_not] at hc)) | refine sim_skip ?_ | refine sim_ret ?_ | refine sim_exit ?_ | refine sim_block ?_)))
      all_goals first | (exfalso; omega; done) | exact ⟨rfl, rfl⟩
    · rw [if_neg h0] at hKe
      cases hKe
      (repeat' (first | (refine is_ops ?_; first | refine x_auto tok rfl rfl ?_ | (refine is_call ?_; (first | (refine is_fn 9 ?_; first | refine x_q (stp_call (n3) rfl rfl rfl rfl rfl) rfl ?_ | refine x_w (stp_call (n3) rfl rfl rfl rfl rfl) rfl rfl rfl ?_ | refine x_d (stp_call (n3) rfl rfl rfl rfl rfl) rfl rfl rfl ?_))) | (refine is_grd ?_; first | refine x_on rfl rfl ?_ | refine x_off rfl rfl rfl rfl ?_ | (refine x_gsplit rfl rfl (fun hc => ?_) (fun hc => ?_) <;> (try simp only [cmpB, decide_eq_true_eq, decide_eq_false_iff_not, beq_iff_eq, bne_iff_ne, ne_eq, Bool.not_eq_true, beq_eq_false_iff_ne, bne_eq_false_iff_eq, Int.not_lt, Int.not_le, Decidable.not_not] at hc))) | (refine is_bin ?_; first | refine x_q (stp_cmp_t rfl rfl rfl (by unfold cmpP; omega)) rfl ?_ | refine x_q (stp_cmp_f rfl rfl rfl (by unfold cmpP; omega)) rfl ?_ | refine x_q (stp_cmp rfl rfl rfl) rfl ?_ | refine x_q (stp_add rfl rfl ⟨by omega, by omega⟩) rfl ?_ | refine x_q (stp_sub rfl rfl ⟨by omega, by omega⟩) rfl ?_ | refine x_q (stp_mul rfl rfl ⟨by omega, by omega⟩) rfl ?_ | refine x_q (stp_quo rfl rfl (by assumption) (by omega)) rfl ?_ | refine x_q (stp_rem rfl rfl (by omega)) rfl ?_ | refine x_q (stp_xor rfl rfl) rfl ?_ | refine x_q (stp_shlI rfl rfl (by omega)) rfl ?_ | refine x_q (stp_shrI rfl rfl (by omega)) rfl ?_ | refine x_q (stp_shift (.inl ⟨rfl, rfl⟩) rfl rfl (by omega)) rfl ?_ | refine x_q (stp_shift (.inr ⟨rfl, rfl⟩) rfl rfl (by omega)) rfl ?_ | refine x_q (stp_bool2 tok rfl rfl rfl rfl (.inl ⟨rfl, rfl⟩)) rfl ?_ | refine x_q (stp_bool2 tok rfl rfl rfl rfl (.inr ⟨rfl, rfl⟩)) rfl ?_ | refine x_q (stp_eqlNil tok (.inl ⟨rfl, rfl⟩) rfl rfl rfl) rfl ?_ | refine x_q (stp_eqlNil_not tok (.inl ⟨rfl, rfl⟩) rfl rfl rfl rfl) rfl ?_ | refine x_q (stp_andI rfl rfl) rfl ?_ | refine x_q (stp_orI rfl rfl) rfl ?_ | refine x_q (stp_bicI rfl rfl) rfl ?_ | refine x_q (stp_strEqV rfl rfl (by assumption)) rfl ?_ | refine x_q (stp_strEq rfl rfl) rfl ?_ | refine x_q (stp_strNeV rfl rfl (by assumption)) rfl ?_ | refine x_q (stp_strNe rfl rfl) rfl ?_) | (refine is_idx ?_; first | refine x_q (stp_indexAddr_sl tok rfl rfl rfl rfl rfl (by omega) (by first | rfl | assumption) rfl rfl) rfl ?_ | refine x_q (stp_indexAddr_r0 tok rfl rfl rfl rfl rfl rfl (by omega) (by omega) rfl) rfl ?_ | refine x_q (stp_indexAddr_box tok rfl rfl rfl rfl rfl rfl (by omega) (by omega)) rfl ?_) | (refine is_load ?_; first | refine x_q (stp_load_fp1 tok rfl rfl rfl (by first | rfl | assumption) rfl) rfl ?_ | refine x_q (stp_load_fpa tok rfl rfl rfl (by first | rfl | assumption) rfl) rfl ?_ | refine x_q (stp_load_arr1 tok rfl rfl rfl rfl (by first | rfl | assumption) rfl) rfl ?_ | refine x_q (stp_load_arra tok rfl rfl rfl rfl (by first | rfl | assumption) rfl) rfl ?_) | (refine is_fad ?_; first | refine x_q (stp_fieldAddr_arr tok rfl rfl rfl rfl rfl rfl rfl rfl) rfl ?_ | refine x_q (stp_fieldAddr_fp tok rfl (by first | rfl | assumption) rfl rfl rfl rfl rfl rfl) rfl ?_) | (refine is_app ?_; first | refine x_appref0 tok rfl rfl rfl rfl rfl rfl rfl (by first | (intro y hy; cases hy; rfl) | exact map_hd _ _ (fun _ => rfl)) rfl rfl rfl (by first | omega | (simp; done) | (simp; omega)) rfl ?_ | refine x_appref tok rfl rfl rfl rfl rfl rfl rfl rfl rfl rfl rfl (by first | (intro y hy; cases hy; rfl) | exact map_hd _ _ (fun _ => rfl)) (by first | omega | (simp; done) | (simp; omega)) rfl ?_) | (refine is_un ?_; first | refine x_q (stp_neg rfl ⟨by omega, by omega⟩) rfl ?_) | (refine is_conv ?_; first | refine x_q (stp_conv_in tok rfl rfl rfl rfl ⟨by omega, by omega⟩) rfl ?_ | refine x_q (stp_conv tok rfl rfl rfl rfl) rfl ?_ | refine x_q (stp_convStr tok rfl rfl rfl rfl rfl rfl rfl (by first | rfl | assumption)) rfl ?_) | (refine is_slc ?_; first | refine x_slcL tok rfl rfl rfl rfl rfl (by first | (intro y hy; cases hy; rfl) | exact map_hd _ _ (fun _ => rfl) | (simp; done)) (by omega) (by simp; omega) (by first | exact List.map_drop.symm | rfl) rfl ?_ | refine x_slcH tok rfl rfl rfl rfl rfl (by first | (intro y hy; cases hy; rfl) | exact map_hd _ _ (fun _ => rfl) | (simp; done)) (by omega) (by simp; omega) (by first | exact List.map_take.symm | rfl) rfl ?_) | (refine is_mks ?_; refine x_mks tok rfl rfl rfl rfl rfl rfl rfl rfl rfl rfl rfl rfl rfl (by omega) (by omega) rfl rfl rfl ?_) | refine x_autow tok rfl rfl rfl rfl ?_ | (refine is_sto ?_; first | refine x_autos tok rfl rfl rfl ?_ | refine x_stoa tok rfl rfl rfl (by first | rfl | assumption) rfl rfl rfl rfl rfl rfl ?_ | refine x_sto1 tok rfl rfl rfl (by first | rfl | assumption) rfl rfl rfl rfl rfl rfl rfl rfl ?_) | refine x_nil ?_ | refine x_nilD (by kernel_rfl) ?_) | (first | refine sim_seq ?_ | refine x_region ?_ | refine x_draw rfl ?_ | refine sim_cond_true rfl ?_ | refine sim_cond_false rfl ?_ | (refine sim_cond rfl (fun hc => ?_) (fun hc => ?_) <;> (try simp only [cmpB, decide_eq_true_eq, decide_eq_false_iff_not, beq_iff_eq, bne_iff_ne, ne_eq, Bool.not_eq_true, beq_eq_false_iff_ne, bne_eq_false_iff_eq, Int.not_lt, Int.not_le, Decidable.not_not] at hc)) | refine sim_skip ?_ | refine sim_ret ?_ | refine sim_exit ?_ | refine sim_block ?_)))
      all_goals first | (exfalso; omega; done) | exact ⟨rfl, rfl⟩
  clear hKe n2
  (repeat' (first | (refine is_ops ?_; first | refine x_auto tok rfl rfl ?_ | (refine is_call ?_; (first | (refine is_fn 9 ?_; first | refine x_q (stp_call (c3) rfl rfl rfl rfl rfl) rfl ?_ | refine x_w (stp_call (c3) rfl rfl rfl rfl rfl) rfl rfl rfl ?_ | refine x_d (stp_call (c3) rfl rfl rfl rfl rfl) rfl rfl rfl ?_))) | (refine is_grd ?_; first | refine x_on rfl rfl ?_ | refine x_off rfl rfl rfl rfl ?_ | (refine x_gsplit rfl rfl (fun hc => ?_) (fun hc => ?_) <;> (try simp only [cmpB, decide_eq_true_eq, decide_eq_false_iff_not, beq_iff_eq, bne_iff_ne, ne_eq, Bool.not_eq_true, beq_eq_false_iff_ne, bne_eq_false_iff_eq, Int.not_lt, Int.not_le, Decidable.not_not] at hc))) | (refine is_bin ?_; first | refine x_q (stp_cmp_t rfl rfl rfl (by unfold cmpP; omega)) rfl ?_ | refine x_q (stp_cmp_f rfl rfl rfl (by unfold cmpP; omega)) rfl ?_ | refine x_q (stp_cmp rfl rfl rfl) rfl ?_ | refine x_q (stp_add rfl rfl ⟨by omega, by omega⟩) rfl ?_ | refine x_q (stp_sub rfl rfl ⟨by omega, by omega⟩) rfl ?_ | refine x_q (stp_mul rfl rfl ⟨by omega, by omega⟩) rfl ?_ | refine x_q (stp_quo rfl rfl (by assumption) (by omega)) rfl ?_ | refine x_q (stp_rem rfl rfl (by omega)) rfl ?_ | refine x_q (stp_xor rfl rfl) rfl ?_ | refine x_q (stp_shlI rfl rfl (by omega)) rfl ?_ | refine x_q (stp_shrI rfl rfl (by omega)) rfl ?_ | refine x_q (stp_shift (.inl ⟨rfl, rfl⟩) rfl rfl (by omega)) rfl ?_ | refine x_q (stp_shift (.inr ⟨rfl, rfl⟩) rfl rfl (by omega)) rfl ?_ | refine x_q (stp_bool2 tok rfl rfl rfl rfl (.inl ⟨rfl, rfl⟩)) rfl ?_ | refine x_q (stp_bool2 tok rfl rfl rfl rfl (.inr ⟨rfl, rfl⟩)) rfl ?_ | refine x_q (stp_eqlNil tok (.inl ⟨rfl, rfl⟩) rfl rfl rfl) rfl ?_ | refine x_q (stp_eqlNil_not tok (.inl ⟨rfl, rfl⟩) rfl rfl rfl rfl) rfl ?_ | refine x_q (stp_andI rfl rfl) rfl ?_ | refine x_q (stp_orI rfl rfl) rfl ?_ | refine x_q (stp_bicI rfl rfl) rfl ?_ | refine x_q (stp_strEqV rfl rfl (by assumption)) rfl ?_ | refine x_q (stp_strEq rfl rfl) rfl ?_ | refine x_q (stp_strNeV rfl rfl (by assumption)) rfl ?_ | refine x_q (stp_strNe rfl rfl) rfl ?_) | (refine is_idx ?_; first | refine x_q (stp_indexAddr_sl tok rfl rfl rfl rfl rfl (by omega) (by first | rfl | assumption) rfl rfl) rfl ?_ | refine x_q (stp_indexAddr_r0 tok rfl rfl rfl rfl rfl rfl (by omega) (by omega) rfl) rfl ?_ | refine x_q (stp_indexAddr_box tok rfl rfl rfl rfl rfl rfl (by omega) (by omega)) rfl ?_) | (refine is_load ?_; first | refine x_q (stp_load_fp1 tok rfl rfl rfl (by first | rfl | assumption) rfl) rfl ?_ | refine x_q (stp_load_fpa tok rfl rfl rfl (by first | rfl | assumption) rfl) rfl ?_ | refine x_q (stp_load_arr1 tok rfl rfl rfl rfl (by first | rfl | assumption) rfl) rfl ?_ | refine x_q (stp_load_arra tok rfl rfl rfl rfl (by first | rfl | assumption) rfl) rfl ?_) | (refine is_fad ?_; first | refine x_q (stp_fieldAddr_arr tok rfl rfl rfl rfl rfl rfl rfl rfl) rfl ?_ | refine x_q (stp_fieldAddr_fp tok rfl (by first | rfl | assumption) rfl rfl rfl rfl rfl rfl) rfl ?_) | (refine is_app ?_; first | refine x_appref0 tok rfl rfl rfl rfl rfl rfl rfl (by first | (intro y hy; cases hy; rfl) | exact map_hd _ _ (fun _ => rfl)) rfl rfl rfl (by first | omega | (simp; done) | (simp; omega)) rfl ?_ | refine x_appref tok rfl rfl rfl rfl rfl rfl rfl rfl rfl rfl rfl (by first | (intro y hy; cases hy; rfl) | exact map_hd _ _ (fun _ => rfl)) (by first | omega | (simp; done) | (simp; omega)) rfl ?_) | (refine is_un ?_; first | refine x_q (stp_neg rfl ⟨by omega, by omega⟩) rfl ?_) | (refine is_conv ?_; first | refine x_q (stp_conv_in tok rfl rfl rfl rfl ⟨by omega, by omega⟩) rfl ?_ | refine x_q (stp_conv tok rfl rfl rfl rfl) rfl ?_ | refine x_q (stp_convStr tok rfl rfl rfl rfl rfl rfl rfl (by first | rfl | assumption)) rfl ?_) | (refine is_slc ?_; first | refine x_slcL tok rfl rfl rfl rfl rfl (by first | (intro y hy; cases hy; rfl) | exact map_hd _ _ (fun _ => rfl) | (simp; done)) (by omega) (by simp; omega) (by first | exact List.map_drop.symm | rfl) rfl ?_ | refine x_slcH tok rfl rfl rfl rfl rfl (by first | (intro y hy; cases hy; rfl) | exact map_hd _ _ (fun _ => rfl) | (simp; done)) (by omega) (by simp; omega) (by first | exact List.map_take.symm | rfl) rfl ?_) | (refine is_mks ?_; refine x_mks tok rfl rfl rfl rfl rfl rfl rfl rfl rfl rfl rfl rfl rfl (by omega) (by omega) rfl rfl rfl ?_) | refine x_autow tok rfl rfl rfl rfl ?_ | (refine is_sto ?_; first | refine x_autos tok rfl rfl rfl ?_ | refine x_stoa tok rfl rfl rfl (by first | rfl | assumption) rfl rfl rfl rfl rfl rfl ?_ | refine x_sto1 tok rfl rfl rfl (by first | rfl | assumption) rfl rfl rfl rfl rfl rfl rfl rfl ?_) | refine x_nil ?_ | refine x_nilD (by kernel_rfl) ?_) | (first | refine sim_seq ?_ | refine x_region ?_ | refine x_draw rfl ?_ | refine sim_cond_true rfl ?_ | refine sim_cond_false rfl ?_ | (refine sim_cond rfl (fun hc => ?_) (fun hc => ?_) <;> (try simp only [cmpB, decide_eq_true_eq, decide_eq_false_iff_not, beq_iff_eq, bne_iff_ne, ne_eq, Bool.not_eq_true, beq_eq_false_iff_ne, bne_eq_false_iff_eq, Int.not_lt, Int.not_le, Decidable.not_not] at hc)) | refine sim_skip ?_ | refine sim_ret ?_ | refine sim_exit ?_)))
  have b4 := nx_bd d4 4 (by omega)
  unfold mgA at hAe
  by_cases k2 : k = 2
  · rw [if_pos k2] at hAe
    cases hAe
    have n1 := next_c d4 5 (by omega) (by omega)
    have n2 := next_c (ad d4) 5 (by omega) (by omega)
    have n3 := next_c (ad (ad d4)) 4 (by omega) (by omega)
    have w1 := nx_bd d4 5 (by omega)
    have w3 := nx_bd (ad (ad d4)) 4 (by omega)
    have h1 := rq5_at _ w1
    have h3 := lf4_at _ w3
    have hl5 : ([AV.s (.int .i64 63), AV.s (.int .i64 1), AV.s (.int .i64 3), AV.s (.int .i64 47), AV.s (.int .i64 64)] : List AV).length = 5 := rfl
    have hl4 : ([AV.s (.int .i64 0), AV.s (.int .i64 5), AV.s (.int .i64 30), AV.s (.int .i64 700)] : List AV).length = 4 := rfl
    generalize rq5 (nx d4 5) = y1 at *
    generalize lf4 (nx (ad (ad d4)) 4) = y3 at *
    clear hA hK r3 hT
    (have zc1 := n1; have zc2 := n2; have zc3 := n3; refine WW ?_; clear zc1 zc2 zc3)
    exact fin_ret [1000] rfl rfl rfl rfl
  rw [if_neg k2] at hAe
  by_cases k3 : k = 3 ∨ k = 8 ∨ k = 5 ∨ k = 10 ∨ k = 11
  · rw [if_pos k3] at hAe
    cases hAe
    have n1 := next_c d4 4 (by omega) (by omega)
    clear hA hK r3 hT
    rcases k3 with h | h | h | h | h <;> ((have zc1 := n1; refine WW ?_; clear zc1); exact fin_ret [1000] rfl rfl rfl rfl)
  rw [if_neg k3] at hAe
  by_cases k4 : k = 4
  · rw [if_pos k4] at hAe
    cases hAe
    have n1 := next_c d4 4 (by omega) (by omega)
    clear hA hK r3 hT
    (have zc1 := n1; refine WW ?_; clear zc1)
    exact fin_ret [1000] rfl rfl rfl rfl
  rw [if_neg k4] at hAe
  by_cases k6 : k = 6
  · rw [if_pos k6] at hAe
    have n1 := next_c d4 4 (by omega) (by omega)
    have n2 := next_c (ad d4) 4 (by omega) (by omega)
    have n3 := range_c (ad (ad d4)) 1 60 (by omega) (by omega) (by omega)
    have cl := legs_c [nx d4 4, nx (ad d4) 4, 1 + nx (ad (ad d4)) (60 - 1 + 1)] (by simp) (ad (ad (ad d4)))
    rw [hAe] at cl
    clear hA hK r3 hT hAe
    generalize 1 + nx (ad (ad d4)) (60 - 1 + 1) = x3 at *
    generalize nx (ad d4) 4 = x2 at *
    generalize nx d4 4 = x1 at *
    (have zc1 := n1; have zc2 := n2; have zc3 := n3; have zc4 := cl; refine WW ?_; clear zc1 zc2 zc3 zc4)
    exact fin_ret [1000] rfl rfl (congrArg (fun z => AV.agg [iA k, slA yA tk0, .sl false z, slA yA []]) (List.take_length (l := args.map iA))) rfl
  rw [if_neg k6] at hAe
  by_cases k7 : k = 7
  · rw [if_pos k7] at hAe
    have n1 := next_c d4 4 (by omega) (by omega)
    have n2 := next_c (ad d4) 2 (by omega) (by omega)
    have w2 := nx_bd (ad d4) 2 (by omega)
    clear hA hK r3 hT
    generalize nx d4 4 = x1 at *
    generalize nx (ad d4) 2 = n at *
    generalize ad d4 = e4 at *
    generalize ad e4 = e5 at *
    obtain ⟨N, hN⟩ : ∃ N : Nat, 1 + n.toNat = N := ⟨_, rfl⟩
    have hN2 : 1 + n = (N : Int) := by omega
    rw [hN] at hAe
    (have zc1 := n1; have zc2 := n2; refine WW ?_; clear zc1 zc2)
    refine sim_stale 114 rfl ?_
    (refine sim_cnt (N) [9, 1000, 114, 8] [8] [0, 8, 9] [11, 0, 8, 9] rfl (fun i T U => ⟨(11, iA ((N : Int) - i)) :: T, (9, .box [iA k, slA yA tk0, .ref 114 0 ((upL [x1] e5 i).1.map iA).length, .s (.slice none 0 0)]) :: (1000, dkE (upL [x1] e5 i).2) :: (114, .arr 1 ((upL [x1] e5 i).1.map iA) true) :: U⟩) ?_; (conv => whnf); refine ⟨by (rw [show (N : Int) - (0 : Nat) = 1 + n by omega]; rfl), ?_, ?_⟩)
    · intro i hi
      have hl := (upL_p [x1] e5 i).1
      have eS : upL [x1] e5 (i + 1) = upS (upL [x1] e5 i).1 (upL [x1] e5 i).2 := rfl
      unfold upS at eS
      rw [show ((N : Int) - ((i + 1 : Nat) : Int)) = (N : Int) - i - 1 by omega]
      generalize (upL [x1] e5 i).1 = p at *
      generalize (upL [x1] e5 i).2 = e at *
      have hk1 : 1 ≤ (N : Int) - i := by omega
      have hk2 : (N : Int) - i ≤ 10 := by omega
      have hp : p.length ≤ 100 := by simp at hl; omega
      generalize (N : Int) - i = q at *
      have n1 := next_c e 3 (by omega) (by omega)
      have n2 := next_c (ad e) 40 (by omega) (by omega)
      have w1 := nx_bd e 3 (by omega)
      have w2 := nx_bd (ad e) 40 (by omega)
      generalize nx (ad e) 40 = y2 at *
      generalize nx e 3 = y1 at *
      generalize ad e = e1 at *
      generalize ad e1 = e2 at *
      rw [eS]
      (have zc1 := n1; have zc2 := n2; refine WW ?_; clear zc1 zc2)
      show restr _ _ _ = _
      rw [List.map_append]
      rfl
    · rw [show (N : Int) - (N : Int) = 0 by omega, hAe]
      (refine WW ?_)
      exact fin_ret [1000] rfl rfl (congrArg (fun z => AV.agg [iA k, slA yA tk0, .sl false z, slA yA []]) (List.take_length (l := args.map iA))) rfl
  · rw [if_neg k7] at hAe
    cases hAe
    clear hA hK r3 hT
    (refine WW ?_)
    exact fin_ret [1000] rfl rfl rfl rfl
theorem message_ex (g : Int) (hg : 0 ≤ g ∧ g < 256) (d : Dk) : ∃ (m : Ms) (d' : Dk), BY m.tok ∧ (1 ≤ m.kind ∧ m.kind ≤ 12) ∧ rem d' ≤ rem d ∧ CallSim Tryz.prog 24 [.ptr 1000 0 0, zCf, iA g, bA false] [(1000, dkE d)] (msA m) [(1000, dkE d')] := by
  obtain ⟨m, d', h1, h2, _, h3, h4⟩ := message_exL g hg d
  exact ⟨m, d', h1, h2, h3, h4⟩
end Av
end Go.Proofs.YtjbldhhgooihfaaGreat
