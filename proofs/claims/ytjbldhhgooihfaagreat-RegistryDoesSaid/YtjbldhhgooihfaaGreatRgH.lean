
/- law17: the references' Below, free, Revoke, Derive. -/
import Derived.Test.YtjbldhhgooihfaaGreatRgG
namespace Go.Proofs.YtjbldhhgooihfaaGreat
namespace Av
set_option linter.unusedSimpArgs false
set_option linter.unusedVariables false
set_option maxRecDepth 4000
set_option maxHeartbeats 1000000
/-- A set of small numbers. -/
def bsF (p : Nat → Bool) : Nat → Int
  | 0 => 0
  | n + 1 => if p n = true then bsF p n + p2 n else bsF p n
theorem bsF_bd (p : Nat → Bool) : ∀ n : Nat, n ≤ 30 → 0 ≤ bsF p n ∧ bsF p n < p2 n
  | 0, _ => ⟨Int.le_refl 0, by show (0 : Int) < 1; decide⟩
  | n + 1, h => by
    have ih := bsF_bd p n (by omega)
    have h2 : p2 ((n + 1 : Nat) : Int) = 2 * p2 (n : Int) := by
      unfold p2
      rw [Int.toNat_natCast, Int.toNat_natCast, Int.pow_succ]
      omega
    have := p2_bd n (by omega)
    unfold bsF
    split <;> omega
theorem bsF_congr {p q : Nat → Bool} : ∀ n : Nat, (∀ i, i < n → p i = q i) → bsF p n = bsF q n
  | 0, _ => rfl
  | n + 1, h => by unfold bsF; rw [h n (by omega), bsF_congr n fun i hi => h i (by omega)]
def bq (b0 b1 b2 b3 b4 b5 b6 b7 : Bool) : Nat → Bool
  | 0 => b0 | 1 => b1 | 2 => b2 | 3 => b3 | 4 => b4 | 5 => b5 | 6 => b6 | 7 => b7 | _ => false
theorem bits8 : ∀ b0 b1 b2 b3 b4 b5 b6 b7 : Bool, ∀ i : _root_.Fin 8, (andI (shrI (bsF (bq b0 b1 b2 b3 b4 b5 b6 b7) 8) i.val) 1 == 1) = bq b0 b1 b2 b3 b4 b5 b6 b7 i.val := by decide +kernel
theorem bits_at (p : Nat → Bool) (i : Nat) (hi : i < 8) : (andI (shrI (bsF p 8) i) 1 == 1) = p i := by
  have e : ∀ j, j < 8 → p j = bq (p 0) (p 1) (p 2) (p 3) (p 4) (p 5) (p 6) (p 7) j := fun j hj => by
    match j, hj with
    | 0, _ => rfl | 1, _ => rfl | 2, _ => rfl | 3, _ => rfl | 4, _ => rfl | 5, _ => rfl | 6, _ => rfl | 7, _ => rfl
    | j + 8, h => omega
  rw [bsF_congr 8 e, e i hi]
  exact bits8 _ _ _ _ _ _ _ _ ⟨i, hi⟩
theorem below_c (l : List Tk) (s : Int) (hn : l.length = 8) : CallSim Tryz.prog 80 [slA tkA l, iA s] [] (iA (bsF (fun i => ldF l (l.length + 1) i s) 8)) [] := by
  have hl := map_len tkA l
  generalize hp : (fun i : Nat => ldF l (l.length + 1) i s) = p
  (refine callSim_of tok Tryz.func80 rfl (fun args w => Tryz.call80 args w) rfl rfl rfl (fun F hF => ?_))
  (refine WW ?_)
  (refine sim_cnt ((l.map tkA).length) [] [] [0, 1, 8] [5, 9, 0, 1, 8] rfl (fun i T U => ⟨(5, iA (bsF p i)) :: (9, iA i) :: T, U⟩) ?_; (conv => whnf); refine ⟨by rfl, ?_, ?_⟩)
  · intro i hi
    have hi' : i < 8 := by omega
    have c := leads_c l i s (by omega)
    have hb := bsF_bd p i (by omega)
    have hb2 := p2_bd i (by omega)
    rw [show ldF l (l.length + 1) i s = p i by rw [← hp]] at c
    have e : bsF p (i + 1) = if p i = true then bsF p i + p2 i else bsF p i := rfl
    rw [e]
    generalize bsF p i = b at *
    cases hpi : p i
    · rw [hpi] at c
      simp only [Bool.false_eq_true, if_false]
      (have zc1 := c; refine WW ?_; clear zc1)
      rfl
    · rw [hpi] at c
      simp only [if_true]
      (have zc1 := c; refine WW ?_; clear zc1)
      rfl
  · have e8 : (l.map tkA).length = 8 := by omega
    rw [e8]
    (refine WW ?_)
    exact fin_ret [] rfl rfl rfl rfl
/-- The slots of a set are free. -/
def frB (p : Nat → Bool) (l : List Tk) (n : Nat) : List Tk := (List.range l.length).map fun j => if j < n ∧ p j = true then frT else l.getD j default
theorem frB_len (p : Nat → Bool) (l : List Tk) (n : Nat) : (frB p l n).length = l.length := by simp [frB]
theorem frB_zero (p : Nat → Bool) (l : List Tk) : frB p l 0 = l := by
  unfold frB
  apply List.ext_getElem?
  intro j
  rw [List.getElem?_map]
  by_cases h : j < l.length
  · rw [List.getElem?_range h]; simp [List.getD, h]
  · rw [List.getElem?_eq_none (by simp; omega), List.getElem?_eq_none (by omega)]; rfl
theorem frB_at (p : Nat → Bool) (l : List Tk) (n : Nat) (h : n < l.length) : (frB p l n)[n]? = some (l.getD n default) := by
  unfold frB
  rw [List.getElem?_map, List.getElem?_range h]
  simp
theorem frB_succ (p : Nat → Bool) (l : List Tk) (n : Nat) : frB p l (n + 1) = if p n = true then (frB p l n).set n frT else frB p l n := by
  apply List.ext_getElem?
  intro j
  have hat : ∀ n, (frB p l n)[j]? = if j < l.length then some (if j < n ∧ p j = true then frT else l.getD j default) else none := fun n => by
    unfold frB
    rw [List.getElem?_map]
    by_cases h : j < l.length
    · rw [List.getElem?_range h, if_pos h]; rfl
    · rw [List.getElem?_eq_none (by simp; omega), if_neg h]; rfl
  cases hp : p n
  · simp only [Bool.false_eq_true, if_false]
    rw [hat, hat]
    by_cases hj : j = n
    · subst hj; simp [hp]
    · have hlt : (j < n + 1) ↔ (j < n) := by omega
      simp only [hlt]
  · simp only [if_true]
    rw [List.getElem?_set, hat, hat, frB_len]
    by_cases hj : n = j
    · subst hj
      by_cases hl : n < l.length
      · simp [hl, hp]
      · simp [hl]
    · have hlt : (j < n + 1) ↔ (j < n) := by omega
      simp only [if_neg hj, hlt]
theorem free2_c (l : List Tk) (hb : TkB l) (p : Nat → Bool) (hn : l.length = 8) : CallSim Tryz.prog 79 [slA tkA l, iA (bsF p 8)] [] (slA tkA (frB p l 8)) [] := by
  have c := copyT2_own l hb
  have hll := map_len tkA l
  have hbd := bsF_bd p 8 (by omega)
  have hbit := bits_at p
  generalize bsF p 8 = b at *
  (refine callSim_of tok Tryz.func79 rfl (fun args w => Tryz.call79 args w) rfl rfl rfl (fun F hF => ?_))
  (have zc1 := c; refine WW ?_; clear zc1)
  (refine sim_cnt ((l.map tkA).length) [1001] [] [1, 5, 10] [11, 1, 5, 10] rfl (fun i T U => ⟨(11, iA i) :: T, (1001, .arr 6 ((frB p l i).map tkA) false) :: U⟩) ?_; (conv => whnf); refine ⟨by (rw [frB_zero]; rfl), ?_, ?_⟩)
  · intro i hi
    have hi' : i < l.length := by omega
    have hy : ((frB p l i).map tkA)[i]? = some (tkA (l.getD i default)) := by rw [List.getElem?_map, frB_at p l i hi']; rfl
    have es := frB_succ p l i
    have hbi := hbit i (by omega)
    have hrl : i < ((frB p l i).map tkA).length := by rw [List.length_map, frB_len]; exact hi'
    cases hpi : p i
    · rw [hpi] at hbi es
      simp only [Bool.false_eq_true, if_false] at es
      rw [es]
      have hbi' : andI (shrI b i) 1 ≠ 1 := by simpa using hbi
      generalize (frB p l i).map tkA = xs at *
      (refine WW ?_)
      rfl
    · rw [hpi] at hbi es
      simp only [if_true] at es
      have hbi' : andI (shrI b i) 1 = 1 := by simpa using hbi
      have e2 : (frB p l (i + 1)).map tkA = ((frB p l i).map tkA).set i (tkA frT) := by rw [es, List.map_set]
      generalize (frB p l i).map tkA = xs at *
      generalize (frB p l (i + 1)).map tkA = ys at *
      subst e2
      (repeat' (first | (refine is_ops ?_; first | refine x_auto tok rfl rfl ?_ | (refine is_call ?_; fail) | (refine is_grd ?_; first | refine x_on rfl rfl ?_ | refine x_off rfl rfl rfl rfl ?_ | (refine x_gsplit rfl rfl (fun hc => ?_) (fun hc => ?_) <;> (try simp only [cmpB, decide_eq_true_eq, decide_eq_false_iff_not, beq_iff_eq, bne_iff_ne, ne_eq, Bool.not_eq_true, beq_eq_false_iff_ne, bne_eq_false_iff_eq, Int.not_lt, Int.not_le, Decidable.not_not] at hc))) | (refine is_bin ?_; first | refine x_q (stp_cmp_t rfl rfl rfl (by unfold cmpP; omega)) rfl ?_ | refine x_q (stp_cmp_f rfl rfl rfl (by unfold cmpP; omega)) rfl ?_ | refine x_q (stp_cmp rfl rfl rfl) rfl ?_ | refine x_q (stp_add rfl rfl ⟨by omega, by omega⟩) rfl ?_ | refine x_q (stp_sub rfl rfl ⟨by omega, by omega⟩) rfl ?_ | refine x_q (stp_mul rfl rfl ⟨by omega, by omega⟩) rfl ?_ | refine x_q (stp_quo rfl rfl (by assumption) (by omega)) rfl ?_ | refine x_q (stp_rem rfl rfl (by omega)) rfl ?_ | refine x_q (stp_xor rfl rfl) rfl ?_ | refine x_q (stp_shlI rfl rfl (by omega)) rfl ?_ | refine x_q (stp_shrI rfl rfl (by omega)) rfl ?_ | refine x_q (stp_shift (.inl ⟨rfl, rfl⟩) rfl rfl (by omega)) rfl ?_ | refine x_q (stp_shift (.inr ⟨rfl, rfl⟩) rfl rfl (by omega)) rfl ?_ | refine x_q (stp_bool2 tok rfl rfl rfl rfl (.inl ⟨rfl, rfl⟩)) rfl ?_ | refine x_q (stp_bool2 tok rfl rfl rfl rfl (.inr ⟨rfl, rfl⟩)) rfl ?_ | refine x_q (stp_eqlNil tok (.inl ⟨rfl, rfl⟩) rfl rfl rfl) rfl ?_ | refine x_q (stp_eqlNil_not tok (.inl ⟨rfl, rfl⟩) rfl rfl rfl rfl) rfl ?_ | refine x_q (stp_andI rfl rfl) rfl ?_ | refine x_q (stp_orI rfl rfl) rfl ?_ | refine x_q (stp_bicI rfl rfl) rfl ?_ | refine x_q (stp_strEqV rfl rfl (by assumption)) rfl ?_ | refine x_q (stp_strEq rfl rfl) rfl ?_ | refine x_q (stp_strNeV rfl rfl (by assumption)) rfl ?_ | refine x_q (stp_strNe rfl rfl) rfl ?_) | (refine is_idx ?_; first | refine x_q (stp_indexAddr_sl tok rfl rfl rfl rfl rfl (by omega) (by first | rfl | assumption) rfl rfl) rfl ?_ | refine x_q (stp_indexAddr_r0 tok rfl rfl rfl rfl rfl rfl (by omega) (by omega) rfl) rfl ?_ | refine x_q (stp_indexAddr_box tok rfl rfl rfl rfl rfl rfl (by omega) (by omega)) rfl ?_) | (refine is_load ?_; first | refine x_q (stp_load_fp1 tok rfl rfl rfl (by first | rfl | assumption) rfl) rfl ?_ | refine x_q (stp_load_fpa tok rfl rfl rfl (by first | rfl | assumption) rfl) rfl ?_ | refine x_q (stp_load_arr1 tok rfl rfl rfl rfl (by first | rfl | assumption) rfl) rfl ?_ | refine x_q (stp_load_arra tok rfl rfl rfl rfl (by first | rfl | assumption) rfl) rfl ?_) | (refine is_fad ?_; first | refine x_q (stp_fieldAddr_arr tok rfl rfl rfl rfl rfl rfl rfl rfl) rfl ?_ | refine x_q (stp_fieldAddr_fp tok rfl (by first | rfl | assumption) rfl rfl rfl rfl rfl rfl) rfl ?_) | (refine is_app ?_; first | refine x_appref0 tok rfl rfl rfl rfl rfl rfl rfl (by first | (intro y hy; cases hy; rfl) | exact map_hd _ _ (fun _ => rfl)) rfl rfl rfl (by first | omega | (simp; done) | (simp; omega)) rfl ?_ | refine x_appref tok rfl rfl rfl rfl rfl rfl rfl rfl rfl rfl rfl (by first | (intro y hy; cases hy; rfl) | exact map_hd _ _ (fun _ => rfl)) (by first | omega | (simp; done) | (simp; omega)) rfl ?_) | (refine is_un ?_; first | refine x_q (stp_neg rfl ⟨by omega, by omega⟩) rfl ?_) | (refine is_conv ?_; first | refine x_q (stp_conv_in tok rfl rfl rfl rfl ⟨by omega, by omega⟩) rfl ?_ | refine x_q (stp_conv tok rfl rfl rfl rfl) rfl ?_ | refine x_q (stp_convStr tok rfl rfl rfl rfl rfl rfl rfl (by first | rfl | assumption)) rfl ?_) | (refine is_slc ?_; first | refine x_slcL tok rfl rfl rfl rfl rfl (by first | (intro y hy; cases hy; rfl) | exact map_hd _ _ (fun _ => rfl) | (simp; done)) (by omega) (by simp; omega) (by first | exact List.map_drop.symm | rfl) rfl ?_ | refine x_slcH tok rfl rfl rfl rfl rfl (by first | (intro y hy; cases hy; rfl) | exact map_hd _ _ (fun _ => rfl) | (simp; done)) (by omega) (by simp; omega) (by first | exact List.map_take.symm | rfl) rfl ?_) | (refine is_sto ?_; refine x_wk 22 rfl rfl rfl ?_; refine x_stoa tok rfl rfl rfl (by first | rfl | assumption) rfl rfl rfl rfl rfl rfl ?_) | refine x_autow tok rfl rfl rfl rfl ?_ | (refine is_sto ?_; first | refine x_autos tok rfl rfl rfl ?_ | refine x_stoa tok rfl rfl rfl (by first | rfl | assumption) rfl rfl rfl rfl rfl rfl ?_ | refine x_sto1 tok rfl rfl rfl (by first | rfl | assumption) rfl rfl rfl rfl rfl rfl rfl rfl ?_) | refine x_nil ?_ | refine x_nilD (by kernel_rfl) ?_) | (first | refine sim_seq ?_ | refine x_region ?_ | refine x_draw rfl ?_ | refine sim_cond_true rfl ?_ | refine sim_cond_false rfl ?_ | (refine sim_cond rfl (fun hc => ?_) (fun hc => ?_) <;> (try simp only [cmpB, decide_eq_true_eq, decide_eq_false_iff_not, beq_iff_eq, bne_iff_ne, ne_eq, Bool.not_eq_true, beq_eq_false_iff_ne, bne_eq_false_iff_eq, Int.not_lt, Int.not_le, Decidable.not_not] at hc)) | refine sim_skip ?_ | refine sim_ret ?_ | refine sim_exit ?_ | refine sim_block ?_)))
      rfl
  · have e8 : (l.map tkA).length = 8 := by omega
    rw [e8]
    (refine WW ?_)
    exact fin_ret [] rfl rfl (congrArg (AV.sl false) (List.take_of_length_le (by simp [frB_len]; omega))) rfl
end Av
end Go.Proofs.YtjbldhhgooihfaaGreat
