/- Library: abstract values. -/
import Derived.Test.YtkliodbbcblobaaGreatRepr
import Derived.Test.YtkliodbbcblobaaGreatWg
import Derived.Test.YtkliodbbcblobaaGreatMk
import Derived.Test.YtkliodbbcblobaaGreatAvq
/- rank: what its functions compute. -/
namespace Go.Proofs.YtkliodbbcblobaaGreat
namespace Av
set_option linter.unusedSimpArgs false
set_option linter.unusedVariables false
set_option maxRecDepth 4000
def endF (es : List Int) (ph : Int) : Int := if ph < 0 ∨ (es.length : Int) ≤ ph then -1 else es.getD ph.toNat 0
def emF (k : Int) : Bool := k == 2 || k == 3
def staF (es : List Int) (ph si : Int) : Int := max si (endF es ph)
theorem ended_c (s : Sv) (c : Cl) : CallSim Tryz.prog 77 [svA s, clA c] [] (iA (endF s.en c.ph)) [] := by
  have hl : (s.en.map iA).length = s.en.length := by simp
  by_cases h1 : c.ph < 0
  · rw [show endF s.en c.ph = -1 by simp [endF, h1]]
    (refine callSim_of tok Tryz.func77 rfl (fun args w => Tryz.call77 args w) rfl rfl rfl (fun F hF => ?_))
    (refine WO ?_)
    exact fin_ret [] rfl rfl rfl rfl
  · by_cases h2 : (s.en.length : Int) ≤ c.ph
    · rw [show endF s.en c.ph = -1 by simp [endF, h2]]
      (refine callSim_of tok Tryz.func77 rfl (fun args w => Tryz.call77 args w) rfl rfl rfl (fun F hF => ?_))
      (refine WO ?_)
      exact fin_ret [] rfl rfl rfl rfl
    · rw [show endF s.en c.ph = s.en.getD c.ph.toNat 0 by unfold endF; rw [if_neg (by omega)]]
      have hy := map_atI iA s.en c.ph (by omega) (by omega)
      (refine callSim_of tok Tryz.func77 rfl (fun args w => Tryz.call77 args w) rfl rfl rfl (fun F hF => ?_))
      (refine WO ?_)
      exact fin_ret [] rfl rfl rfl rfl
theorem emergency_c (c : Cl) : CallSim Tryz.prog 54 [clA c] [] (bA (emF c.k)) [] := by
  unfold emF
  by_cases h : c.k = 2
  · rw [show (c.k == 2 || c.k == 3) = true by simp [h]]
    (refine callSim_of tok Tryz.func54 rfl (fun args w => Tryz.call54 args w) rfl rfl rfl (fun F hF => ?_))
    (refine WO ?_)
    exact fin_ret [] rfl rfl rfl rfl
  · rw [show (c.k == 2 || c.k == 3) = (c.k == 3) by simp [h]]
    (refine callSim_of tok Tryz.func54 rfl (fun args w => Tryz.call54 args w) rfl rfl rfl (fun F hF => ?_))
    (refine WO ?_)
    exact fin_ret [] rfl rfl rfl rfl
theorem start_c (s : Sv) (c : Cl) : CallSim Tryz.prog 79 [svA s, clA c] [] (iA (staF s.en c.ph c.si)) [] := by
  (refine callSim_of tok Tryz.func79 rfl (fun args w => Tryz.call79 args w) rfl rfl rfl (fun F hF => ?_))
  (repeat' (first | (refine is_ops ?_; first | refine x_auto tok rfl rfl ?_ | (refine is_call ?_; refine x_q (stp_call (ended_c ⟨_, _, _⟩ ⟨_, _, _, _, _⟩) rfl rfl rfl rfl rfl) rfl ?_) | (refine is_grd ?_; first | refine x_on rfl rfl ?_ | refine x_off rfl rfl rfl rfl ?_ | refine x_gsplit rfl rfl (fun hc => ?_) (fun hc => ?_)) | (refine is_bin ?_; first | refine x_q (stp_cmp_t rfl rfl rfl (by unfold cmpP; omega)) rfl ?_ | refine x_q (stp_cmp_f rfl rfl rfl (by unfold cmpP; omega)) rfl ?_ | refine x_q (stp_cmp rfl rfl rfl) rfl ?_ | refine x_q (stp_add rfl rfl ⟨by omega, by omega⟩) rfl ?_ | refine x_q (stp_sub rfl rfl ⟨by omega, by omega⟩) rfl ?_ | refine x_q (stp_mul rfl rfl ⟨by omega, by omega⟩) rfl ?_ | refine x_q (stp_quo rfl rfl (by assumption) (by omega)) rfl ?_ | refine x_q (stp_rem rfl rfl (by omega)) rfl ?_ | refine x_q (stp_xor rfl rfl) rfl ?_ | refine x_q (stp_shift (.inl ⟨rfl, rfl⟩) rfl rfl (by omega)) rfl ?_ | refine x_q (stp_shift (.inr ⟨rfl, rfl⟩) rfl rfl (by omega)) rfl ?_ | refine x_q (stp_bool2 tok rfl rfl rfl rfl (.inl ⟨rfl, rfl⟩)) rfl ?_ | refine x_q (stp_bool2 tok rfl rfl rfl rfl (.inr ⟨rfl, rfl⟩)) rfl ?_ | refine x_q (stp_eqlNil tok (.inl ⟨rfl, rfl⟩) rfl rfl rfl) rfl ?_ | refine x_q (stp_eqlNil_not tok (.inl ⟨rfl, rfl⟩) rfl rfl rfl rfl) rfl ?_) | (refine is_idx ?_; first | refine x_q (stp_indexAddr_sl tok rfl rfl rfl rfl rfl (by omega) (by first | rfl | assumption) rfl rfl) rfl ?_ | refine x_q (stp_indexAddr_r0 tok rfl rfl rfl rfl rfl rfl (by omega) (by omega) rfl) rfl ?_ | refine x_q (stp_indexAddr_box tok rfl rfl rfl rfl rfl rfl (by omega) (by omega)) rfl ?_) | (refine is_load ?_; first | refine x_q (stp_load_fp1 tok rfl rfl rfl (by first | rfl | assumption) rfl) rfl ?_ | refine x_q (stp_load_fpa tok rfl rfl rfl (by first | rfl | assumption) rfl) rfl ?_ | refine x_q (stp_load_arr1 tok rfl rfl rfl rfl (by first | rfl | assumption) rfl) rfl ?_ | refine x_q (stp_load_arra tok rfl rfl rfl rfl (by first | rfl | assumption) rfl) rfl ?_) | (refine is_fad ?_; first | refine x_q (stp_fieldAddr_arr tok rfl rfl rfl rfl rfl rfl rfl rfl) rfl ?_ | refine x_q (stp_fieldAddr_fp tok rfl (by first | rfl | assumption) rfl rfl rfl rfl rfl rfl) rfl ?_) | (refine is_app ?_; first | refine x_appref tok rfl rfl rfl rfl rfl rfl rfl rfl rfl rfl rfl (by first | (intro y hy; cases hy; rfl) | exact map_hd _ _ (fun _ => rfl)) (by first | omega | (simp; done) | (simp; omega)) rfl ?_) | (refine is_un ?_; first | refine x_q (stp_neg rfl ⟨by omega, by omega⟩) rfl ?_) | (refine is_conv ?_; first | refine x_q (stp_conv_in tok rfl rfl rfl rfl ⟨by omega, by omega⟩) rfl ?_ | refine x_q (stp_conv tok rfl rfl rfl rfl) rfl ?_) | refine x_autow tok rfl rfl rfl rfl ?_ | (refine is_sto ?_; first | refine x_autos tok rfl rfl rfl ?_) | refine x_nil ?_ | refine x_nilD (by kernel_rfl) ?_) | (first | refine sim_seq ?_ | refine x_region ?_ | refine x_draw rfl ?_ | refine sim_cond_true rfl ?_ | refine sim_cond_false rfl ?_ | refine sim_cond rfl (fun hc => ?_) (fun hc => ?_) | refine sim_skip ?_ | refine sim_ret ?_ | refine sim_exit ?_ | refine sim_block ?_)))
  exact fin_ret [] rfl rfl rfl rfl
end Av
end Go.Proofs.YtkliodbbcblobaaGreat
/- rank: Level, Locked, Less. -/
namespace Go.Proofs.YtkliodbbcblobaaGreat
namespace Av
set_option linter.unusedSimpArgs false
set_option linter.unusedVariables false
set_option maxRecDepth 4000
theorem tdiv_exact (n d : Int) (hd : 1 ≤ d) (hm : n.tmod d = 0) : n.tdiv d = n / d := by
  have h1 := Int.tmod_add_mul_tdiv n d
  rw [hm] at h1
  have h2 : n = d * n.tdiv d := by omega
  exact (Int.ediv_eq_of_eq_mul_right (by omega) h2).symm
theorem tdiv_inexact (n d : Int) (hn : n < 0) (hd : 1 ≤ d) (hm : n.tmod d ≠ 0) : n.tdiv d - 1 = n / d := by
  have h1 := Int.tmod_add_mul_tdiv n d
  have h0 : n.tmod d = -((-n).tmod d) := by rw [Int.neg_tmod]; omega
  have h3 : -d < n.tmod d := by
    have := Int.tmod_lt_of_pos (-n) (show 0 < d by omega)
    omega
  have h4 : n.tmod d ≤ 0 := by
    have := Int.tmod_nonneg d (show 0 ≤ -n by omega)
    omega
  clear h0
  have h5 : n = d * (n.tdiv d - 1) + (n.tmod d + d) := by rw [Int.mul_sub]; omega
  generalize n.tdiv d = q at *
  generalize n.tmod d = r at *
  have h6 : n / d = q - 1 := by
    rw [h5, Int.mul_add_ediv_left _ _ (by omega), Int.ediv_eq_zero_of_lt (by omega) (by omega)]
    omega
  omega
theorem tdiv_bd (n d : Int) (hd : 1 ≤ d) (h1 : -4611686018427387904 ≤ n) (h2 : n ≤ 4611686018427387904) : -4611686018427387904 ≤ n.tdiv d ∧ n.tdiv d ≤ 4611686018427387904 := by
  by_cases h : 0 ≤ n
  · have := IntWalk.tdiv_le n d h hd
    rw [Int.tdiv_eq_ediv_of_nonneg h]; omega
  · have h3 : n.tdiv d = -((-n).tdiv d) := by rw [Int.neg_tdiv]; omega
    have := IntWalk.tdiv_le (-n) d (by omega) hd
    rw [h3, Int.tdiv_eq_ediv_of_nonneg (by omega)]; omega
theorem quotient_c (n d : Int) (hd : 1 ≤ d) (h1 : -4611686018427387904 ≤ n) (h2 : n ≤ 4611686018427387904) : CallSim Tryz.prog 99 [iA n, iA d] [] (iA (n / d)) [] := by
  have hb := tdiv_bd n d hd h1 h2
  have hq : InR .i64 (n.tdiv d) := ⟨by omega, by omega⟩
  by_cases hm : n.tmod d = 0
  · rw [← tdiv_exact n d hd hm]
    (refine callSim_of tok Tryz.func99 rfl (fun args w => Tryz.call99 args w) rfl rfl rfl (fun F hF => ?_))
    (refine WO ?_)
    exact fin_ret [] rfl rfl rfl rfl
  · by_cases h0 : n < 0
    · rw [← tdiv_inexact n d h0 hd hm]
      (refine callSim_of tok Tryz.func99 rfl (fun args w => Tryz.call99 args w) rfl rfl rfl (fun F hF => ?_))
      (refine WO ?_)
      exact fin_ret [] rfl rfl rfl rfl
    · rw [← Int.tdiv_eq_ediv_of_nonneg (show 0 ≤ n by omega)]
      (refine callSim_of tok Tryz.func99 rfl (fun args w => Tryz.call99 args w) rfl rfl rfl (fun F hF => ?_))
      (refine WO ?_)
      exact fin_ret [] rfl rfl rfl rfl
def levF (per cap : Int) (es : List Int) (now ph k si : Int) : Int := min cap (k + (now - staF es ph si) / per)
/-- The numbers of a claim keep their bounds. -/
structure COk (per now : Int) (es : List Int) (c : Cl) : Prop where
  p : 1 ≤ per
  k0 : -1000 ≤ c.k
  k1 : c.k ≤ 1000
  n0 : -1099511627776 ≤ now
  n1 : now ≤ 1099511627776
  s0 : -1099511627776 ≤ staF es c.ph c.si
  s1 : staF es c.ph c.si ≤ 1099511627776
  e0 : -1099511627776 ≤ endF es c.ph
  e1 : endF es c.ph ≤ 1099511627776
theorem div_bd (n d : Int) (hd : 1 ≤ d) (h1 : -4611686018427387904 ≤ n) (h2 : n ≤ 4611686018427387904) : -4611686018427387904 ≤ n / d ∧ n / d ≤ 4611686018427387904 := by
  constructor
  · refine (Int.le_ediv_iff_mul_le (by omega)).2 ?_
    have : (4611686018427387904 : Int) * 1 ≤ 4611686018427387904 * d := Int.mul_le_mul_of_nonneg_left hd (by omega)
    omega
  · have : n / d ≤ 4611686018427387904 / 1 := by
      rw [Int.ediv_one]
      refine Int.le_of_lt_add_one ((Int.ediv_lt_iff_lt_mul (by omega)).2 ?_)
      have : (4611686018427387904 + 1 : Int) * 1 ≤ (4611686018427387904 + 1) * d := Int.mul_le_mul_of_nonneg_left hd (by omega)
      omega
    omega
theorem level_c (g : Cf) (s : Sv) (c : Cl) (now : Int) (ok : COk g.per now s.en c) : CallSim Tryz.prog 78 [cfA g, svA s, clA c, iA now] [] (iA (levF g.per g.cap s.en now c.ph c.k c.si)) [] := by
  obtain ⟨p, k0, k1, n0, n1, s0, s1, _, _⟩ := ok
  have hq := div_bd (now - staF s.en c.ph c.si) g.per p (by omega) (by omega)
  (refine callSim_of tok Tryz.func78 rfl (fun args w => Tryz.call78 args w) rfl rfl rfl (fun F hF => ?_))
  (repeat' (first | (refine is_ops ?_; first | refine x_auto tok rfl rfl ?_ | (refine is_call ?_; (first | (refine is_fn 79 ?_; first | refine x_q (stp_call (start_c s c) rfl rfl rfl rfl rfl) rfl ?_ | refine x_w (stp_call (start_c s c) rfl rfl rfl rfl rfl) rfl rfl rfl ?_ | refine x_d (stp_call (start_c s c) rfl rfl rfl rfl rfl) rfl rfl rfl ?_) | (refine is_fn 99 ?_; first | refine x_q (stp_call (quotient_c _ _ (by omega) (by omega) (by omega)) rfl rfl rfl rfl rfl) rfl ?_ | refine x_w (stp_call (quotient_c _ _ (by omega) (by omega) (by omega)) rfl rfl rfl rfl rfl) rfl rfl rfl ?_ | refine x_d (stp_call (quotient_c _ _ (by omega) (by omega) (by omega)) rfl rfl rfl rfl rfl) rfl rfl rfl ?_))) | (refine is_grd ?_; first | refine x_on rfl rfl ?_ | refine x_off rfl rfl rfl rfl ?_ | refine x_gsplit rfl rfl (fun hc => ?_) (fun hc => ?_)) | (refine is_bin ?_; first | refine x_q (stp_cmp_t rfl rfl rfl (by unfold cmpP; omega)) rfl ?_ | refine x_q (stp_cmp_f rfl rfl rfl (by unfold cmpP; omega)) rfl ?_ | refine x_q (stp_cmp rfl rfl rfl) rfl ?_ | refine x_q (stp_add rfl rfl ⟨by omega, by omega⟩) rfl ?_ | refine x_q (stp_sub rfl rfl ⟨by omega, by omega⟩) rfl ?_ | refine x_q (stp_mul rfl rfl ⟨by omega, by omega⟩) rfl ?_ | refine x_q (stp_quo rfl rfl (by assumption) (by omega)) rfl ?_ | refine x_q (stp_rem rfl rfl (by omega)) rfl ?_ | refine x_q (stp_xor rfl rfl) rfl ?_ | refine x_q (stp_shift (.inl ⟨rfl, rfl⟩) rfl rfl (by omega)) rfl ?_ | refine x_q (stp_shift (.inr ⟨rfl, rfl⟩) rfl rfl (by omega)) rfl ?_ | refine x_q (stp_bool2 tok rfl rfl rfl rfl (.inl ⟨rfl, rfl⟩)) rfl ?_ | refine x_q (stp_bool2 tok rfl rfl rfl rfl (.inr ⟨rfl, rfl⟩)) rfl ?_ | refine x_q (stp_eqlNil tok (.inl ⟨rfl, rfl⟩) rfl rfl rfl) rfl ?_ | refine x_q (stp_eqlNil_not tok (.inl ⟨rfl, rfl⟩) rfl rfl rfl rfl) rfl ?_) | (refine is_idx ?_; first | refine x_q (stp_indexAddr_sl tok rfl rfl rfl rfl rfl (by omega) (by first | rfl | assumption) rfl rfl) rfl ?_ | refine x_q (stp_indexAddr_r0 tok rfl rfl rfl rfl rfl rfl (by omega) (by omega) rfl) rfl ?_ | refine x_q (stp_indexAddr_box tok rfl rfl rfl rfl rfl rfl (by omega) (by omega)) rfl ?_) | (refine is_load ?_; first | refine x_q (stp_load_fp1 tok rfl rfl rfl (by first | rfl | assumption) rfl) rfl ?_ | refine x_q (stp_load_fpa tok rfl rfl rfl (by first | rfl | assumption) rfl) rfl ?_ | refine x_q (stp_load_arr1 tok rfl rfl rfl rfl (by first | rfl | assumption) rfl) rfl ?_ | refine x_q (stp_load_arra tok rfl rfl rfl rfl (by first | rfl | assumption) rfl) rfl ?_) | (refine is_fad ?_; first | refine x_q (stp_fieldAddr_arr tok rfl rfl rfl rfl rfl rfl rfl rfl) rfl ?_ | refine x_q (stp_fieldAddr_fp tok rfl (by first | rfl | assumption) rfl rfl rfl rfl rfl rfl) rfl ?_) | (refine is_app ?_; first | refine x_appref tok rfl rfl rfl rfl rfl rfl rfl rfl rfl rfl rfl (by first | (intro y hy; cases hy; rfl) | exact map_hd _ _ (fun _ => rfl)) (by first | omega | (simp; done) | (simp; omega)) rfl ?_) | (refine is_un ?_; first | refine x_q (stp_neg rfl ⟨by omega, by omega⟩) rfl ?_) | (refine is_conv ?_; first | refine x_q (stp_conv_in tok rfl rfl rfl rfl ⟨by omega, by omega⟩) rfl ?_ | refine x_q (stp_conv tok rfl rfl rfl rfl) rfl ?_) | refine x_autow tok rfl rfl rfl rfl ?_ | (refine is_sto ?_; first | refine x_autos tok rfl rfl rfl ?_) | refine x_nil ?_ | refine x_nilD (by kernel_rfl) ?_) | (first | refine sim_seq ?_ | refine x_region ?_ | refine x_draw rfl ?_ | refine sim_cond_true rfl ?_ | refine sim_cond_false rfl ?_ | refine sim_cond rfl (fun hc => ?_) (fun hc => ?_) | refine sim_skip ?_ | refine sim_ret ?_ | refine sim_exit ?_ | refine sim_block ?_)))
  exact fin_ret [] rfl rfl rfl rfl
def lckF (lock : Int) (es : List Int) (now ph k : Int) : Bool := !emF k && (endF es ph != -1 && decide (now - endF es ph ≤ lock))
theorem locked_c (g : Cf) (s : Sv) (c : Cl) (now : Int) (ok : COk g.per now s.en c) : CallSim Tryz.prog 56 [cfA g, svA s, clA c, iA now] [] (bA (lckF g.lock s.en now c.ph c.k)) [] := by
  obtain ⟨p, k0, k1, n0, n1, s0, s1, e0, e1⟩ := ok
  unfold lckF
  (refine callSim_of tok Tryz.func56 rfl (fun args w => Tryz.call56 args w) rfl rfl rfl (fun F hF => ?_))
  (repeat' (first | (refine is_ops ?_; first | refine x_auto tok rfl rfl ?_ | (refine is_call ?_; (first | (refine is_fn 77 ?_; first | refine x_q (stp_call (ended_c _ _) rfl rfl rfl rfl rfl) rfl ?_ | refine x_w (stp_call (ended_c _ _) rfl rfl rfl rfl rfl) rfl rfl rfl ?_ | refine x_d (stp_call (ended_c _ _) rfl rfl rfl rfl rfl) rfl rfl rfl ?_) | (refine is_fn 54 ?_; first | refine x_q (stp_call (emergency_c _) rfl rfl rfl rfl rfl) rfl ?_ | refine x_w (stp_call (emergency_c _) rfl rfl rfl rfl rfl) rfl rfl rfl ?_ | refine x_d (stp_call (emergency_c _) rfl rfl rfl rfl rfl) rfl rfl rfl ?_))) | (refine is_grd ?_; first | refine x_on rfl rfl ?_ | refine x_off rfl rfl rfl rfl ?_ | refine x_gsplit rfl rfl (fun hc => ?_) (fun hc => ?_)) | (refine is_bin ?_; first | refine x_q (stp_cmp_t rfl rfl rfl (by unfold cmpP; omega)) rfl ?_ | refine x_q (stp_cmp_f rfl rfl rfl (by unfold cmpP; omega)) rfl ?_ | refine x_q (stp_cmp rfl rfl rfl) rfl ?_ | refine x_q (stp_add rfl rfl ⟨by omega, by omega⟩) rfl ?_ | refine x_q (stp_sub rfl rfl ⟨by omega, by omega⟩) rfl ?_ | refine x_q (stp_mul rfl rfl ⟨by omega, by omega⟩) rfl ?_ | refine x_q (stp_quo rfl rfl (by assumption) (by omega)) rfl ?_ | refine x_q (stp_rem rfl rfl (by omega)) rfl ?_ | refine x_q (stp_xor rfl rfl) rfl ?_ | refine x_q (stp_shift (.inl ⟨rfl, rfl⟩) rfl rfl (by omega)) rfl ?_ | refine x_q (stp_shift (.inr ⟨rfl, rfl⟩) rfl rfl (by omega)) rfl ?_ | refine x_q (stp_bool2 tok rfl rfl rfl rfl (.inl ⟨rfl, rfl⟩)) rfl ?_ | refine x_q (stp_bool2 tok rfl rfl rfl rfl (.inr ⟨rfl, rfl⟩)) rfl ?_ | refine x_q (stp_eqlNil tok (.inl ⟨rfl, rfl⟩) rfl rfl rfl) rfl ?_ | refine x_q (stp_eqlNil_not tok (.inl ⟨rfl, rfl⟩) rfl rfl rfl rfl) rfl ?_) | (refine is_idx ?_; first | refine x_q (stp_indexAddr_sl tok rfl rfl rfl rfl rfl (by omega) (by first | rfl | assumption) rfl rfl) rfl ?_ | refine x_q (stp_indexAddr_r0 tok rfl rfl rfl rfl rfl rfl (by omega) (by omega) rfl) rfl ?_ | refine x_q (stp_indexAddr_box tok rfl rfl rfl rfl rfl rfl (by omega) (by omega)) rfl ?_) | (refine is_load ?_; first | refine x_q (stp_load_fp1 tok rfl rfl rfl (by first | rfl | assumption) rfl) rfl ?_ | refine x_q (stp_load_fpa tok rfl rfl rfl (by first | rfl | assumption) rfl) rfl ?_ | refine x_q (stp_load_arr1 tok rfl rfl rfl rfl (by first | rfl | assumption) rfl) rfl ?_ | refine x_q (stp_load_arra tok rfl rfl rfl rfl (by first | rfl | assumption) rfl) rfl ?_) | (refine is_fad ?_; first | refine x_q (stp_fieldAddr_arr tok rfl rfl rfl rfl rfl rfl rfl rfl) rfl ?_ | refine x_q (stp_fieldAddr_fp tok rfl (by first | rfl | assumption) rfl rfl rfl rfl rfl rfl) rfl ?_) | (refine is_app ?_; first | refine x_appref tok rfl rfl rfl rfl rfl rfl rfl rfl rfl rfl rfl (by first | (intro y hy; cases hy; rfl) | exact map_hd _ _ (fun _ => rfl)) (by first | omega | (simp; done) | (simp; omega)) rfl ?_) | (refine is_un ?_; first | refine x_q (stp_neg rfl ⟨by omega, by omega⟩) rfl ?_) | (refine is_conv ?_; first | refine x_q (stp_conv_in tok rfl rfl rfl rfl ⟨by omega, by omega⟩) rfl ?_ | refine x_q (stp_conv tok rfl rfl rfl rfl) rfl ?_) | refine x_autow tok rfl rfl rfl rfl ?_ | (refine is_sto ?_; first | refine x_autos tok rfl rfl rfl ?_) | refine x_nil ?_ | refine x_nilD (by kernel_rfl) ?_) | (first | refine sim_seq ?_ | refine x_region ?_ | refine x_draw rfl ?_ | refine sim_cond_true rfl ?_ | refine sim_cond_false rfl ?_ | refine sim_cond rfl (fun hc => ?_) (fun hc => ?_) | refine sim_skip ?_ | refine sim_ret ?_ | refine sim_exit ?_ | refine sim_block ?_)))
  all_goals refine fin_ret [] rfl rfl (congrArg bA ?_) rfl
  all_goals simp_all [cmpB]
end Av
end Go.Proofs.YtkliodbbcblobaaGreat
/- rank: Less. -/
namespace Go.Proofs.YtkliodbbcblobaaGreat
namespace Av
set_option linter.unusedSimpArgs false
set_option linter.unusedVariables false
set_option maxRecDepth 4000
set_option maxHeartbeats 1000000
def amtF (per cap : Int) (es : List Int) (now : Int) (x : Cl) : Int := if emF x.k then x.k else levF per cap es now x.ph x.k x.si
def lessF (per cap : Int) (es : List Int) (now : Int) (x y : Cl) : Bool :=
  if emF x.k ≠ emF y.k then emF x.k
  else if amtF per cap es now x ≠ amtF per cap es now y then decide (amtF per cap es now y < amtF per cap es now x)
  else if staF es x.ph x.si ≠ staF es y.ph y.si then decide (staF es x.ph x.si < staF es y.ph y.si)
  else if x.ag ≠ y.ag then decide (x.ag < y.ag) else decide (x.id < y.id)
theorem less_c (g : Cf) (s : Sv) (x y : Cl) (now : Int) (okx : COk g.per now s.en x) (oky : COk g.per now s.en y) : CallSim Tryz.prog 57 [cfA g, svA s, iA now, clA x, clA y] [] (bA (lessF g.per g.cap s.en now x y)) [] := by
  have ex := emergency_c x
  have ey := emergency_c y
  have lx := level_c g s x now okx
  have ly := level_c g s y now oky
  have sx := start_c s x
  have sy := start_c s y
  cases hx : emF x.k <;> cases hy : emF y.k <;> rw [hx] at ex <;> rw [hy] at ey
  · by_cases h1 : levF g.per g.cap s.en now x.ph x.k x.si = levF g.per g.cap s.en now y.ph y.k y.si
    · by_cases h2 : staF s.en x.ph x.si = staF s.en y.ph y.si
      · by_cases h3 : x.ag = y.ag
        · (refine callSim_of tok Tryz.func57 rfl (fun args w => Tryz.call57 args w) rfl rfl rfl (fun F hF => ?_))
          (have zc1 := ex; have zc2 := ey; have zc3 := lx; have zc4 := ly; have zc5 := sx; have zc6 := sy; refine WG ?_; clear zc1 zc2 zc3 zc4 zc5 zc6)
          refine fin_ret [] rfl rfl (congrArg bA ?_) rfl
          simp [lessF, amtF, hx, hy, h1, h2, h3, cmpB]
        · (refine callSim_of tok Tryz.func57 rfl (fun args w => Tryz.call57 args w) rfl rfl rfl (fun F hF => ?_))
          (have zc1 := ex; have zc2 := ey; have zc3 := lx; have zc4 := ly; have zc5 := sx; have zc6 := sy; refine WG ?_; clear zc1 zc2 zc3 zc4 zc5 zc6)
          refine fin_ret [] rfl rfl (congrArg bA ?_) rfl
          simp [lessF, amtF, hx, hy, h1, h2, h3, cmpB]
      · (refine callSim_of tok Tryz.func57 rfl (fun args w => Tryz.call57 args w) rfl rfl rfl (fun F hF => ?_))
        (have zc1 := ex; have zc2 := ey; have zc3 := lx; have zc4 := ly; have zc5 := sx; have zc6 := sy; refine WG ?_; clear zc1 zc2 zc3 zc4 zc5 zc6)
        refine fin_ret [] rfl rfl (congrArg bA ?_) rfl
        simp [lessF, amtF, hx, hy, h1, h2, cmpB]
    · (refine callSim_of tok Tryz.func57 rfl (fun args w => Tryz.call57 args w) rfl rfl rfl (fun F hF => ?_))
      (have zc1 := ex; have zc2 := ey; have zc3 := lx; have zc4 := ly; have zc5 := sx; have zc6 := sy; refine WG ?_; clear zc1 zc2 zc3 zc4 zc5 zc6)
      refine fin_ret [] rfl rfl (congrArg bA ?_) rfl
      simp [lessF, amtF, hx, hy, h1, cmpB]
  · (refine callSim_of tok Tryz.func57 rfl (fun args w => Tryz.call57 args w) rfl rfl rfl (fun F hF => ?_))
    (have zc1 := ex; have zc2 := ey; have zc3 := lx; have zc4 := ly; have zc5 := sx; have zc6 := sy; refine WG ?_; clear zc1 zc2 zc3 zc4 zc5 zc6)
    refine fin_ret [] rfl rfl (congrArg bA ?_) rfl
    simp [lessF, hx, hy]
  · (refine callSim_of tok Tryz.func57 rfl (fun args w => Tryz.call57 args w) rfl rfl rfl (fun F hF => ?_))
    (have zc1 := ex; have zc2 := ey; have zc3 := lx; have zc4 := ly; have zc5 := sx; have zc6 := sy; refine WG ?_; clear zc1 zc2 zc3 zc4 zc5 zc6)
    refine fin_ret [] rfl rfl (congrArg bA ?_) rfl
    simp [lessF, hx, hy]
  · by_cases h1 : x.k = y.k
    · by_cases h2 : staF s.en x.ph x.si = staF s.en y.ph y.si
      · by_cases h3 : x.ag = y.ag
        · (refine callSim_of tok Tryz.func57 rfl (fun args w => Tryz.call57 args w) rfl rfl rfl (fun F hF => ?_))
          (have zc1 := ex; have zc2 := ey; have zc3 := lx; have zc4 := ly; have zc5 := sx; have zc6 := sy; refine WG ?_; clear zc1 zc2 zc3 zc4 zc5 zc6)
          refine fin_ret [] rfl rfl (congrArg bA ?_) rfl
          simp [lessF, amtF, hx, hy, h1, h2, h3, cmpB]
        · (refine callSim_of tok Tryz.func57 rfl (fun args w => Tryz.call57 args w) rfl rfl rfl (fun F hF => ?_))
          (have zc1 := ex; have zc2 := ey; have zc3 := lx; have zc4 := ly; have zc5 := sx; have zc6 := sy; refine WG ?_; clear zc1 zc2 zc3 zc4 zc5 zc6)
          refine fin_ret [] rfl rfl (congrArg bA ?_) rfl
          simp [lessF, amtF, hx, hy, h1, h2, h3, cmpB]
      · (refine callSim_of tok Tryz.func57 rfl (fun args w => Tryz.call57 args w) rfl rfl rfl (fun F hF => ?_))
        (have zc1 := ex; have zc2 := ey; have zc3 := lx; have zc4 := ly; have zc5 := sx; have zc6 := sy; refine WG ?_; clear zc1 zc2 zc3 zc4 zc5 zc6)
        refine fin_ret [] rfl rfl (congrArg bA ?_) rfl
        simp [lessF, amtF, hx, hy, h1, h2, cmpB]
    · (refine callSim_of tok Tryz.func57 rfl (fun args w => Tryz.call57 args w) rfl rfl rfl (fun F hF => ?_))
      (have zc1 := ex; have zc2 := ey; have zc3 := lx; have zc4 := ly; have zc5 := sx; have zc6 := sy; refine WG ?_; clear zc1 zc2 zc3 zc4 zc5 zc6)
      refine fin_ret [] rfl rfl (congrArg bA ?_) rfl
      simp [lessF, amtF, hx, hy, h1, cmpB]
end Av
end Go.Proofs.YtkliodbbcblobaaGreat
/- rank: Best. -/
namespace Go.Proofs.YtkliodbbcblobaaGreat
namespace Av
set_option linter.unusedSimpArgs false
set_option linter.unusedVariables false
set_option maxRecDepth 4000
set_option maxHeartbeats 1000000
def bestN (g : Cf) (s : Sv) (now : Int) (xs : List Cl) : Nat → Int
  | 0 => -1
  | i + 1 => if lckF g.lock s.en now (xs.getD i default).ph (xs.getD i default).k then bestN g s now xs i
    else if bestN g s now xs i < 0 then i
    else if lessF g.per g.cap s.en now (xs.getD i default) (xs.getD (bestN g s now xs i).toNat default) then i else bestN g s now xs i
theorem bestN_bd (g : Cf) (s : Sv) (now : Int) (xs : List Cl) : ∀ i, -1 ≤ bestN g s now xs i ∧ bestN g s now xs i < i ∨ bestN g s now xs i = -1
  | 0 => .inr rfl
  | i + 1 => by
    have := bestN_bd g s now xs i
    unfold bestN
    split
    · omega
    · split
      · omega
      · split <;> omega
theorem bestN_succ (g : Cf) (s : Sv) (now : Int) (xs : List Cl) (i : Nat) : bestN g s now xs (i + 1) = if lckF g.lock s.en now (xs.getD i default).ph (xs.getD i default).k = true then bestN g s now xs i
    else if bestN g s now xs i < 0 then (i : Int)
    else if lessF g.per g.cap s.en now (xs.getD i default) (xs.getD (bestN g s now xs i).toNat default) = true then (i : Int) else bestN g s now xs i := rfl
theorem best_c (g : Cf) (s : Sv) (now : Int) (xs : List Cl) (hlen : xs.length ≤ 1099511627776) (ok : ∀ i, i < xs.length → COk g.per now s.en (xs.getD i default)) : CallSim Tryz.prog 39 [cfA g, svA s, iA now, slA clA xs] [] (iA (bestN g s now xs xs.length)) [] := by
  have hl : (xs.map clA).length = xs.length := by simp
  (refine callSim_of tok Tryz.func39 rfl (fun args w => Tryz.call39 args w) rfl rfl rfl (fun F hF => ?_))
  (refine WO ?_)
  refine sim_loop_r (fun n st => ∃ i : Nat, n + i = xs.length ∧ st = ⟨[(2, iA now), (3, slA clA xs), (4, .ptr 4 0 0), (5, .ptr 5 0 0), (9, iA (bestN g s now xs i)), (12, slA clA xs), (13, iA xs.length), (14, iA i)], [(4, .box [slA jnA g.js, slA agA g.ags, iA g.per, iA g.cap, iA g.hold, iA g.lock]), (5, .box [iA s.ph, iA s.gr, slA iA s.en])]⟩)
    xs.length [4, 5] [2, 3, 4, 5, 9, 12, 13, 14] rfl ⟨0, rfl, by rw [← hl]; rfl⟩ ?_
  rintro n st ⟨i, hi, rfl⟩
  by_cases hlt : i < xs.length
  · have hy := map_atI clA xs i (by omega) (by omega)
    have ok1 := ok i hlt
    have hb := bestN_bd g s now xs i
    have hn := bestN_succ g s now xs i
    have lk := locked_c g s (xs.getD i default) now ok1
    rw [show ((i : Int)).toNat = i from rfl] at hy
    cases hL : lckF g.lock s.en now (xs.getD i default).ph (xs.getD i default).k <;> rw [hL] at lk hn
    · rw [if_neg (by simp)] at hn
      by_cases h0 : bestN g s now xs i < 0
      · rw [if_pos h0] at hn
        (have zc1 := lk; refine WG ?_; clear zc1)
        exact ⟨n - 1, by omega, i + 1, by omega, by rw [hn]; rfl⟩
      · rw [if_neg h0] at hn
        have hy2 := map_atI clA xs (bestN g s now xs i) (by omega) (by omega)
        have ls := less_c g s (xs.getD i default) (xs.getD (bestN g s now xs i).toNat default) now ok1 (ok _ (by omega))
        cases hS : lessF g.per g.cap s.en now (xs.getD i default) (xs.getD (bestN g s now xs i).toNat default) <;> rw [hS] at ls hn
        · rw [if_neg (by simp)] at hn
          (have zc1 := lk; have zc2 := ls; refine WG ?_; clear zc1 zc2)
          exact ⟨n - 1, by omega, i + 1, by omega, by rw [hn]; rfl⟩
        · rw [if_pos rfl] at hn
          (have zc1 := lk; have zc2 := ls; refine WG ?_; clear zc1 zc2)
          exact ⟨n - 1, by omega, i + 1, by omega, by rw [hn]; rfl⟩
    · rw [if_pos rfl] at hn
      (have zc1 := lk; refine WG ?_; clear zc1)
      exact ⟨n - 1, by omega, i + 1, by omega, by rw [hn]; rfl⟩
  · obtain rfl : i = xs.length := by omega
    (refine WO ?_)
    exact fin_ret [] rfl rfl rfl rfl
end Av
end Go.Proofs.YtkliodbbcblobaaGreat
/- ref20: what its functions compute. -/
namespace Go.Proofs.YtkliodbbcblobaaGreat
namespace Av
set_option linter.unusedSimpArgs false
set_option linter.unusedVariables false
set_option maxRecDepth 4000
set_option maxHeartbeats 1000000
theorem ended2_c (s : Sv) (p : Int) : CallSim Tryz.prog 96 [svA s, iA p] [] (iA (endF s.en p)) [] := by
  have hl : (s.en.map iA).length = s.en.length := by simp
  by_cases h1 : p < 0
  · rw [show endF s.en p = -1 by simp [endF, h1]]
    (refine callSim_of tok Tryz.func96 rfl (fun args w => Tryz.call96 args w) rfl rfl rfl (fun F hF => ?_))
    (refine WO ?_)
    exact fin_ret [] rfl rfl rfl rfl
  · by_cases h2 : (s.en.length : Int) ≤ p
    · rw [show endF s.en p = -1 by simp [endF, h2]]
      (refine callSim_of tok Tryz.func96 rfl (fun args w => Tryz.call96 args w) rfl rfl rfl (fun F hF => ?_))
      (refine WO ?_)
      exact fin_ret [] rfl rfl rfl rfl
    · rw [show endF s.en p = s.en.getD p.toNat 0 by unfold endF; rw [if_neg (by omega)]]
      have hy := map_atI iA s.en p (by omega) (by omega)
      (refine callSim_of tok Tryz.func96 rfl (fun args w => Tryz.call96 args w) rfl rfl rfl (fun F hF => ?_))
      (refine WO ?_)
      exact fin_ret [] rfl rfl rfl rfl
theorem emergency2_c (c : Cl) : CallSim Tryz.prog 46 [clA c] [] (bA (emF c.k)) [] := by
  unfold emF
  by_cases h : c.k = 2
  · rw [show (c.k == 2 || c.k == 3) = true by simp [h]]
    (refine callSim_of tok Tryz.func46 rfl (fun args w => Tryz.call46 args w) rfl rfl rfl (fun F hF => ?_))
    (refine WO ?_)
    exact fin_ret [] rfl rfl rfl rfl
  · rw [show (c.k == 2 || c.k == 3) = (c.k == 3) by simp [h]]
    (refine callSim_of tok Tryz.func46 rfl (fun args w => Tryz.call46 args w) rfl rfl rfl (fun F hF => ?_))
    (refine WO ?_)
    exact fin_ret [] rfl rfl rfl rfl
theorem start2_c (s : Sv) (c : Cl) : CallSim Tryz.prog 106 [svA s, clA c] [] (iA (staF s.en c.ph c.si)) [] := by
  (refine callSim_of tok Tryz.func106 rfl (fun args w => Tryz.call106 args w) rfl rfl rfl (fun F hF => ?_))
  (repeat' (first | (refine is_ops ?_; first | refine x_auto tok rfl rfl ?_ | (refine is_call ?_; (refine is_fn 96 ?_; first | refine x_q (stp_call (ended2_c s _) rfl rfl rfl rfl rfl) rfl ?_ | refine x_w (stp_call (ended2_c s _) rfl rfl rfl rfl rfl) rfl rfl rfl ?_ | refine x_d (stp_call (ended2_c s _) rfl rfl rfl rfl rfl) rfl rfl rfl ?_)) | (refine is_grd ?_; first | refine x_on rfl rfl ?_ | refine x_off rfl rfl rfl rfl ?_ | refine x_gsplit rfl rfl (fun hc => ?_) (fun hc => ?_)) | (refine is_bin ?_; first | refine x_q (stp_cmp_t rfl rfl rfl (by unfold cmpP; omega)) rfl ?_ | refine x_q (stp_cmp_f rfl rfl rfl (by unfold cmpP; omega)) rfl ?_ | refine x_q (stp_cmp rfl rfl rfl) rfl ?_ | refine x_q (stp_add rfl rfl ⟨by omega, by omega⟩) rfl ?_ | refine x_q (stp_sub rfl rfl ⟨by omega, by omega⟩) rfl ?_ | refine x_q (stp_mul rfl rfl ⟨by omega, by omega⟩) rfl ?_ | refine x_q (stp_quo rfl rfl (by assumption) (by omega)) rfl ?_ | refine x_q (stp_rem rfl rfl (by omega)) rfl ?_ | refine x_q (stp_xor rfl rfl) rfl ?_ | refine x_q (stp_shift (.inl ⟨rfl, rfl⟩) rfl rfl (by omega)) rfl ?_ | refine x_q (stp_shift (.inr ⟨rfl, rfl⟩) rfl rfl (by omega)) rfl ?_ | refine x_q (stp_bool2 tok rfl rfl rfl rfl (.inl ⟨rfl, rfl⟩)) rfl ?_ | refine x_q (stp_bool2 tok rfl rfl rfl rfl (.inr ⟨rfl, rfl⟩)) rfl ?_ | refine x_q (stp_eqlNil tok (.inl ⟨rfl, rfl⟩) rfl rfl rfl) rfl ?_ | refine x_q (stp_eqlNil_not tok (.inl ⟨rfl, rfl⟩) rfl rfl rfl rfl) rfl ?_) | (refine is_idx ?_; first | refine x_q (stp_indexAddr_sl tok rfl rfl rfl rfl rfl (by omega) (by first | rfl | assumption) rfl rfl) rfl ?_ | refine x_q (stp_indexAddr_r0 tok rfl rfl rfl rfl rfl rfl (by omega) (by omega) rfl) rfl ?_ | refine x_q (stp_indexAddr_box tok rfl rfl rfl rfl rfl rfl (by omega) (by omega)) rfl ?_) | (refine is_load ?_; first | refine x_q (stp_load_fp1 tok rfl rfl rfl (by first | rfl | assumption) rfl) rfl ?_ | refine x_q (stp_load_fpa tok rfl rfl rfl (by first | rfl | assumption) rfl) rfl ?_ | refine x_q (stp_load_arr1 tok rfl rfl rfl rfl (by first | rfl | assumption) rfl) rfl ?_ | refine x_q (stp_load_arra tok rfl rfl rfl rfl (by first | rfl | assumption) rfl) rfl ?_) | (refine is_fad ?_; first | refine x_q (stp_fieldAddr_arr tok rfl rfl rfl rfl rfl rfl rfl rfl) rfl ?_ | refine x_q (stp_fieldAddr_fp tok rfl (by first | rfl | assumption) rfl rfl rfl rfl rfl rfl) rfl ?_) | (refine is_app ?_; first | refine x_appref tok rfl rfl rfl rfl rfl rfl rfl rfl rfl rfl rfl (by first | (intro y hy; cases hy; rfl) | exact map_hd _ _ (fun _ => rfl)) (by first | omega | (simp; done) | (simp; omega)) rfl ?_) | (refine is_un ?_; first | refine x_q (stp_neg rfl ⟨by omega, by omega⟩) rfl ?_) | (refine is_conv ?_; first | refine x_q (stp_conv_in tok rfl rfl rfl rfl ⟨by omega, by omega⟩) rfl ?_ | refine x_q (stp_conv tok rfl rfl rfl rfl) rfl ?_) | refine x_autow tok rfl rfl rfl rfl ?_ | (refine is_sto ?_; first | refine x_autos tok rfl rfl rfl ?_) | refine x_nil ?_ | refine x_nilD (by kernel_rfl) ?_) | (first | refine sim_seq ?_ | refine x_region ?_ | refine x_draw rfl ?_ | refine sim_cond_true rfl ?_ | refine sim_cond_false rfl ?_ | refine sim_cond rfl (fun hc => ?_) (fun hc => ?_) | refine sim_skip ?_ | refine sim_ret ?_ | refine sim_exit ?_ | refine sim_block ?_)))
  exact fin_ret [] rfl rfl rfl rfl
theorem level2_c (g : Cf) (s : Sv) (c : Cl) (now : Int) (ok : COk g.per now s.en c) (hs : staF s.en c.ph c.si ≤ now) : CallSim Tryz.prog 107 [cfA g, svA s, clA c, iA now] [] (iA (levF g.per g.cap s.en now c.ph c.k c.si)) [] := by
  obtain ⟨p, k0, k1, n0, n1, s0, s1, _, _⟩ := ok
  have ev : levF g.per g.cap s.en now c.ph c.k c.si = min g.cap (c.k + (now - staF s.en c.ph c.si).tdiv (max 1 g.per)) := by
    unfold levF
    rw [show max 1 g.per = g.per by omega, Int.tdiv_eq_ediv_of_nonneg (by omega)]
  have hb := tdiv_bd (now - staF s.en c.ph c.si) (max 1 g.per) (by omega) (by omega) (by omega)
  have hq : InR .i64 ((now - staF s.en c.ph c.si).tdiv (max 1 g.per)) := ⟨by omega, by omega⟩
  rw [ev]
  (refine callSim_of tok Tryz.func107 rfl (fun args w => Tryz.call107 args w) rfl rfl rfl (fun F hF => ?_))
  (have zc1 := start2_c s c; refine WG ?_; clear zc1)
  exact fin_ret [] rfl rfl rfl rfl
theorem locked2_c (g : Cf) (s : Sv) (c : Cl) (now : Int) (ok : COk g.per now s.en c) : CallSim Tryz.prog 65 [cfA g, svA s, clA c, iA now] [] (bA (lckF g.lock s.en now c.ph c.k)) [] := by
  obtain ⟨p, k0, k1, n0, n1, s0, s1, e0, e1⟩ := ok
  unfold lckF
  (refine callSim_of tok Tryz.func65 rfl (fun args w => Tryz.call65 args w) rfl rfl rfl (fun F hF => ?_))
  (repeat' (first | (refine is_ops ?_; first | refine x_auto tok rfl rfl ?_ | (refine is_call ?_; (first | (refine is_fn 96 ?_; first | refine x_q (stp_call (ended2_c s _) rfl rfl rfl rfl rfl) rfl ?_ | refine x_w (stp_call (ended2_c s _) rfl rfl rfl rfl rfl) rfl rfl rfl ?_ | refine x_d (stp_call (ended2_c s _) rfl rfl rfl rfl rfl) rfl rfl rfl ?_) | (refine is_fn 46 ?_; first | refine x_q (stp_call (emergency2_c c) rfl rfl rfl rfl rfl) rfl ?_ | refine x_w (stp_call (emergency2_c c) rfl rfl rfl rfl rfl) rfl rfl rfl ?_ | refine x_d (stp_call (emergency2_c c) rfl rfl rfl rfl rfl) rfl rfl rfl ?_))) | (refine is_grd ?_; first | refine x_on rfl rfl ?_ | refine x_off rfl rfl rfl rfl ?_ | refine x_gsplit rfl rfl (fun hc => ?_) (fun hc => ?_)) | (refine is_bin ?_; first | refine x_q (stp_cmp_t rfl rfl rfl (by unfold cmpP; omega)) rfl ?_ | refine x_q (stp_cmp_f rfl rfl rfl (by unfold cmpP; omega)) rfl ?_ | refine x_q (stp_cmp rfl rfl rfl) rfl ?_ | refine x_q (stp_add rfl rfl ⟨by omega, by omega⟩) rfl ?_ | refine x_q (stp_sub rfl rfl ⟨by omega, by omega⟩) rfl ?_ | refine x_q (stp_mul rfl rfl ⟨by omega, by omega⟩) rfl ?_ | refine x_q (stp_quo rfl rfl (by assumption) (by omega)) rfl ?_ | refine x_q (stp_rem rfl rfl (by omega)) rfl ?_ | refine x_q (stp_xor rfl rfl) rfl ?_ | refine x_q (stp_shift (.inl ⟨rfl, rfl⟩) rfl rfl (by omega)) rfl ?_ | refine x_q (stp_shift (.inr ⟨rfl, rfl⟩) rfl rfl (by omega)) rfl ?_ | refine x_q (stp_bool2 tok rfl rfl rfl rfl (.inl ⟨rfl, rfl⟩)) rfl ?_ | refine x_q (stp_bool2 tok rfl rfl rfl rfl (.inr ⟨rfl, rfl⟩)) rfl ?_ | refine x_q (stp_eqlNil tok (.inl ⟨rfl, rfl⟩) rfl rfl rfl) rfl ?_ | refine x_q (stp_eqlNil_not tok (.inl ⟨rfl, rfl⟩) rfl rfl rfl rfl) rfl ?_) | (refine is_idx ?_; first | refine x_q (stp_indexAddr_sl tok rfl rfl rfl rfl rfl (by omega) (by first | rfl | assumption) rfl rfl) rfl ?_ | refine x_q (stp_indexAddr_r0 tok rfl rfl rfl rfl rfl rfl (by omega) (by omega) rfl) rfl ?_ | refine x_q (stp_indexAddr_box tok rfl rfl rfl rfl rfl rfl (by omega) (by omega)) rfl ?_) | (refine is_load ?_; first | refine x_q (stp_load_fp1 tok rfl rfl rfl (by first | rfl | assumption) rfl) rfl ?_ | refine x_q (stp_load_fpa tok rfl rfl rfl (by first | rfl | assumption) rfl) rfl ?_ | refine x_q (stp_load_arr1 tok rfl rfl rfl rfl (by first | rfl | assumption) rfl) rfl ?_ | refine x_q (stp_load_arra tok rfl rfl rfl rfl (by first | rfl | assumption) rfl) rfl ?_) | (refine is_fad ?_; first | refine x_q (stp_fieldAddr_arr tok rfl rfl rfl rfl rfl rfl rfl rfl) rfl ?_ | refine x_q (stp_fieldAddr_fp tok rfl (by first | rfl | assumption) rfl rfl rfl rfl rfl rfl) rfl ?_) | (refine is_app ?_; first | refine x_appref tok rfl rfl rfl rfl rfl rfl rfl rfl rfl rfl rfl (by first | (intro y hy; cases hy; rfl) | exact map_hd _ _ (fun _ => rfl)) (by first | omega | (simp; done) | (simp; omega)) rfl ?_) | (refine is_un ?_; first | refine x_q (stp_neg rfl ⟨by omega, by omega⟩) rfl ?_) | (refine is_conv ?_; first | refine x_q (stp_conv_in tok rfl rfl rfl rfl ⟨by omega, by omega⟩) rfl ?_ | refine x_q (stp_conv tok rfl rfl rfl rfl) rfl ?_) | refine x_autow tok rfl rfl rfl rfl ?_ | (refine is_sto ?_; first | refine x_autos tok rfl rfl rfl ?_) | refine x_nil ?_ | refine x_nilD (by kernel_rfl) ?_) | (first | refine sim_seq ?_ | refine x_region ?_ | refine x_draw rfl ?_ | refine sim_cond_true rfl ?_ | refine sim_cond_false rfl ?_ | refine sim_cond rfl (fun hc => ?_) (fun hc => ?_) | refine sim_skip ?_ | refine sim_ret ?_ | refine sim_exit ?_ | refine sim_block ?_)))
  all_goals refine fin_ret [] rfl rfl (congrArg bA ?_) rfl
  all_goals simp_all [cmpB]
structure Key where
  x0 : Int
  x1 : Int
  x2 : Int
  x3 : Int
  x4 : Int
def kyA (k : Key) : AV := .agg [iA k.x0, iA k.x1, iA k.x2, iA k.x3, iA k.x4]
def keyF (per cap : Int) (es : List Int) (now : Int) (c : Cl) : Key := if emF c.k = true then ⟨0, -c.k, staF es c.ph c.si, c.ag, c.id⟩ else ⟨1, -levF per cap es now c.ph c.k c.si, staF es c.ph c.si, c.ag, c.id⟩
theorem key_c (g : Cf) (s : Sv) (c : Cl) (now : Int) (ok : COk g.per now s.en c) (hs : staF s.en c.ph c.si ≤ now) (hc : -1000000 ≤ g.cap ∧ g.cap ≤ 1000000) : CallSim Tryz.prog 97 [cfA g, svA s, iA now, clA c] [] (kyA (keyF g.per g.cap s.en now c)) [] := by
  have em := emergency2_c c
  have hlev : levF g.per g.cap s.en now c.ph c.k c.si ≤ 1000000 ∧ -1000000 ≤ levF g.per g.cap s.en now c.ph c.k c.si := by
    unfold levF
    have := Int.ediv_nonneg (show 0 ≤ now - staF s.en c.ph c.si by omega) (show 0 ≤ g.per by have := ok.p; omega)
    have := ok.k0
    omega
  have hk0 := ok.k0
  have hk1 := ok.k1
  cases he : emF c.k <;> rw [he] at em
  · rw [show keyF g.per g.cap s.en now c = ⟨1, -levF g.per g.cap s.en now c.ph c.k c.si, staF s.en c.ph c.si, c.ag, c.id⟩ by simp [keyF, he]]
    (refine callSim_of tok Tryz.func97 rfl (fun args w => Tryz.call97 args w) rfl rfl rfl (fun F hF => ?_))
    (have zc1 := em; have zc2 := start2_c s c; have zc3 := level2_c g s c now ok hs; refine WG ?_; clear zc1 zc2 zc3)
    exact fin_ret [] rfl rfl rfl rfl
  · rw [show keyF g.per g.cap s.en now c = ⟨0, -c.k, staF s.en c.ph c.si, c.ag, c.id⟩ by simp [keyF, he]]
    (refine callSim_of tok Tryz.func97 rfl (fun args w => Tryz.call97 args w) rfl rfl rfl (fun F hF => ?_))
    (have zc1 := em; have zc2 := start2_c s c; have zc3 := level2_c g s c now ok hs; refine WG ?_; clear zc1 zc2 zc3)
    exact fin_ret [] rfl rfl rfl rfl
def lexF (x y : Key) : Bool := if x.x0 ≠ y.x0 then decide (x.x0 < y.x0) else if x.x1 ≠ y.x1 then decide (x.x1 < y.x1) else if x.x2 ≠ y.x2 then decide (x.x2 < y.x2) else if x.x3 ≠ y.x3 then decide (x.x3 < y.x3) else if x.x4 ≠ y.x4 then decide (x.x4 < y.x4) else false
theorem lex_less (per cap : Int) (es : List Int) (now : Int) (x y : Cl) : lexF (keyF per cap es now x) (keyF per cap es now y) = lessF per cap es now x y := by
  have neg : ∀ a b : Int, decide (-a < -b) = decide (b < a) := fun a b => by
    by_cases h : b < a
    · rw [decide_eq_true h, decide_eq_true (by omega)]
    · rw [decide_eq_false h, decide_eq_false (by omega)]
  have neg2 : ∀ a b : Int, (-a ≠ -b) = (a ≠ b) := fun a b => propext (by omega)
  unfold lexF lessF keyF amtF
  generalize levF per cap es now x.ph x.k x.si = lx
  generalize levF per cap es now y.ph y.k y.si = ly
  generalize staF es x.ph x.si = sx
  generalize staF es y.ph y.si = sy
  cases hx : emF x.k <;> cases hy : emF y.k <;> simp only [neg, neg2, if_true, if_false, reduceIte, reduceCtorEq]
  · by_cases h1 : lx = ly <;> by_cases h2 : sx = sy <;> by_cases h3 : x.ag = y.ag <;> by_cases h4 : x.id = y.id <;> simp [h1, h2, h3, h4]
  · simp
  · simp
  · by_cases h1 : x.k = y.k <;> by_cases h2 : sx = sy <;> by_cases h3 : x.ag = y.ag <;> by_cases h4 : x.id = y.id <;> simp [h1, h2, h3, h4]
theorem less2_c (g : Cf) (s : Sv) (x y : Cl) (now : Int) (okx : COk g.per now s.en x) (oky : COk g.per now s.en y) (hx : staF s.en x.ph x.si ≤ now) (hy : staF s.en y.ph y.si ≤ now) (hc : -1000000 ≤ g.cap ∧ g.cap ≤ 1000000) : CallSim Tryz.prog 66 [cfA g, svA s, iA now, clA x, clA y] [] (bA (lessF g.per g.cap s.en now x y)) [] := by
  have kx := key_c g s x now okx hx hc
  have ky := key_c g s y now oky hy hc
  rw [← lex_less]
  generalize keyF g.per g.cap s.en now x = p at *
  generalize keyF g.per g.cap s.en now y = q at *
  clear hc hx hy okx oky
  (refine callSim_of tok Tryz.func66 rfl (fun args w => Tryz.call66 args w) rfl rfl rfl (fun F hF => ?_))
  (have zc1 := kx; have zc2 := ky; refine WG ?_; clear zc1 zc2)
  refine sim_loop_r (fun n st => ∃ i : Nat, n + i = 5 ∧ (0 < i → p.x0 = q.x0) ∧ (1 < i → p.x1 = q.x1) ∧ (2 < i → p.x2 = q.x2) ∧ (3 < i → p.x3 = q.x3) ∧ (4 < i → p.x4 = q.x4) ∧
    st = ⟨[(11, .ptr 11 0 0), (12, .ptr 12 0 0), (24, iA i)], [(11, .box [iA p.x0, iA p.x1, iA p.x2, iA p.x3, iA p.x4]), (12, .box [iA q.x0, iA q.x1, iA q.x2, iA q.x3, iA q.x4])]⟩)
    5 [11, 12] [11, 12, 24] rfl ⟨0, rfl, by omega, by omega, by omega, by omega, by omega, rfl⟩ ?_
  rintro n st ⟨i, hi, a0, a1, a2, a3, a4, rfl⟩
  obtain rfl | rfl | rfl | rfl | rfl | rfl : i = 0 ∨ i = 1 ∨ i = 2 ∨ i = 3 ∨ i = 4 ∨ i = 5 := by omega
  · clear kx ky
    by_cases h : p.x0 = q.x0
    · (refine WO ?_)
      exact ⟨n - 1, by omega, 1, by omega, fun _ => h, by omega, by omega, by omega, by omega, rfl⟩
    · (refine WO ?_)
      refine fin_ret [] rfl rfl (congrArg bA ?_) rfl
      simp [lexF, h, cmpB]
  · clear kx ky
    have b0 := a0 (by omega)
    by_cases h : p.x1 = q.x1
    · (refine WO ?_)
      exact ⟨n - 1, by omega, 2, by omega, fun _ => b0, fun _ => h, by omega, by omega, by omega, rfl⟩
    · (refine WO ?_)
      refine fin_ret [] rfl rfl (congrArg bA ?_) rfl
      simp [lexF, b0, h, cmpB]
  · clear kx ky
    have b0 := a0 (by omega)
    have b1 := a1 (by omega)
    by_cases h : p.x2 = q.x2
    · (refine WO ?_)
      exact ⟨n - 1, by omega, 3, by omega, fun _ => b0, fun _ => b1, fun _ => h, by omega, by omega, rfl⟩
    · (refine WO ?_)
      refine fin_ret [] rfl rfl (congrArg bA ?_) rfl
      simp [lexF, b0, b1, h, cmpB]
  · clear kx ky
    have b0 := a0 (by omega)
    have b1 := a1 (by omega)
    have b2 := a2 (by omega)
    by_cases h : p.x3 = q.x3
    · (refine WO ?_)
      exact ⟨n - 1, by omega, 4, by omega, fun _ => b0, fun _ => b1, fun _ => b2, fun _ => h, by omega, rfl⟩
    · (refine WO ?_)
      refine fin_ret [] rfl rfl (congrArg bA ?_) rfl
      simp [lexF, b0, b1, b2, h, cmpB]
  · clear kx ky
    have b0 := a0 (by omega)
    have b1 := a1 (by omega)
    have b2 := a2 (by omega)
    have b3 := a3 (by omega)
    by_cases h : p.x4 = q.x4
    · (refine WO ?_)
      exact ⟨n - 1, by omega, 5, by omega, fun _ => b0, fun _ => b1, fun _ => b2, fun _ => b3, fun _ => h, rfl⟩
    · (refine WO ?_)
      refine fin_ret [] rfl rfl (congrArg bA ?_) rfl
      simp [lexF, b0, b1, b2, b3, h, cmpB]
  · clear kx ky
    (refine WO ?_)
    refine fin_ret [] rfl rfl (congrArg bA ?_) rfl
    simp [lexF, a0, a1, a2, a3, a4]
theorem best2_c (g : Cf) (s : Sv) (now : Int) (xs : List Cl) (hlen : xs.length ≤ 1099511627776) (ok : ∀ i, i < xs.length → COk g.per now s.en (xs.getD i default)) (hs : ∀ i, i < xs.length → staF s.en (xs.getD i default).ph (xs.getD i default).si ≤ now) (hc : -1000000 ≤ g.cap ∧ g.cap ≤ 1000000) :
    CallSim Tryz.prog 47 [cfA g, svA s, iA now, slA clA xs] [] (iA (bestN g s now xs xs.length)) [] := by
  have hl : (xs.map clA).length = xs.length := by simp
  (refine callSim_of tok Tryz.func47 rfl (fun args w => Tryz.call47 args w) rfl rfl rfl (fun F hF => ?_))
  (refine WO ?_)
  refine sim_loop_r (fun n st => ∃ i : Nat, n + i = xs.length ∧ st = ⟨[(2, iA now), (3, slA clA xs), (4, .ptr 4 0 0), (5, .ptr 5 0 0), (9, iA (bestN g s now xs i)), (12, slA clA xs), (13, iA xs.length), (14, iA i)], [(4, .box [slA jnA g.js, slA agA g.ags, iA g.per, iA g.cap, iA g.hold, iA g.lock]), (5, .box [iA s.ph, iA s.gr, slA iA s.en])]⟩)
    xs.length [4, 5] [2, 3, 4, 5, 9, 12, 13, 14] rfl ⟨0, rfl, by rw [← hl]; rfl⟩ ?_
  rintro n st ⟨i, hi, rfl⟩
  by_cases hlt : i < xs.length
  · have hy := map_atI clA xs i (by omega) (by omega)
    have ok1 := ok i hlt
    have hs1 := hs i hlt
    have hb := bestN_bd g s now xs i
    have hn := bestN_succ g s now xs i
    have lk := locked2_c g s (xs.getD i default) now ok1
    rw [show ((i : Int)).toNat = i from rfl] at hy
    cases hL : lckF g.lock s.en now (xs.getD i default).ph (xs.getD i default).k <;> rw [hL] at lk hn
    · rw [if_neg (by simp)] at hn
      by_cases h0 : bestN g s now xs i < 0
      · rw [if_pos h0] at hn
        (have zc1 := lk; refine WG ?_; clear zc1)
        exact ⟨n - 1, by omega, i + 1, by omega, by rw [hn]; rfl⟩
      · rw [if_neg h0] at hn
        have hy2 := map_atI clA xs (bestN g s now xs i) (by omega) (by omega)
        have ls := less2_c g s (xs.getD i default) (xs.getD (bestN g s now xs i).toNat default) now ok1 (ok _ (by omega)) hs1 (hs _ (by omega)) hc
        cases hS : lessF g.per g.cap s.en now (xs.getD i default) (xs.getD (bestN g s now xs i).toNat default) <;> rw [hS] at ls hn
        · rw [if_neg (by simp)] at hn
          (have zc1 := lk; have zc2 := ls; refine WG ?_; clear zc1 zc2)
          exact ⟨n - 1, by omega, i + 1, by omega, by rw [hn]; rfl⟩
        · rw [if_pos rfl] at hn
          (have zc1 := lk; have zc2 := ls; refine WG ?_; clear zc1 zc2)
          exact ⟨n - 1, by omega, i + 1, by omega, by rw [hn]; rfl⟩
    · rw [if_pos rfl] at hn
      (have zc1 := lk; have zc2 := lk; refine WG ?_; clear zc1 zc2)
      exact ⟨n - 1, by omega, i + 1, by omega, by rw [hn]; rfl⟩
  · obtain rfl : i = xs.length := by omega
    (refine WO ?_)
    exact fin_ret [] rfl rfl rfl rfl
end Av
end Go.Proofs.YtkliodbbcblobaaGreat
/- make: Service, Claims; law20: setting. -/
namespace Go.Proofs.YtkliodbbcblobaaGreat
namespace Av
set_option linter.unusedSimpArgs false
set_option linter.unusedVariables false
set_option maxRecDepth 4000
set_option maxHeartbeats 1000000
def e1 (d : Dk) (now : Int) : Int := [-1, 0, max (-1) (now - nx d 6)].getD (nx (ad d) 3).toNat 0
def svL (now : Int) (d : Dk) : Nat → List Int × Dk
  | 0 => ([], d)
  | i + 1 => ((svL now d i).1 ++ [e1 (svL now d i).2 now], ad (ad (svL now d i).2))
def svF (d : Dk) (n : Nat) (now : Int) : Sv := if nx (svL now d n).2 2 = 0 then ⟨nx (ad (svL now d n).2) n, nx (ad (ad (svL now d n).2)) 4, (svL now d n).1⟩ else ⟨-1, 0, (svL now d n).1⟩
def svD (d : Dk) (n : Nat) (now : Int) : Dk := if nx (svL now d n).2 2 = 0 then ad (ad (ad (svL now d n).2)) else ad (svL now d n).2
def svB (p g : Int) (l : List AV) : AV := .agg [iA p, iA g, .sl false l]
theorem svL_len (now : Int) (d : Dk) : ∀ i, (svL now d i).1.length = i
  | 0 => rfl
  | i + 1 => by simp [svL, svL_len now d i]
def cl1 (d : Dk) (ph now : Int) : Cl := ⟨nx d 3, nx (ad d) 4, nx (ad (ad d)) ph, [0, 1, 1, 0, 2, 3].getD (nx (ad (ad (ad d))) 6).toNat 0, max 0 (now - nx (ad (ad (ad (ad d)))) 20)⟩
def clL (ph now : Int) (d : Dk) : Nat → List Cl × Dk
  | 0 => ([], d)
  | i + 1 => ((clL ph now d i).1 ++ [cl1 (clL ph now d i).2 ph now], ad (ad (ad (ad (ad (clL ph now d i).2)))))
def clF (d : Dk) (ph now : Int) : List Cl := (clL ph now (ad d) (nx d 6).toNat).1
def clD (d : Dk) (ph now : Int) : Dk := (clL ph now (ad d) (nx d 6).toNat).2
theorem clL_len (ph now : Int) (d : Dk) : ∀ i, (clL ph now d i).1.length = i
  | 0 => rfl
  | i + 1 => by simp [clL, clL_len ph now d i]
theorem claims_c (d : Dk) (ph now : Int) (h1 : 1 ≤ ph) (h2 : ph ≤ 1000) (h3 : 0 ≤ now) (h4 : now ≤ 1000000) : CallSim Tryz.prog 12 [.ptr 1000 0 0, iA ph, iA now] [(1000, dkE d)] (slA clA (clF d ph now)) [(1000, dkE (clD d ph now))] := by
  have hk := nx_bd d 6 (by omega)
  have ek : ((nx d 6).toNat : Int) = nx d 6 := Int.toNat_of_nonneg hk.1
  (refine callSim_of tok Tryz.func12 rfl (fun args w => Tryz.call12 args w) rfl rfl rfl (fun F hF => ?_))
  (repeat' (first | (refine is_ops ?_; first | refine x_auto tok rfl rfl ?_ | (refine is_call ?_; refine x_w (stp_call (next_c _ _ (by omega) (by omega)) rfl rfl rfl rfl rfl) rfl rfl rfl ?_) | (refine is_grd ?_; first | refine x_on rfl rfl ?_ | refine x_off rfl rfl rfl rfl ?_ | refine x_gsplit rfl rfl (fun hc => ?_) (fun hc => ?_)) | (refine is_bin ?_; first | refine x_q (stp_cmp_t rfl rfl rfl (by unfold cmpP; omega)) rfl ?_ | refine x_q (stp_cmp_f rfl rfl rfl (by unfold cmpP; omega)) rfl ?_ | refine x_q (stp_cmp rfl rfl rfl) rfl ?_ | refine x_q (stp_add rfl rfl ⟨by omega, by omega⟩) rfl ?_ | refine x_q (stp_sub rfl rfl ⟨by omega, by omega⟩) rfl ?_ | refine x_q (stp_mul rfl rfl ⟨by omega, by omega⟩) rfl ?_ | refine x_q (stp_quo rfl rfl (by assumption) (by omega)) rfl ?_ | refine x_q (stp_rem rfl rfl (by omega)) rfl ?_ | refine x_q (stp_xor rfl rfl) rfl ?_ | refine x_q (stp_shift (.inl ⟨rfl, rfl⟩) rfl rfl (by omega)) rfl ?_ | refine x_q (stp_shift (.inr ⟨rfl, rfl⟩) rfl rfl (by omega)) rfl ?_ | refine x_q (stp_bool2 tok rfl rfl rfl rfl (.inl ⟨rfl, rfl⟩)) rfl ?_ | refine x_q (stp_bool2 tok rfl rfl rfl rfl (.inr ⟨rfl, rfl⟩)) rfl ?_ | refine x_q (stp_eqlNil tok (.inl ⟨rfl, rfl⟩) rfl rfl rfl) rfl ?_ | refine x_q (stp_eqlNil_not tok (.inl ⟨rfl, rfl⟩) rfl rfl rfl rfl) rfl ?_) | (refine is_idx ?_; first | refine x_q (stp_indexAddr_sl tok rfl rfl rfl rfl rfl (by omega) (by first | rfl | assumption) rfl rfl) rfl ?_ | refine x_q (stp_indexAddr_r0 tok rfl rfl rfl rfl rfl rfl (by omega) (by omega) rfl) rfl ?_ | refine x_q (stp_indexAddr_box tok rfl rfl rfl rfl rfl rfl (by omega) (by omega)) rfl ?_) | (refine is_load ?_; first | refine x_q (stp_load_fp1 tok rfl rfl rfl (by first | rfl | assumption) rfl) rfl ?_ | refine x_q (stp_load_fpa tok rfl rfl rfl (by first | rfl | assumption) rfl) rfl ?_ | refine x_q (stp_load_arr1 tok rfl rfl rfl rfl (by first | rfl | assumption) rfl) rfl ?_ | refine x_q (stp_load_arra tok rfl rfl rfl rfl (by first | rfl | assumption) rfl) rfl ?_) | (refine is_fad ?_; first | refine x_q (stp_fieldAddr_arr tok rfl rfl rfl rfl rfl rfl rfl rfl) rfl ?_ | refine x_q (stp_fieldAddr_fp tok rfl (by first | rfl | assumption) rfl rfl rfl rfl rfl rfl) rfl ?_) | (refine is_app ?_; first | refine x_appref tok rfl rfl rfl rfl rfl rfl rfl rfl rfl rfl rfl (by first | (intro y hy; cases hy; rfl) | exact map_hd _ _ (fun _ => rfl)) (by first | omega | (simp; done) | (simp; omega)) rfl ?_) | (refine is_un ?_; first | refine x_q (stp_neg rfl ⟨by omega, by omega⟩) rfl ?_) | (refine is_conv ?_; first | refine x_q (stp_conv_in tok rfl rfl rfl rfl ⟨by omega, by omega⟩) rfl ?_ | refine x_q (stp_conv tok rfl rfl rfl rfl) rfl ?_) | refine x_autow tok rfl rfl rfl rfl ?_ | (refine is_sto ?_; first | refine x_autos tok rfl rfl rfl ?_) | refine x_nil ?_ | refine x_nilD (by kernel_rfl) ?_) | (first | refine sim_seq ?_ | refine x_region ?_ | refine x_draw rfl ?_ | refine sim_cond_true rfl ?_ | refine sim_cond_false rfl ?_ | refine sim_cond rfl (fun hc => ?_) (fun hc => ?_) | refine sim_skip ?_ | refine sim_ret ?_ | refine sim_exit ?_ | refine sim_block ?_)))
  refine sim_virt 7 1001 5 rfl rfl rfl ?_
  refine sim_loop_r (fun k st => ∃ i : Nat, k + i = (nx d 6).toNat ∧ st = ⟨[(0, .ptr 1000 0 0), (1, iA ph), (2, iA now), (7, .ref 1001 0 ((clL ph now (ad d) i).1.map clA).length), (8, iA (nx d 6 - i))], [(1000, dkE (clL ph now (ad d) i).2), (1001, .arr 5 ((clL ph now (ad d) i).1.map clA) true)]⟩)
    (nx d 6).toNat [1000, 1001] [0, 1, 2, 7, 8] rfl ⟨0, rfl, by rw [show nx d 6 - (0 : Nat) = nx d 6 by omega]; rfl⟩ ?_
  rintro k st ⟨i, hi, rfl⟩
  have hle := clL_len ph now (ad d) i
  by_cases hlt : i < (nx d 6).toNat
  · have hb := nx_bd (ad (ad (ad (clL ph now (ad d) i).2))) 6 (by omega)
    have hb2 := nx_bd (ad (ad (ad (ad (clL ph now (ad d) i).2)))) 20 (by omega)
    have hy : [iA 0, iA 1, iA 1, iA 0, iA 2, iA 3][(nx (ad (ad (ad (clL ph now (ad d) i).2))) 6).toNat]? = some (iA ([0, 1, 1, 0, 2, 3].getD (nx (ad (ad (ad (clL ph now (ad d) i).2))) 6).toNat 0)) := map_at iA [0, 1, 1, 0, 2, 3] _ (by simp; omega)
    (repeat' (first | (refine is_ops ?_; first | refine x_auto tok rfl rfl ?_ | (refine is_call ?_; refine x_w (stp_call (next_c _ _ (by omega) (by omega)) rfl rfl rfl rfl rfl) rfl rfl rfl ?_) | (refine is_grd ?_; first | refine x_on rfl rfl ?_ | refine x_off rfl rfl rfl rfl ?_ | refine x_gsplit rfl rfl (fun hc => ?_) (fun hc => ?_)) | (refine is_bin ?_; first | refine x_q (stp_cmp_t rfl rfl rfl (by unfold cmpP; omega)) rfl ?_ | refine x_q (stp_cmp_f rfl rfl rfl (by unfold cmpP; omega)) rfl ?_ | refine x_q (stp_cmp rfl rfl rfl) rfl ?_ | refine x_q (stp_add rfl rfl ⟨by omega, by omega⟩) rfl ?_ | refine x_q (stp_sub rfl rfl ⟨by omega, by omega⟩) rfl ?_ | refine x_q (stp_mul rfl rfl ⟨by omega, by omega⟩) rfl ?_ | refine x_q (stp_quo rfl rfl (by assumption) (by omega)) rfl ?_ | refine x_q (stp_rem rfl rfl (by omega)) rfl ?_ | refine x_q (stp_xor rfl rfl) rfl ?_ | refine x_q (stp_shift (.inl ⟨rfl, rfl⟩) rfl rfl (by omega)) rfl ?_ | refine x_q (stp_shift (.inr ⟨rfl, rfl⟩) rfl rfl (by omega)) rfl ?_ | refine x_q (stp_bool2 tok rfl rfl rfl rfl (.inl ⟨rfl, rfl⟩)) rfl ?_ | refine x_q (stp_bool2 tok rfl rfl rfl rfl (.inr ⟨rfl, rfl⟩)) rfl ?_ | refine x_q (stp_eqlNil tok (.inl ⟨rfl, rfl⟩) rfl rfl rfl) rfl ?_ | refine x_q (stp_eqlNil_not tok (.inl ⟨rfl, rfl⟩) rfl rfl rfl rfl) rfl ?_) | (refine is_idx ?_; first | refine x_q (stp_indexAddr_sl tok rfl rfl rfl rfl rfl (by omega) (by first | rfl | assumption) rfl rfl) rfl ?_ | refine x_q (stp_indexAddr_r0 tok rfl rfl rfl rfl rfl rfl (by omega) (by omega) rfl) rfl ?_ | refine x_q (stp_indexAddr_box tok rfl rfl rfl rfl rfl rfl (by omega) (by omega)) rfl ?_) | (refine is_load ?_; first | refine x_q (stp_load_fp1 tok rfl rfl rfl (by first | rfl | assumption) rfl) rfl ?_ | refine x_q (stp_load_fpa tok rfl rfl rfl (by first | rfl | assumption) rfl) rfl ?_ | refine x_q (stp_load_arr1 tok rfl rfl rfl rfl (by first | rfl | assumption) rfl) rfl ?_ | refine x_q (stp_load_arra tok rfl rfl rfl rfl (by first | rfl | assumption) rfl) rfl ?_) | (refine is_fad ?_; first | refine x_q (stp_fieldAddr_arr tok rfl rfl rfl rfl rfl rfl rfl rfl) rfl ?_ | refine x_q (stp_fieldAddr_fp tok rfl (by first | rfl | assumption) rfl rfl rfl rfl rfl rfl) rfl ?_) | (refine is_app ?_; first | refine x_appref tok rfl rfl rfl rfl rfl rfl rfl rfl rfl rfl rfl (by first | (intro y hy; cases hy; rfl) | exact map_hd _ _ (fun _ => rfl)) (by first | omega | (simp; done) | (simp; omega)) rfl ?_) | (refine is_un ?_; first | refine x_q (stp_neg rfl ⟨by omega, by omega⟩) rfl ?_) | (refine is_conv ?_; first | refine x_q (stp_conv_in tok rfl rfl rfl rfl ⟨by omega, by omega⟩) rfl ?_ | refine x_q (stp_conv tok rfl rfl rfl rfl) rfl ?_) | refine x_autow tok rfl rfl rfl rfl ?_ | (refine is_sto ?_; first | refine x_autos tok rfl rfl rfl ?_) | refine x_nil ?_ | refine x_nilD (by kernel_rfl) ?_) | (first | refine sim_seq ?_ | refine x_region ?_ | refine x_draw rfl ?_ | refine sim_cond_true rfl ?_ | refine sim_cond_false rfl ?_ | refine sim_cond rfl (fun hc => ?_) (fun hc => ?_) | refine sim_skip ?_ | refine sim_ret ?_ | refine sim_exit ?_ | refine sim_block ?_)))
    have hm : (clL ph now (ad d) (i + 1)).1.map clA = (clL ph now (ad d) i).1.map clA ++ [clA (cl1 (clL ph now (ad d) i).2 ph now)] := List.map_append
    exact ⟨k - 1, by omega, i + 1, by omega, by rw [hm, show nx d 6 - ((i + 1 : Nat) : Int) = nx d 6 - i - 1 by omega]; rfl⟩
  · obtain rfl : i = (nx d 6).toNat := by omega
    (repeat' (first | (refine is_ops ?_; first | refine x_auto tok rfl rfl ?_ | (refine is_call ?_; refine x_w (stp_call (next_c _ _ (by omega) (by omega)) rfl rfl rfl rfl rfl) rfl rfl rfl ?_) | (refine is_grd ?_; first | refine x_on rfl rfl ?_ | refine x_off rfl rfl rfl rfl ?_ | refine x_gsplit rfl rfl (fun hc => ?_) (fun hc => ?_)) | (refine is_bin ?_; first | refine x_q (stp_cmp_t rfl rfl rfl (by unfold cmpP; omega)) rfl ?_ | refine x_q (stp_cmp_f rfl rfl rfl (by unfold cmpP; omega)) rfl ?_ | refine x_q (stp_cmp rfl rfl rfl) rfl ?_ | refine x_q (stp_add rfl rfl ⟨by omega, by omega⟩) rfl ?_ | refine x_q (stp_sub rfl rfl ⟨by omega, by omega⟩) rfl ?_ | refine x_q (stp_mul rfl rfl ⟨by omega, by omega⟩) rfl ?_ | refine x_q (stp_quo rfl rfl (by assumption) (by omega)) rfl ?_ | refine x_q (stp_rem rfl rfl (by omega)) rfl ?_ | refine x_q (stp_xor rfl rfl) rfl ?_ | refine x_q (stp_shift (.inl ⟨rfl, rfl⟩) rfl rfl (by omega)) rfl ?_ | refine x_q (stp_shift (.inr ⟨rfl, rfl⟩) rfl rfl (by omega)) rfl ?_ | refine x_q (stp_bool2 tok rfl rfl rfl rfl (.inl ⟨rfl, rfl⟩)) rfl ?_ | refine x_q (stp_bool2 tok rfl rfl rfl rfl (.inr ⟨rfl, rfl⟩)) rfl ?_ | refine x_q (stp_eqlNil tok (.inl ⟨rfl, rfl⟩) rfl rfl rfl) rfl ?_ | refine x_q (stp_eqlNil_not tok (.inl ⟨rfl, rfl⟩) rfl rfl rfl rfl) rfl ?_) | (refine is_idx ?_; first | refine x_q (stp_indexAddr_sl tok rfl rfl rfl rfl rfl (by omega) (by first | rfl | assumption) rfl rfl) rfl ?_ | refine x_q (stp_indexAddr_r0 tok rfl rfl rfl rfl rfl rfl (by omega) (by omega) rfl) rfl ?_ | refine x_q (stp_indexAddr_box tok rfl rfl rfl rfl rfl rfl (by omega) (by omega)) rfl ?_) | (refine is_load ?_; first | refine x_q (stp_load_fp1 tok rfl rfl rfl (by first | rfl | assumption) rfl) rfl ?_ | refine x_q (stp_load_fpa tok rfl rfl rfl (by first | rfl | assumption) rfl) rfl ?_ | refine x_q (stp_load_arr1 tok rfl rfl rfl rfl (by first | rfl | assumption) rfl) rfl ?_ | refine x_q (stp_load_arra tok rfl rfl rfl rfl (by first | rfl | assumption) rfl) rfl ?_) | (refine is_fad ?_; first | refine x_q (stp_fieldAddr_arr tok rfl rfl rfl rfl rfl rfl rfl rfl) rfl ?_ | refine x_q (stp_fieldAddr_fp tok rfl (by first | rfl | assumption) rfl rfl rfl rfl rfl rfl) rfl ?_) | (refine is_app ?_; first | refine x_appref tok rfl rfl rfl rfl rfl rfl rfl rfl rfl rfl rfl (by first | (intro y hy; cases hy; rfl) | exact map_hd _ _ (fun _ => rfl)) (by first | omega | (simp; done) | (simp; omega)) rfl ?_) | (refine is_un ?_; first | refine x_q (stp_neg rfl ⟨by omega, by omega⟩) rfl ?_) | (refine is_conv ?_; first | refine x_q (stp_conv_in tok rfl rfl rfl rfl ⟨by omega, by omega⟩) rfl ?_ | refine x_q (stp_conv tok rfl rfl rfl rfl) rfl ?_) | refine x_autow tok rfl rfl rfl rfl ?_ | (refine is_sto ?_; first | refine x_autos tok rfl rfl rfl ?_) | refine x_nil ?_ | refine x_nilD (by kernel_rfl) ?_) | (first | refine sim_seq ?_ | refine x_region ?_ | refine x_draw rfl ?_ | refine sim_cond_true rfl ?_ | refine sim_cond_false rfl ?_ | refine sim_cond rfl (fun hc => ?_) (fun hc => ?_) | refine sim_skip ?_ | refine sim_ret ?_ | refine sim_exit ?_ | refine sim_block ?_)))
    exact fin_own [1000] rfl rfl (congrArg (AV.sl false) List.take_length) rfl
end Av
end Go.Proofs.YtkliodbbcblobaaGreat
/- law20: setting. -/
namespace Go.Proofs.YtkliodbbcblobaaGreat
namespace Av
set_option linter.unusedSimpArgs false
set_option linter.unusedVariables false
set_option maxRecDepth 4000
set_option maxHeartbeats 400000
def d0 (xs : List Int) (hl : xs.length ≤ 9223372036854775807) : Dk := ⟨xs, 0, Nat.zero_le _, hl⟩
def ad4 (d : Dk) : Dk := ad (ad (ad (ad d)))
def cfgF (d : Dk) : Cf := ⟨[], [], 1 + nx d (5 - 1 + 1), nx (ad d) 6, 1 + nx (ad (ad d)) (4 - 1 + 1), nx (ad (ad (ad d))) 7⟩
def setN (d : Dk) : Nat := (1 + nx (ad4 d) (8 - 1 + 1)).toNat
def setS (d : Dk) (now : Int) : Sv := svF (ad (ad4 d)) (setN d) now
def setC (d : Dk) (now : Int) : List Cl := clF (svD (ad (ad4 d)) (setN d) now) (setN d) now
end Av
end Go.Proofs.YtkliodbbcblobaaGreat
/- law20: bounds of what setting returns; awake. -/
namespace Go.Proofs.YtkliodbbcblobaaGreat
namespace Av
set_option linter.unusedSimpArgs false
set_option linter.unusedVariables false
set_option maxRecDepth 4000
set_option maxHeartbeats 1000000
theorem e1_bd (d : Dk) (now : Int) (h : 0 ≤ now) : -1 ≤ e1 d now ∧ e1 d now ≤ now := by
  unfold e1
  have hb := nx_bd d 6 (by omega)
  have hb2 := nx_bd (ad d) 3 (by omega)
  generalize hx : (nx (ad d) 3).toNat = x
  obtain rfl | rfl | rfl : x = 0 ∨ x = 1 ∨ x = 2 := by omega
  all_goals (simp [List.getD]; omega)
theorem svL_bd (now : Int) (d : Dk) (h : 0 ≤ now) : ∀ i, ∀ e ∈ (svL now d i).1, -1 ≤ e ∧ e ≤ now
  | 0, e, he => by simp [svL] at he
  | i + 1, e, he => by
    simp only [svL, List.mem_append, List.mem_singleton] at he
    rcases he with he | rfl
    · exact svL_bd now d h i e he
    · exact e1_bd _ _ h
theorem getD_mem' {α : Type} (P : α → Prop) (d : α) : ∀ (l : List α) (i : Nat), (∀ x ∈ l, P x) → i < l.length → P (l.getD i d)
  | l, i, h, hi => by simp only [List.getD_eq_getElem?_getD, List.getElem?_eq_getElem hi, Option.getD_some]; exact h _ (List.getElem_mem hi)
theorem endF_bd (es : List Int) (now ph : Int) (h : 0 ≤ now) (he : ∀ e ∈ es, -1 ≤ e ∧ e ≤ now) : -1 ≤ endF es ph ∧ endF es ph ≤ now := by
  unfold endF
  split
  · omega
  · exact getD_mem' (fun e => -1 ≤ e ∧ e ≤ now) 0 es ph.toNat he (by omega)
structure ClB (ph now : Int) (c : Cl) : Prop where
  k0 : 0 ≤ c.k
  k1 : c.k ≤ 3
  s0 : 0 ≤ c.si
  s1 : c.si ≤ now
  a0 : 0 ≤ c.ag
  a1 : c.ag ≤ 2
  i0 : 0 ≤ c.id
  i1 : c.id ≤ 3
  p0 : 0 ≤ c.ph
  p1 : c.ph < ph
theorem cl1_bd (d : Dk) (ph now : Int) (h : 0 ≤ now) (hp : 1 ≤ ph) : ClB ph now (cl1 d ph now) := by
  have h0 := nx_bd d 3 (by omega)
  have h1 := nx_bd (ad d) 4 (by omega)
  have h2 := nx_bd (ad (ad d)) ph hp
  have h3 := nx_bd (ad (ad (ad d))) 6 (by omega)
  have h4 := nx_bd (ad (ad (ad (ad d)))) 20 (by omega)
  have hc : 0 ≤ [0, 1, 1, 0, 2, 3].getD (nx (ad (ad (ad d))) 6).toNat (0 : Int) ∧ [0, 1, 1, 0, 2, 3].getD (nx (ad (ad (ad d))) 6).toNat (0 : Int) ≤ 3 :=
    getD_mem' (fun e => 0 ≤ e ∧ e ≤ 3) (0 : Int) [0, 1, 1, 0, 2, 3] _ (by decide) (by simp; omega)
  unfold cl1
  constructor <;> dsimp only <;> omega
theorem clL_bd (ph now : Int) (d : Dk) (h : 0 ≤ now) (hp : 1 ≤ ph) : ∀ i, ∀ c ∈ (clL ph now d i).1, ClB ph now c
  | 0, e, he => by simp [clL] at he
  | i + 1, e, he => by
    simp only [clL, List.mem_append, List.mem_singleton] at he
    rcases he with he | rfl
    · exact clL_bd ph now d h hp i e he
    · exact cl1_bd _ _ _ h hp
/-- What setting returns. -/
structure SetOK (g : Cf) (s : Sv) (l : List Cl) (now : Int) : Prop where
  p0 : 1 ≤ g.per
  p1 : g.per ≤ 5
  c0 : 0 ≤ g.cap
  c1 : g.cap ≤ 5
  h0 : 1 ≤ g.hold
  h1 : g.hold ≤ 4
  l0 : 0 ≤ g.lock
  l1 : g.lock ≤ 6
  len : l.length ≤ 5
  n0 : 1 ≤ s.en.length
  n1 : s.en.length ≤ 8
  en : ∀ e ∈ s.en, -1 ≤ e ∧ e ≤ now
  cl : ∀ c ∈ l, ClB s.en.length now c
theorem svF_en (d : Dk) (n : Nat) (now : Int) : (svF d n now).en = (svL now d n).1 := by unfold svF; split <;> rfl
theorem set_ok (d : Dk) (now : Int) (h : 0 ≤ now) : SetOK (cfgF d) (setS d now) (setC d now) now := by
  have h0 := nx_bd d (5 - 1 + 1) (by omega)
  have h1 := nx_bd (ad d) 6 (by omega)
  have h2 := nx_bd (ad (ad d)) (4 - 1 + 1) (by omega)
  have h3 := nx_bd (ad (ad (ad d))) 7 (by omega)
  have h4 := nx_bd (ad4 d) (8 - 1 + 1) (by omega)
  have hN : 1 ≤ setN d ∧ setN d ≤ 8 := by unfold setN; omega
  have hM := nx_bd (svD (ad (ad4 d)) (setN d) now) 6 (by omega)
  have e : (setS d now).en = (svL now (ad (ad4 d)) (setN d)).1 := svF_en _ _ _
  have hlen : (setS d now).en.length = setN d := by rw [e]; exact svL_len _ _ _
  constructor
  case len => unfold setC clF; rw [clL_len]; omega
  case en => rw [e]; exact svL_bd now _ h _
  case cl => rw [hlen]; exact clL_bd _ now _ h (by omega) _
  case n0 => omega
  case n1 => omega
  all_goals (unfold cfgF; dsimp only; omega)
theorem SetOK.cok {g : Cf} {s : Sv} {l : List Cl} {now : Int} (H : SetOK g s l now) (hn : 0 ≤ now) (hn2 : now ≤ 1000000) : ∀ i, i < l.length → COk g.per now s.en (l.getD i default) := fun i hi => by
  obtain ⟨a0, a1, a2, a3, a4, a5, a6, a7, a8, a9⟩ := getD_mem' (ClB s.en.length now) default l i H.cl hi
  have he := endF_bd s.en now (l.getD i default).ph hn H.en
  have hp := H.p0
  constructor <;> (try unfold staF) <;> omega
theorem SetOK.sta {g : Cf} {s : Sv} {l : List Cl} {now : Int} (H : SetOK g s l now) (hn : 0 ≤ now) : ∀ i, i < l.length → staF s.en (l.getD i default).ph (l.getD i default).si ≤ now := fun i hi => by
  obtain ⟨a0, a1, a2, a3, a4, a5, a6, a7, a8, a9⟩ := getD_mem' (ClB s.en.length now) default l i H.cl hi
  have he := endF_bd s.en now (l.getD i default).ph hn H.en
  unfold staF
  omega
end Av
end Go.Proofs.YtkliodbbcblobaaGreat
