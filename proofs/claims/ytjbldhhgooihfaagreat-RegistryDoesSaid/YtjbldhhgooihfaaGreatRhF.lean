
/- law17: the program's messages: numbers, shapes, groups, for all messages. -/
import Derived.Test.YtjbldhhgooihfaaGreatRhA
namespace Go.Proofs.YtjbldhhgooihfaaGreat
namespace Av
set_option linter.unusedSimpArgs false
set_option linter.unusedVariables false
set_option maxRecDepth 4000
set_option maxHeartbeats 2000000
theorem shr7 (n : Int) (h : 0 ≤ n) : shrI n 7 = n / 128 := by
  unfold shrI
  rw [Int.fdiv_eq_ediv_of_nonneg _ (by decide)]
  rfl
def P7 : Nat → Int
  | 0 => 1
  | z + 1 => 128 * P7 z
def hiB (n : Int) : Int := IntKind.u8.wrap ((BitVec.ofInt IntKind.u8.bits (IntKind.u8.wrap (andI n 127)) ||| BitVec.ofInt IntKind.u8.bits 128).toNat)
def vbN : Nat → Int → List Int
  | 0, n => [n]
  | z + 1, n => if 128 ≤ n then hiB n :: vbN z (n / 128) else [n]
theorem vbN_len : ∀ z n, (vbN z n).length ≤ z + 1
  | 0, n => Nat.le_refl _
  | z + 1, n => by
    unfold vbN
    split
    · have := vbN_len z (n / 128)
      simp only [List.length_cons]; omega
    · simp
theorem vbN_end (z : Nat) (n : Int) (h : n < 128) : vbN z n = [n] := by
  cases z with
  | zero => rfl
  | succ z => unfold vbN; rw [if_neg (by omega)]
def vbF (n : Int) : List Int := if 0 ≤ n ∧ n ≤ 4294967295 then vbN 5 n else []
def veF (n : Int) : Int := if 0 ≤ n ∧ n ≤ 4294967295 then 0 else 8
theorem vbF_len (n : Int) : (vbF n).length ≤ 6 := by
  unfold vbF; split
  · exact vbN_len 5 n
  · simp
theorem vint_x (n : Int) : CallSim Tryz.prog 95 [iA n] [] (.tup [slA yA (vbF n), iA (veF n)]) [] := by
  unfold vbF veF
  by_cases h1 : 0 ≤ n
  case neg =>
    rw [if_neg (fun h => h1 h.1), if_neg (fun h => h1 h.1)]
    (refine callSim_of tok Tryz.func95 rfl (fun args w => Tryz.call95 args w) rfl rfl rfl (fun F hF => ?_))
    (refine WW ?_)
    exact fin_ret [] rfl rfl rfl rfl
  by_cases h2 : n ≤ 4294967295
  case neg =>
    rw [if_neg (fun h => h2 h.2), if_neg (fun h => h2 h.2)]
    (refine callSim_of tok Tryz.func95 rfl (fun args w => Tryz.call95 args w) rfl rfl rfl (fun F hF => ?_))
    (refine WW ?_)
    exact fin_ret [] rfl rfl rfl rfl
  rw [if_pos ⟨h1, h2⟩, if_pos ⟨h1, h2⟩]
  (refine callSim_of tok Tryz.func95 rfl (fun args w => Tryz.call95 args w) rfl rfl rfl (fun F hF => ?_))
  (refine WW ?_)
  refine sim_stale 11 rfl ?_
  (refine sim_whl (5) [11] [] [] [0, 4] rfl (fun zn T U zs => ∃ (acc : List Int) (x : Int), (0 ≤ x ∧ x < P7 zn * 128 ∧ acc ++ vbN zn x = vbN 5 n ∧ acc.length ≤ 100) ∧ zs = ⟨(0, iA x) :: (4, .ref 11 0 (acc.map yA).length) :: T, (11, .arr 1 (acc.map yA) true) :: U⟩) ?_; (conv => whnf); refine ⟨?_, ?_⟩)
  · exact ⟨[], n, ⟨h1, by show n < 34359738368 * 128; omega, rfl, by simp⟩, rfl⟩
  · rintro zn st ⟨acc, x, ⟨b1, b2, b3, b4⟩, rfl⟩
    have hla := map_len yA acc
    by_cases hx : 128 ≤ x
    · have hz : zn ≠ 0 := fun e => by
        subst e
        have : P7 0 = 1 := rfl
        omega
      obtain ⟨z, rfl⟩ : ∃ z, zn = z + 1 := ⟨zn - 1, by omega⟩
      have e := shr7 x b1
      have hP : P7 (z + 1) = 128 * P7 z := rfl
      have e2 : vbN (z + 1) x = hiB x :: vbN z (x / 128) := by
        show (if 128 ≤ x then _ else _) = _
        rw [if_pos hx]
      rw [e2] at b3
      have hm : (acc ++ [hiB x]).map yA = acc.map yA ++ [yA (hiB x)] := by simp
      have hb5 : acc ++ [hiB x] ++ vbN z (shrI x 7) = vbN 5 n := by rw [e, List.append_assoc]; exact b3
      have hx2 : 0 ≤ shrI x 7 ∧ shrI x 7 < P7 z * 128 := by rw [e]; rw [hP] at b2; omega
      have hlc : acc.length + 1 ≤ 100 := by
        have h6 := congrArg List.length b3
        have h7 := vbN_len 5 n
        simp only [List.length_append, List.length_cons] at h6
        omega
      clear e2 b3 hP
      (repeat' (first | (refine is_ops ?_; first | refine x_auto tok rfl rfl ?_ | (refine is_call ?_; fail) | (refine is_grd ?_; first | refine x_on rfl rfl ?_ | refine x_off rfl rfl rfl rfl ?_ | (refine x_gsplit rfl rfl (fun hc => ?_) (fun hc => ?_) <;> (try simp only [cmpB, decide_eq_true_eq, decide_eq_false_iff_not, beq_iff_eq, bne_iff_ne, ne_eq, Bool.not_eq_true, beq_eq_false_iff_ne, bne_eq_false_iff_eq, Int.not_lt, Int.not_le, Decidable.not_not] at hc))) | (refine is_bin ?_; first | refine x_q (stp_cmp_t rfl rfl rfl (by unfold cmpP; omega)) rfl ?_ | refine x_q (stp_cmp_f rfl rfl rfl (by unfold cmpP; omega)) rfl ?_ | refine x_q (stp_cmp rfl rfl rfl) rfl ?_ | refine x_q (stp_add rfl rfl ⟨by omega, by omega⟩) rfl ?_ | refine x_q (stp_sub rfl rfl ⟨by omega, by omega⟩) rfl ?_ | refine x_q (stp_mul rfl rfl ⟨by omega, by omega⟩) rfl ?_ | refine x_q (stp_quo rfl rfl (by assumption) (by omega)) rfl ?_ | refine x_q (stp_rem rfl rfl (by omega)) rfl ?_ | refine x_q (stp_xor rfl rfl) rfl ?_ | refine x_q (stp_shlI rfl rfl (by omega)) rfl ?_ | refine x_q (stp_shrI rfl rfl (by omega)) rfl ?_ | refine x_q (stp_shift (.inl ⟨rfl, rfl⟩) rfl rfl (by omega)) rfl ?_ | refine x_q (stp_shift (.inr ⟨rfl, rfl⟩) rfl rfl (by omega)) rfl ?_ | refine x_q (stp_bool2 tok rfl rfl rfl rfl (.inl ⟨rfl, rfl⟩)) rfl ?_ | refine x_q (stp_bool2 tok rfl rfl rfl rfl (.inr ⟨rfl, rfl⟩)) rfl ?_ | refine x_q (stp_eqlNil tok (.inl ⟨rfl, rfl⟩) rfl rfl rfl) rfl ?_ | refine x_q (stp_eqlNil_not tok (.inl ⟨rfl, rfl⟩) rfl rfl rfl rfl) rfl ?_ | refine x_q (stp_andI rfl rfl) rfl ?_ | refine x_q (stp_orI rfl rfl) rfl ?_ | refine x_q (stp_bicI rfl rfl) rfl ?_ | refine x_q (stp_strEqV rfl rfl (by assumption)) rfl ?_ | refine x_q (stp_strEq rfl rfl) rfl ?_ | refine x_q (stp_strNeV rfl rfl (by assumption)) rfl ?_ | refine x_q (stp_strNe rfl rfl) rfl ?_) | (refine is_idx ?_; first | refine x_q (stp_indexAddr_sl tok rfl rfl rfl rfl rfl (by omega) (by first | rfl | assumption) rfl rfl) rfl ?_ | refine x_q (stp_indexAddr_r0 tok rfl rfl rfl rfl rfl rfl (by omega) (by omega) rfl) rfl ?_ | refine x_q (stp_indexAddr_box tok rfl rfl rfl rfl rfl rfl (by omega) (by omega)) rfl ?_) | (refine is_load ?_; first | refine x_q (stp_load_fp1 tok rfl rfl rfl (by first | rfl | assumption) rfl) rfl ?_ | refine x_q (stp_load_fpa tok rfl rfl rfl (by first | rfl | assumption) rfl) rfl ?_ | refine x_q (stp_load_arr1 tok rfl rfl rfl rfl (by first | rfl | assumption) rfl) rfl ?_ | refine x_q (stp_load_arra tok rfl rfl rfl rfl (by first | rfl | assumption) rfl) rfl ?_) | (refine is_fad ?_; first | refine x_q (stp_fieldAddr_arr tok rfl rfl rfl rfl rfl rfl rfl rfl) rfl ?_ | refine x_q (stp_fieldAddr_fp tok rfl (by first | rfl | assumption) rfl rfl rfl rfl rfl rfl) rfl ?_) | (refine is_app ?_; first | refine x_appref0 tok rfl rfl rfl rfl rfl rfl rfl (by first | (intro y hy; cases hy; rfl) | exact map_hd _ _ (fun _ => rfl)) rfl rfl rfl (by first | omega | (simp; done) | (simp; omega)) rfl ?_ | refine x_appref tok rfl rfl rfl rfl rfl rfl rfl rfl rfl rfl rfl (by first | (intro y hy; cases hy; rfl) | exact map_hd _ _ (fun _ => rfl)) (by first | omega | (simp; done) | (simp; omega)) rfl ?_) | (refine is_un ?_; first | refine x_q (stp_neg rfl ⟨by omega, by omega⟩) rfl ?_) | (refine is_conv ?_; first | refine x_q (stp_conv_in tok rfl rfl rfl rfl ⟨by omega, by omega⟩) rfl ?_ | refine x_q (stp_conv tok rfl rfl rfl rfl) rfl ?_ | refine x_q (stp_convStr tok rfl rfl rfl rfl rfl rfl rfl (by first | rfl | assumption)) rfl ?_) | (refine is_slc ?_; first | refine x_slcL tok rfl rfl rfl rfl rfl (by first | (intro y hy; cases hy; rfl) | exact map_hd _ _ (fun _ => rfl) | (simp; done)) (by omega) (by simp; omega) (by first | exact List.map_drop.symm | rfl) rfl ?_ | refine x_slcH tok rfl rfl rfl rfl rfl (by first | (intro y hy; cases hy; rfl) | exact map_hd _ _ (fun _ => rfl) | (simp; done)) (by omega) (by simp; omega) (by first | exact List.map_take.symm | rfl) rfl ?_) | (refine is_bin ?_; refine x_q (stp_or rfl rfl) rfl ?_) | refine x_autow tok rfl rfl rfl rfl ?_ | (refine is_sto ?_; first | refine x_autos tok rfl rfl rfl ?_ | refine x_stoa tok rfl rfl rfl (by first | rfl | assumption) rfl rfl rfl rfl rfl rfl ?_ | refine x_sto1 tok rfl rfl rfl (by first | rfl | assumption) rfl rfl rfl rfl rfl rfl rfl rfl ?_) | refine x_nil ?_ | refine x_nilD (by kernel_rfl) ?_) | (first | refine sim_seq ?_ | refine x_region ?_ | refine x_draw rfl ?_ | refine sim_cond_true rfl ?_ | refine sim_cond_false rfl ?_ | (refine sim_cond rfl (fun hc => ?_) (fun hc => ?_) <;> (try simp only [cmpB, decide_eq_true_eq, decide_eq_false_iff_not, beq_iff_eq, bne_iff_ne, ne_eq, Bool.not_eq_true, beq_eq_false_iff_ne, bne_eq_false_iff_eq, Int.not_lt, Int.not_le, Decidable.not_not] at hc)) | refine sim_skip ?_ | refine sim_ret ?_ | refine sim_exit ?_ | refine sim_block ?_)))
      exact ⟨z, by omega, acc ++ [hiB x], shrI x 7, ⟨hx2.1, hx2.2, hb5, by simpa using hlc⟩, by rw [hm]; rfl⟩
    · rw [vbN_end zn x (by omega)] at b3
      rw [← b3]
      have hm : slA yA (acc ++ [x]) = .sl false ((acc.map yA ++ [yA (x)]).take (acc.map yA ++ [yA (x)]).length) := by rw [List.take_length]; unfold slA; rw [List.map_append]; rfl
      rw [hm]
      (refine WW ?_)
      exact fin_ret [] rfl rfl rfl rfl
end Av
end Go.Proofs.YtjbldhhgooihfaaGreat
