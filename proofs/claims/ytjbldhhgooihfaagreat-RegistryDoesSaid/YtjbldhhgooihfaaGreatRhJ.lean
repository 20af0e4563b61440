
/- law17: message.Valid and the reference's, for the kinds that do something. -/
import Derived.Test.YtjbldhhgooihfaaGreatRhI
namespace Go.Proofs.YtjbldhhgooihfaaGreat
namespace Av
set_option linter.unusedSimpArgs false
set_option linter.unusedVariables false
set_option maxRecDepth 4000
set_option maxHeartbeats 2000000
/-- A kind that does something, and the number of its arguments. -/
def kdP (k : Int) (f : Nat) : Prop := (k = 2 ∧ f = 3) ∨ (k = 3 ∧ f = 1) ∨ (k = 4 ∧ f = 2) ∨ (k = 5 ∧ f = 1)
def mvP (m : Ms) (f : Nat) : Prop := m.tok.length = 10 ∧ m.data = [] ∧ m.args.length = f ∧ ∀ i, i < f → nmB (m.args.getD i default) = true
theorem mvalid_x (m : Ms) (hm : MsB m) : ∃ b : Bool, CallSim Tryz.prog 25 [msA m] [] (bA b) [] ∧ ∀ f, kdP m.kind f → (b = true ↔ mvP m f) := by
  obtain ⟨xs, e, he, c, h⟩ := encode_x m hm
  rcases he with rfl | rfl
  · refine ⟨true, ?_, fun f hf => ⟨fun _ => (h f hf).1 rfl, fun _ => rfl⟩⟩
    clear h
    (refine callSim_of tok Tryz.func25 rfl (fun args w => Tryz.call25 args w) rfl rfl rfl (fun F hF => ?_))
    (have zc1 := c; refine WW ?_; clear zc1)
    exact fin_ret [] rfl rfl rfl rfl
  · refine ⟨false, ?_, fun f hf => ⟨fun h1 => absurd h1 Bool.false_ne_true, fun h1 => absurd ((h f hf).2 h1) (by decide)⟩⟩
    clear h
    (refine callSim_of tok Tryz.func25 rfl (fun args w => Tryz.call25 args w) rfl rfl rfl (fun F hF => ?_))
    (have zc1 := c; refine WW ?_; clear zc1)
    exact fin_ret [] rfl rfl rfl rfl
/-- The reference's bytes of a number. -/
def rbN : Nat → Int → List Int
  | 0, n => [n]
  | z + 1, n => if 128 ≤ n then (n % 128 + 128) :: rbN z (n / 128) else [n]
theorem rbN_len : ∀ z n, (rbN z n).length ≤ z + 1
  | 0, n => Nat.le_refl _
  | z + 1, n => by
    unfold rbN
    split
    · have := rbN_len z (n / 128)
      simp only [List.length_cons]; omega
    · simp
theorem rbN_end (z : Nat) (n : Int) (h : n < 128) : rbN z n = [n] := by
  cases z with
  | zero => rfl
  | succ z => unfold rbN; rw [if_neg (by omega)]
def szN : Nat → Int → Int
  | 0, _ => 0
  | z + 1, n => if 128 ≤ n then 1 + szN z (n / 128) else 0
theorem szN_le : ∀ z n, 0 ≤ szN z n ∧ szN z n ≤ z
  | 0, n => ⟨Int.le_refl _, Int.le_refl _⟩
  | z + 1, n => by
    unfold szN
    split
    · have := szN_le z (n / 128)
      omega
    · omega
theorem szN_end (z : Nat) (n : Int) (h : n < 128) : szN z n = 0 := by
  cases z with
  | zero => rfl
  | succ z => unfold szN; rw [if_neg (by omega)]
theorem quo128 (x : Int) (h0 : 0 ≤ x) (h1 : x ≤ 4294967295) : x.tdiv 128 = x / 128 ∧ InR .i64 (x.tdiv 128) := by
  have e := Int.tdiv_eq_ediv_of_nonneg (a := x) (b := 128) h0
  refine ⟨e, ?_⟩
  rw [e]
  exact ⟨by show (-9223372036854775808 : Int) ≤ _; omega, by show _ ≤ (9223372036854775807 : Int); omega⟩
theorem size2_c (n : Int) (h1 : 0 ≤ n) (h2 : n ≤ 4294967295) : ∃ k : Int, 1 ≤ k ∧ CallSim Tryz.prog 109 [iA n] [] (iA k) [] := by
  refine ⟨1 + szN 5 n, by have := szN_le 5 n; omega, ?_⟩
  have hs5 := szN_le 5 n
  (refine callSim_of tok Tryz.func109 rfl (fun args w => Tryz.call109 args w) rfl rfl rfl (fun F hF => ?_))
  (refine WW ?_)
  (refine sim_whl (5) [] [] [] [0, 3] rfl (fun zn T U zs => ∃ (x : Int) (k : Int), (0 ≤ x ∧ x ≤ 4294967295 ∧ x < P7 zn * 128 ∧ k + szN zn x = 1 + szN 5 n ∧ 1 ≤ k) ∧ zs = ⟨(0, iA x) :: (3, iA k) :: T, U⟩) ?_; (conv => whnf); refine ⟨?_, ?_⟩)
  · exact ⟨n, 1, ⟨h1, h2, by show n < 34359738368 * 128; omega, rfl, Int.le_refl _⟩, rfl⟩
  · rintro zn st ⟨x, k, ⟨b1, b1', b2, b3, b4⟩, rfl⟩
    by_cases hx : 128 ≤ x
    · have hz : zn ≠ 0 := fun e => by
        subst e
        have : P7 0 = 1 := rfl
        omega
      obtain ⟨z, rfl⟩ : ∃ z, zn = z + 1 := ⟨zn - 1, by omega⟩
      obtain ⟨e, hq⟩ := quo128 x b1 b1'
      have hP : P7 (z + 1) = 128 * P7 z := rfl
      have e2 : szN (z + 1) x = 1 + szN z (x / 128) := by
        show (if 128 ≤ x then _ else _) = _
        rw [if_pos hx]
      rw [e2, ← e] at b3
      have hx2 : 0 ≤ x.tdiv 128 ∧ x.tdiv 128 ≤ 4294967295 ∧ x.tdiv 128 < P7 z * 128 := by rw [e]; rw [hP] at b2; omega
      have hk6 := szN_le z (x.tdiv 128)
      clear e2 hP e b2
      (refine WW ?_)
      exact ⟨z, by omega, x.tdiv 128, k + 1, ⟨hx2.1, hx2.2.1, hx2.2.2, by omega, by omega⟩, rfl⟩
    · rw [szN_end zn x (by omega), Int.add_zero] at b3
      rw [← b3]
      (refine WW ?_)
      exact fin_ret [] rfl rfl rfl rfl
theorem enc2_c (n : Int) (h1 : 0 ≤ n) (h2 : n ≤ 4294967295) : CallSim Tryz.prog 105 [iA n] [] (.tup [slA yA (rbN 5 n), iA 0]) [] := by
  obtain ⟨k, hk, c⟩ := size2_c n h1 h2
  (refine callSim_of tok Tryz.func105 rfl (fun args w => Tryz.call105 args w) rfl rfl rfl (fun F hF => ?_))
  (have zc1 := c; refine WW ?_; clear zc1)
  refine sim_virt 4 1001 1 rfl rfl rfl ?_
  (refine sim_whl (5) [1001] [] [] [0, 4] rfl (fun zn T U zs => ∃ (acc : List Int) (x : Int), (0 ≤ x ∧ x ≤ 4294967295 ∧ x < P7 zn * 128 ∧ acc ++ rbN zn x = rbN 5 n ∧ acc.length ≤ 100) ∧ zs = ⟨(0, iA x) :: (4, .ref 1001 0 (acc.map yA).length) :: T, (1001, .arr 1 (acc.map yA) true) :: U⟩) ?_; (conv => whnf); refine ⟨?_, ?_⟩)
  · exact ⟨[], n, ⟨h1, h2, by show n < 34359738368 * 128; omega, rfl, by simp⟩, rfl⟩
  · rintro zn st ⟨acc, x, ⟨b1, b1', b2, b3, b4⟩, rfl⟩
    have hla := map_len yA acc
    by_cases hx : 128 ≤ x
    · have hz : zn ≠ 0 := fun e => by
        subst e
        have : P7 0 = 1 := rfl
        omega
      obtain ⟨z, rfl⟩ : ∃ z, zn = z + 1 := ⟨zn - 1, by omega⟩
      obtain ⟨e, hq⟩ := quo128 x b1 b1'
      have e9 := Int.tmod_eq_emod_of_nonneg (a := x) (b := 128) b1
      have hP : P7 (z + 1) = 128 * P7 z := rfl
      have e2 : rbN (z + 1) x = (x % 128 + 128) :: rbN z (x / 128) := by
        show (if 128 ≤ x then _ else _) = _
        rw [if_pos hx]
      rw [e2] at b3
      have hm : (acc ++ [x.tmod 128 + 128]).map yA = acc.map yA ++ [yA (x.tmod 128 + 128)] := by simp
      have hb5 : acc ++ [x.tmod 128 + 128] ++ rbN z (x.tdiv 128) = rbN 5 n := by rw [e, e9, List.append_assoc]; exact b3
      have hr9 : 0 ≤ x.tmod 128 ∧ x.tmod 128 ≤ 127 := by rw [e9]; omega
      have hx2 : 0 ≤ x.tdiv 128 ∧ x.tdiv 128 ≤ 4294967295 ∧ x.tdiv 128 < P7 z * 128 := by rw [e]; rw [hP] at b2; omega
      have hlc : acc.length + 1 ≤ 100 := by
        have h6 := congrArg List.length b3
        have h7 := rbN_len 5 n
        simp only [List.length_append, List.length_cons] at h6
        omega
      clear e2 b3 hP e e9
      (refine WW ?_)
      exact ⟨z, by omega, acc ++ [x.tmod 128 + 128], x.tdiv 128, ⟨hx2.1, hx2.2.1, hx2.2.2, hb5, by simpa using hlc⟩, by rw [hm]; rfl⟩
    · rw [rbN_end zn x (by omega)] at b3
      rw [← b3]
      have hm : slA yA (acc ++ [x]) = .sl false ((acc.map yA ++ [yA (x)]).take (acc.map yA ++ [yA (x)]).length) := by rw [List.take_length]; unfold slA; rw [List.map_append]; rfl
      rw [hm]
      (refine WW ?_)
      exact fin_ret [] rfl rfl rfl rfl
/-- The reference's payload after i arguments. -/
def qyN (tok args : List Int) : Nat → List Int
  | 0 => tok
  | i + 1 => qyN tok args i ++ rbN 5 (args.getD i default)
theorem qyN_len (tok args : List Int) : ∀ i, (qyN tok args i).length ≤ tok.length + 6 * i
  | 0 => by show tok.length ≤ _; omega
  | i + 1 => by
    have := qyN_len tok args i
    have h2 := rbN_len 5 (args.getD i default)
    unfold qyN
    simp only [List.length_append]; omega
def r5A (f : Int) : AV := .agg [iA f, iA 0, iA 0, iA 0, iA 0]
theorem r5of_c (k : Int) (f : Nat) (hf : kdP k f) : CallSim Tryz.prog 73 [iA k] [] (r5A f) [] := by
  rcases hf with ⟨rfl, rfl⟩ | ⟨rfl, rfl⟩ | ⟨rfl, rfl⟩ | ⟨rfl, rfl⟩
  all_goals
    (refine callSim_of tok Tryz.func73 rfl (fun args w => Tryz.call73 args w) rfl rfl rfl (fun F hF => ?_))
    (refine WW ?_)
    exact fin_ret [] rfl rfl rfl rfl
theorem r5for_c (k : Int) (h1 : 1 ≤ k) (h2 : k ≤ 12) : CallSim Tryz.prog 74 [iA k] [] (bA true) [] := by
  (refine callSim_of tok Tryz.func74 rfl (fun args w => Tryz.call74 args w) rfl rfl rfl (fun F hF => ?_))
  (refine WW ?_)
  exact fin_ret [] rfl rfl rfl rfl
theorem r5pay_c (m : Ms) (f : Nat) (hf : kdP m.kind f) (h : mvP m f) : ∃ xs : List AV, xs.length ≤ 200 ∧ CallSim Tryz.prog 75 [msA m] [] (.sl false xs) [] := by
  obtain ⟨h1, h2, h3, h4⟩ := h
  have c1 := r5of_c m.kind f hf
  have hf3 : f ≤ 3 ∧ 1 ≤ f := by unfold kdP at hf; omega
  obtain ⟨mk, tk, ar, da⟩ := m
  dsimp only at *
  subst h2
  have hQ := qyN_len tk ar
  refine ⟨((qyN tk ar f).map yA ++ []).take ((qyN tk ar f).map yA ++ []).length, by have := hQ f; simp; omega, ?_⟩
  have hlt := map_len yA tk
  have hla := map_len iA ar
  have hq0 : qyN tk ar 0 = tk := rfl
  have hqS : ∀ i : Nat, qyN tk ar (i + 1) = qyN tk ar i ++ rbN 5 (ar.getD i default) := fun _ => rfl
  generalize qyN tk ar = qy at *
  rw [show msA ⟨mk, tk, ar, []⟩ = .agg [iA mk, slA yA tk, slA iA ar, slA yA []] from rfl]
  rw [show r5A f = .agg [iA f, iA 0, iA 0, iA 0, iA 0] from rfl] at c1
  clear hf
  (refine callSim_of tok Tryz.func75 rfl (fun args w => Tryz.call75 args w) rfl rfl rfl (fun F hF => ?_))
  (repeat' (first | (refine is_ops ?_; first | refine x_auto tok rfl rfl ?_ | (refine is_call ?_; (first | (refine is_fn 73 ?_; first | refine x_q (stp_call (c1) rfl rfl rfl rfl rfl) rfl ?_ | refine x_w (stp_call (c1) rfl rfl rfl rfl rfl) rfl rfl rfl ?_ | refine x_d (stp_call (c1) rfl rfl rfl rfl rfl) rfl rfl rfl ?_))) | (refine is_grd ?_; first | refine x_on rfl rfl ?_ | refine x_off rfl rfl rfl rfl ?_ | (refine x_gsplit rfl rfl (fun hc => ?_) (fun hc => ?_) <;> (try simp only [cmpB, decide_eq_true_eq, decide_eq_false_iff_not, beq_iff_eq, bne_iff_ne, ne_eq, Bool.not_eq_true, beq_eq_false_iff_ne, bne_eq_false_iff_eq, Int.not_lt, Int.not_le, Decidable.not_not] at hc))) | (refine is_bin ?_; first | refine x_q (stp_cmp_t rfl rfl rfl (by unfold cmpP; omega)) rfl ?_ | refine x_q (stp_cmp_f rfl rfl rfl (by unfold cmpP; omega)) rfl ?_ | refine x_q (stp_cmp rfl rfl rfl) rfl ?_ | refine x_q (stp_add rfl rfl ⟨by omega, by omega⟩) rfl ?_ | refine x_q (stp_sub rfl rfl ⟨by omega, by omega⟩) rfl ?_ | refine x_q (stp_mul rfl rfl ⟨by omega, by omega⟩) rfl ?_ | refine x_q (stp_quo rfl rfl (by assumption) (by omega)) rfl ?_ | refine x_q (stp_rem rfl rfl (by omega)) rfl ?_ | refine x_q (stp_xor rfl rfl) rfl ?_ | refine x_q (stp_shlI rfl rfl (by omega)) rfl ?_ | refine x_q (stp_shrI rfl rfl (by omega)) rfl ?_ | refine x_q (stp_shift (.inl ⟨rfl, rfl⟩) rfl rfl (by omega)) rfl ?_ | refine x_q (stp_shift (.inr ⟨rfl, rfl⟩) rfl rfl (by omega)) rfl ?_ | refine x_q (stp_bool2 tok rfl rfl rfl rfl (.inl ⟨rfl, rfl⟩)) rfl ?_ | refine x_q (stp_bool2 tok rfl rfl rfl rfl (.inr ⟨rfl, rfl⟩)) rfl ?_ | refine x_q (stp_eqlNil tok (.inl ⟨rfl, rfl⟩) rfl rfl rfl) rfl ?_ | refine x_q (stp_eqlNil_not tok (.inl ⟨rfl, rfl⟩) rfl rfl rfl rfl) rfl ?_ | refine x_q (stp_andI rfl rfl) rfl ?_ | refine x_q (stp_orI rfl rfl) rfl ?_ | refine x_q (stp_bicI rfl rfl) rfl ?_ | refine x_q (stp_strEqV rfl rfl (by assumption)) rfl ?_ | refine x_q (stp_strEq rfl rfl) rfl ?_ | refine x_q (stp_strNeV rfl rfl (by assumption)) rfl ?_ | refine x_q (stp_strNe rfl rfl) rfl ?_) | (refine is_idx ?_; first | refine x_q (stp_indexAddr_sl tok rfl rfl rfl rfl rfl (by omega) (by first | rfl | assumption) rfl rfl) rfl ?_ | refine x_q (stp_indexAddr_r0 tok rfl rfl rfl rfl rfl rfl (by omega) (by omega) rfl) rfl ?_ | refine x_q (stp_indexAddr_box tok rfl rfl rfl rfl rfl rfl (by omega) (by omega)) rfl ?_) | (refine is_load ?_; first | refine x_q (stp_load_fp1 tok rfl rfl rfl (by first | rfl | assumption) rfl) rfl ?_ | refine x_q (stp_load_fpa tok rfl rfl rfl (by first | rfl | assumption) rfl) rfl ?_ | refine x_q (stp_load_arr1 tok rfl rfl rfl rfl (by first | rfl | assumption) rfl) rfl ?_ | refine x_q (stp_load_arra tok rfl rfl rfl rfl (by first | rfl | assumption) rfl) rfl ?_) | (refine is_fad ?_; first | refine x_q (stp_fieldAddr_arr tok rfl rfl rfl rfl rfl rfl rfl rfl) rfl ?_ | refine x_q (stp_fieldAddr_fp tok rfl (by first | rfl | assumption) rfl rfl rfl rfl rfl rfl) rfl ?_) | (refine is_app ?_; first | refine x_appref0 tok rfl rfl rfl rfl rfl rfl rfl (by first | (intro y hy; cases hy; rfl) | exact map_hd _ _ (fun _ => rfl)) rfl rfl rfl (by first | omega | (simp; done) | (simp; omega)) rfl ?_ | refine x_appref tok rfl rfl rfl rfl rfl rfl rfl rfl rfl rfl rfl (by first | (intro y hy; cases hy; rfl) | exact map_hd _ _ (fun _ => rfl)) (by first | omega | (simp; done) | (simp; omega)) rfl ?_) | (refine is_un ?_; first | refine x_q (stp_neg rfl ⟨by omega, by omega⟩) rfl ?_) | (refine is_conv ?_; first | refine x_q (stp_conv_in tok rfl rfl rfl rfl ⟨by omega, by omega⟩) rfl ?_ | refine x_q (stp_conv tok rfl rfl rfl rfl) rfl ?_ | refine x_q (stp_convStr tok rfl rfl rfl rfl rfl rfl rfl (by first | rfl | assumption)) rfl ?_) | (refine is_slc ?_; first | refine x_slcL tok rfl rfl rfl rfl rfl (by first | (intro y hy; cases hy; rfl) | exact map_hd _ _ (fun _ => rfl) | (simp; done)) (by omega) (by simp; omega) (by first | exact List.map_drop.symm | rfl) rfl ?_ | refine x_slcH tok rfl rfl rfl rfl rfl (by first | (intro y hy; cases hy; rfl) | exact map_hd _ _ (fun _ => rfl) | (simp; done)) (by omega) (by simp; omega) (by first | exact List.map_take.symm | rfl) rfl ?_) | (refine is_app ?_; refine x_appnilK 1001 tok rfl rfl rfl rfl rfl rfl (map_hd _ _ (fun _ => rfl)) rfl rfl rfl (by omega) rfl rfl rfl ?_) | refine x_autow tok rfl rfl rfl rfl ?_ | (refine is_sto ?_; first | refine x_autos tok rfl rfl rfl ?_ | refine x_stoa tok rfl rfl rfl (by first | rfl | assumption) rfl rfl rfl rfl rfl rfl ?_ | refine x_sto1 tok rfl rfl rfl (by first | rfl | assumption) rfl rfl rfl rfl rfl rfl rfl rfl ?_) | refine x_nil ?_ | refine x_nilD (by kernel_rfl) ?_) | (first | refine sim_seq ?_ | refine x_region ?_ | refine x_draw rfl ?_ | refine sim_cond_true rfl ?_ | refine sim_cond_false rfl ?_ | (refine sim_cond rfl (fun hc => ?_) (fun hc => ?_) <;> (try simp only [cmpB, decide_eq_true_eq, decide_eq_false_iff_not, beq_iff_eq, bne_iff_ne, ne_eq, Bool.not_eq_true, beq_eq_false_iff_ne, bne_eq_false_iff_eq, Int.not_lt, Int.not_le, Decidable.not_not] at hc)) | refine sim_skip ?_ | refine sim_ret ?_ | refine sim_exit ?_ | refine sim_block ?_)))
  refine sim_stale 1001 rfl ?_
  (refine sim_cntP (ar.length) [1001, 1, 3] [1, 3] [1, 3, 16, 17] [4, 18, 1, 3, 16, 17] rfl (fun i T U zs => (i ≤ ar.length) ∧ zs = ⟨(4, .ref 1001 0 ((qy i).map yA).length) :: (18, iA i) :: T, (1001, .arr 1 ((qy i).map yA) true) :: U⟩) ?_; (conv => whnf); refine ⟨?_, ?_, ?_⟩)
  · refine ⟨Nat.zero_le _, ?_⟩
    rw [hq0]; rfl
  · rintro i st' hi ⟨hik, rfl⟩
    have hn := h4 i (by omega)
    unfold nmB at hn
    rw [decide_eq_true_eq] at hn
    have cv := enc2_c (ar.getD i default) hn.1 hn.2
    have hy := map_at iA ar i hi
    have hbl := hQ i
    have hlp := map_len yA (qy i)
    have hlv := map_len yA (rbN 5 (ar.getD i default))
    have hvv := rbN_len 5 (ar.getD i default)
    have hmS : (qy (i + 1)).map yA = (qy i).map yA ++ (rbN 5 (ar.getD i default)).map yA := by rw [hqS, List.map_append]
    rw [hmS]
    clear hqS hQ hq0 hmS c1 hn h4
    generalize (qy i).map yA = A at *
    generalize rbN 5 (ar.getD i default) = V at *
    generalize ar.getD i default = a at *
    (have zc1 := cv; refine WW ?_; clear zc1)
    exact ⟨by omega, rfl⟩
  · rintro st' ⟨hik, rfl⟩
    subst h3
    have hbl := hQ ar.length
    have hlp := map_len yA (qy ar.length)
    clear hqS hQ hq0 h4 c1
    generalize (qy ar.length).map yA = A at *
    have hl0 : (([] : List Int).map yA).length = 0 := rfl
    (refine WW ?_)
    exact fin_ret [] rfl rfl rfl rfl
theorem r5valid_x (m : Ms) (hm : MsB m) (f : Nat) (hf : kdP m.kind f) : ∃ b : Bool, CallSim Tryz.prog 34 [msA m] [] (bA b) [] ∧ (b = true ↔ mvP m f) := by
  have c1 := r5of_c m.kind f hf
  have hk : 2 ≤ m.kind ∧ m.kind ≤ 5 := by unfold kdP at hf; omega
  have c2 := r5for_c m.kind (by omega) (by omega)
  have cp := r5pay_c m f hf
  have b1 := hm.t
  have b2 := hm.a
  have b3 := hm.d
  have hlt := map_len yA m.tok
  have hla := map_len iA m.args
  have hld := map_len yA m.data
  have hf3 : f ≤ 3 ∧ 1 ≤ f := by unfold kdP at hf; omega
  rw [show r5A f = .agg [iA f, iA 0, iA 0, iA 0, iA 0] from rfl] at c1
  by_cases h1 : m.tok.length = 10
  case neg =>
    refine ⟨false, ?_, fun h => absurd h Bool.false_ne_true, fun h => absurd h.1 h1⟩
    clear cp
    (refine callSim_of tok Tryz.func34 rfl (fun args w => Tryz.call34 args w) rfl rfl rfl (fun F hF => ?_))
    (have zc1 := c1; have zc2 := c2; refine WW ?_; clear zc1 zc2)
    exact fin_ret [] rfl rfl rfl rfl
  by_cases h2 : m.args.length = f
  case neg =>
    refine ⟨false, ?_, fun h => absurd h Bool.false_ne_true, fun h => absurd h.2.2.1 h2⟩
    clear cp
    (refine callSim_of tok Tryz.func34 rfl (fun args w => Tryz.call34 args w) rfl rfl rfl (fun F hF => ?_))
    (have zc1 := c1; have zc2 := c2; refine WW ?_; clear zc1 zc2)
    exact fin_ret [] rfl rfl rfl rfl
  by_cases h3 : m.data.length = 0
  case neg =>
    refine ⟨false, ?_, fun h => absurd h Bool.false_ne_true, fun h => absurd (by rw [h.2.1]; rfl) h3⟩
    clear cp
    (refine callSim_of tok Tryz.func34 rfl (fun args w => Tryz.call34 args w) rfl rfl rfl (fun F hF => ?_))
    (have zc1 := c1; have zc2 := c2; refine WW ?_; clear zc1 zc2)
    exact fin_ret [] rfl rfl rfl rfl
  have h3 := List.eq_nil_of_length_eq_zero h3
  rcases loopN m.args m.args.length (Nat.le_refl _) with ⟨k, hk1, hk2, hk3⟩ | hall
  · refine ⟨false, ?_, fun h => absurd h Bool.false_ne_true, fun h => ?_⟩
    case refine_2 =>
      have := h.2.2.2 k (by omega)
      rw [hk2] at this
      cases this
    clear cp
    (refine callSim_of tok Tryz.func34 rfl (fun args w => Tryz.call34 args w) rfl rfl rfl (fun F hF => ?_))
    (have zc1 := c1; have zc2 := c2; refine WW ?_; clear zc1 zc2)
    (refine sim_cntP (m.args.length) [1] [1] [1, 97, 98] [99, 1, 97, 98] rfl (fun i T U zs => (i ≤ k) ∧ zs = ⟨(99, iA i) :: T, U⟩) ?_; (conv => whnf); refine ⟨?_, ?_, ?_⟩)
    · exact ⟨Nat.zero_le _, rfl⟩
    · rintro i st' hi ⟨hik, rfl⟩
      have hy := map_at iA m.args i hi
      by_cases e : i = k
      · subst e
        unfold nmB at hk2
        rw [decide_eq_false_iff_not] at hk2
        generalize m.args.getD i default = a at *
        by_cases g1 : 0 ≤ a
        · have g2 : ¬ a ≤ 4294967295 := fun h => hk2 ⟨g1, h⟩
          clear hk2
          (refine WW ?_)
          exact fin_ret [] rfl rfl rfl rfl
        · clear hk2
          (refine WW ?_)
          exact fin_ret [] rfl rfl rfl rfl
      · have hn := hk3 i (by omega)
        unfold nmB at hn
        rw [decide_eq_true_eq] at hn
        obtain ⟨hn1, hn2⟩ := hn
        clear hk2 hk3
        generalize m.args.getD i default = a at *
        (refine WW ?_)
        exact ⟨by omega, rfl⟩
    · rintro st' ⟨hik, rfl⟩
      exfalso; omega
  · have hok : mvP m f := ⟨h1, h3, h2, fun i hi => hall i (by omega)⟩
    obtain ⟨xs, hx, c3⟩ := cp hok
    refine ⟨true, ?_, fun _ => hok, fun _ => rfl⟩
    clear hok cp
    rw [show msA m = .agg [iA m.kind, slA yA m.tok, slA iA m.args, slA yA m.data] from rfl] at *
    (refine callSim_of tok Tryz.func34 rfl (fun args w => Tryz.call34 args w) rfl rfl rfl (fun F hF => ?_))
    (have zc1 := c1; have zc2 := c2; refine WW ?_; clear zc1 zc2)
    (refine sim_cnt (m.args.length) [1] [1] [1, 97, 98] [99, 1, 97, 98] rfl (fun i T U => ⟨(99, iA i) :: T, U⟩) ?_; (conv => whnf); refine ⟨by rfl, ?_, ?_⟩)
    · intro i hi
      have hy := map_at iA m.args i hi
      have hn := hall i hi
      unfold nmB at hn
      rw [decide_eq_true_eq] at hn
      obtain ⟨hn1, hn2⟩ := hn
      clear hall
      generalize m.args.getD i default = a at *
      (refine WW ?_)
      rfl
    · (have zc1 := c3; refine WW ?_; clear zc1)
      exact fin_ret [] rfl rfl rfl rfl
end Av
end Go.Proofs.YtjbldhhgooihfaaGreat
