
/- law17: a registry that is valid; the sanity check. -/
import Derived.Test.YtjbldhhgooihfaaGreatRgV
namespace Go.Proofs.YtjbldhhgooihfaaGreat
namespace Av
set_option linter.unusedSimpArgs false
set_option linter.unusedVariables false
set_option maxRecDepth 4000
set_option maxHeartbeats 1000000
def inF (n a b : Int) : Bool := decide (a ≤ n ∧ n ≤ b)
theorem pwithin_c (n a b : Int) : CallSim Tryz.prog 88 [iA n, iA a, iA b] [] (bA (inF n a b)) [] := by
  (cases hb : inF n a b with | false => ((refine callSim_of tok Tryz.func88 rfl (fun args w => Tryz.call88 args w) rfl rfl rfl (fun F hF => ?_)); ((repeat' (first | (refine is_ops ?_; first | refine x_auto tok rfl rfl ?_ | (refine is_call ?_; fail) | (refine is_grd ?_; first | refine x_on rfl rfl ?_ | refine x_off rfl rfl rfl rfl ?_ | (refine x_gsplit rfl rfl (fun hc => ?_) (fun hc => ?_) <;> (try simp only [cmpB, decide_eq_true_eq, decide_eq_false_iff_not, beq_iff_eq, bne_iff_ne, ne_eq, Bool.not_eq_true, beq_eq_false_iff_ne, bne_eq_false_iff_eq, Int.not_lt, Int.not_le, Decidable.not_not] at hc))) | (refine is_bin ?_; first | refine x_q (stp_cmp_t rfl rfl rfl (by unfold cmpP; omega)) rfl ?_ | refine x_q (stp_cmp_f rfl rfl rfl (by unfold cmpP; omega)) rfl ?_ | refine x_q (stp_cmp rfl rfl rfl) rfl ?_ | refine x_q (stp_add rfl rfl ⟨by omega, by omega⟩) rfl ?_ | refine x_q (stp_sub rfl rfl ⟨by omega, by omega⟩) rfl ?_ | refine x_q (stp_mul rfl rfl ⟨by omega, by omega⟩) rfl ?_ | refine x_q (stp_quo rfl rfl (by assumption) (by omega)) rfl ?_ | refine x_q (stp_rem rfl rfl (by omega)) rfl ?_ | refine x_q (stp_xor rfl rfl) rfl ?_ | refine x_q (stp_shlI rfl rfl (by omega)) rfl ?_ | refine x_q (stp_shrI rfl rfl (by omega)) rfl ?_ | refine x_q (stp_shift (.inl ⟨rfl, rfl⟩) rfl rfl (by omega)) rfl ?_ | refine x_q (stp_shift (.inr ⟨rfl, rfl⟩) rfl rfl (by omega)) rfl ?_ | refine x_q (stp_bool2 tok rfl rfl rfl rfl (.inl ⟨rfl, rfl⟩)) rfl ?_ | refine x_q (stp_bool2 tok rfl rfl rfl rfl (.inr ⟨rfl, rfl⟩)) rfl ?_ | refine x_q (stp_eqlNil tok (.inl ⟨rfl, rfl⟩) rfl rfl rfl) rfl ?_ | refine x_q (stp_eqlNil_not tok (.inl ⟨rfl, rfl⟩) rfl rfl rfl rfl) rfl ?_ | refine x_q (stp_andI rfl rfl) rfl ?_ | refine x_q (stp_orI rfl rfl) rfl ?_ | refine x_q (stp_bicI rfl rfl) rfl ?_ | refine x_q (stp_strEqV rfl rfl (by assumption)) rfl ?_ | refine x_q (stp_strEq rfl rfl) rfl ?_ | refine x_q (stp_strNeV rfl rfl (by assumption)) rfl ?_ | refine x_q (stp_strNe rfl rfl) rfl ?_) | (refine is_idx ?_; first | refine x_q (stp_indexAddr_sl tok rfl rfl rfl rfl rfl (by omega) (by first | rfl | assumption) rfl rfl) rfl ?_ | refine x_q (stp_indexAddr_r0 tok rfl rfl rfl rfl rfl rfl (by omega) (by omega) rfl) rfl ?_ | refine x_q (stp_indexAddr_box tok rfl rfl rfl rfl rfl rfl (by omega) (by omega)) rfl ?_) | (refine is_load ?_; first | refine x_q (stp_load_fp1 tok rfl rfl rfl (by first | rfl | assumption) rfl) rfl ?_ | refine x_q (stp_load_fpa tok rfl rfl rfl (by first | rfl | assumption) rfl) rfl ?_ | refine x_q (stp_load_arr1 tok rfl rfl rfl rfl (by first | rfl | assumption) rfl) rfl ?_ | refine x_q (stp_load_arra tok rfl rfl rfl rfl (by first | rfl | assumption) rfl) rfl ?_) | (refine is_fad ?_; first | refine x_q (stp_fieldAddr_arr tok rfl rfl rfl rfl rfl rfl rfl rfl) rfl ?_ | refine x_q (stp_fieldAddr_fp tok rfl (by first | rfl | assumption) rfl rfl rfl rfl rfl rfl) rfl ?_) | (refine is_app ?_; first | refine x_appref0 tok rfl rfl rfl rfl rfl rfl rfl (by first | (intro y hy; cases hy; rfl) | exact map_hd _ _ (fun _ => rfl)) rfl rfl rfl (by first | omega | (simp; done) | (simp; omega)) rfl ?_ | refine x_appref tok rfl rfl rfl rfl rfl rfl rfl rfl rfl rfl rfl (by first | (intro y hy; cases hy; rfl) | exact map_hd _ _ (fun _ => rfl)) (by first | omega | (simp; done) | (simp; omega)) rfl ?_) | (refine is_un ?_; first | refine x_q (stp_neg rfl ⟨by omega, by omega⟩) rfl ?_) | (refine is_conv ?_; first | refine x_q (stp_conv_in tok rfl rfl rfl rfl ⟨by omega, by omega⟩) rfl ?_ | refine x_q (stp_conv tok rfl rfl rfl rfl) rfl ?_ | refine x_q (stp_convStr tok rfl rfl rfl rfl rfl rfl rfl (by first | rfl | assumption)) rfl ?_) | (refine is_slc ?_; first | refine x_slcL tok rfl rfl rfl rfl rfl (by first | (intro y hy; cases hy; rfl) | exact map_hd _ _ (fun _ => rfl) | (simp; done)) (by omega) (by simp; omega) (by first | exact List.map_drop.symm | rfl) rfl ?_ | refine x_slcH tok rfl rfl rfl rfl rfl (by first | (intro y hy; cases hy; rfl) | exact map_hd _ _ (fun _ => rfl) | (simp; done)) (by omega) (by simp; omega) (by first | exact List.map_take.symm | rfl) rfl ?_) | (refine is_mks ?_; refine x_mks tok rfl rfl rfl rfl rfl rfl rfl rfl rfl rfl rfl rfl rfl (by omega) (by omega) rfl rfl rfl ?_) | refine x_autow tok rfl rfl rfl rfl ?_ | (refine is_sto ?_; first | refine x_autos tok rfl rfl rfl ?_ | refine x_stoa tok rfl rfl rfl (by first | rfl | assumption) rfl rfl rfl rfl rfl rfl ?_ | refine x_sto1 tok rfl rfl rfl (by first | rfl | assumption) rfl rfl rfl rfl rfl rfl rfl rfl ?_) | refine x_nil ?_ | refine x_nilD (by kernel_rfl) ?_) | (first | refine sim_seq ?_ | refine x_region ?_ | refine x_draw rfl ?_ | refine sim_cond_true rfl ?_ | refine sim_cond_false rfl ?_ | (refine sim_cond rfl (fun hc => ?_) (fun hc => ?_) <;> (try simp only [cmpB, decide_eq_true_eq, decide_eq_false_iff_not, beq_iff_eq, bne_iff_ne, ne_eq, Bool.not_eq_true, beq_eq_false_iff_ne, bne_eq_false_iff_eq, Int.not_lt, Int.not_le, Decidable.not_not] at hc)) | refine sim_skip ?_ | refine sim_ret ?_ | refine sim_exit ?_ | refine sim_block ?_)))); all_goals (first | exact fin_ret [] rfl rfl rfl rfl | (simp only [inF, decide_eq_false_iff_not] at hb; first | (exfalso; omega) | (apply fin_bool; (exact fin_ret [] rfl rfl rfl rfl); simp only [cmpB, decide_eq_false_iff_not, decide_eq_true_eq, beq_eq_false_iff_ne, bne_eq_false_iff_eq, beq_iff_eq, bne_iff_ne, ne_eq]; omega)))) | true => (simp only [inF, decide_eq_true_eq] at hb; (refine callSim_of tok Tryz.func88 rfl (fun args w => Tryz.call88 args w) rfl rfl rfl (fun F hF => ?_)); ((repeat' (first | (refine is_ops ?_; first | refine x_auto tok rfl rfl ?_ | (refine is_call ?_; fail) | (refine is_grd ?_; first | refine x_on rfl rfl ?_ | refine x_off rfl rfl rfl rfl ?_ | (refine x_gsplit rfl rfl (fun hc => ?_) (fun hc => ?_) <;> (try simp only [cmpB, decide_eq_true_eq, decide_eq_false_iff_not, beq_iff_eq, bne_iff_ne, ne_eq, Bool.not_eq_true, beq_eq_false_iff_ne, bne_eq_false_iff_eq, Int.not_lt, Int.not_le, Decidable.not_not] at hc))) | (refine is_bin ?_; first | refine x_q (stp_cmp_t rfl rfl rfl (by unfold cmpP; omega)) rfl ?_ | refine x_q (stp_cmp_f rfl rfl rfl (by unfold cmpP; omega)) rfl ?_ | refine x_q (stp_cmp rfl rfl rfl) rfl ?_ | refine x_q (stp_add rfl rfl ⟨by omega, by omega⟩) rfl ?_ | refine x_q (stp_sub rfl rfl ⟨by omega, by omega⟩) rfl ?_ | refine x_q (stp_mul rfl rfl ⟨by omega, by omega⟩) rfl ?_ | refine x_q (stp_quo rfl rfl (by assumption) (by omega)) rfl ?_ | refine x_q (stp_rem rfl rfl (by omega)) rfl ?_ | refine x_q (stp_xor rfl rfl) rfl ?_ | refine x_q (stp_shlI rfl rfl (by omega)) rfl ?_ | refine x_q (stp_shrI rfl rfl (by omega)) rfl ?_ | refine x_q (stp_shift (.inl ⟨rfl, rfl⟩) rfl rfl (by omega)) rfl ?_ | refine x_q (stp_shift (.inr ⟨rfl, rfl⟩) rfl rfl (by omega)) rfl ?_ | refine x_q (stp_bool2 tok rfl rfl rfl rfl (.inl ⟨rfl, rfl⟩)) rfl ?_ | refine x_q (stp_bool2 tok rfl rfl rfl rfl (.inr ⟨rfl, rfl⟩)) rfl ?_ | refine x_q (stp_eqlNil tok (.inl ⟨rfl, rfl⟩) rfl rfl rfl) rfl ?_ | refine x_q (stp_eqlNil_not tok (.inl ⟨rfl, rfl⟩) rfl rfl rfl rfl) rfl ?_ | refine x_q (stp_andI rfl rfl) rfl ?_ | refine x_q (stp_orI rfl rfl) rfl ?_ | refine x_q (stp_bicI rfl rfl) rfl ?_ | refine x_q (stp_strEqV rfl rfl (by assumption)) rfl ?_ | refine x_q (stp_strEq rfl rfl) rfl ?_ | refine x_q (stp_strNeV rfl rfl (by assumption)) rfl ?_ | refine x_q (stp_strNe rfl rfl) rfl ?_) | (refine is_idx ?_; first | refine x_q (stp_indexAddr_sl tok rfl rfl rfl rfl rfl (by omega) (by first | rfl | assumption) rfl rfl) rfl ?_ | refine x_q (stp_indexAddr_r0 tok rfl rfl rfl rfl rfl rfl (by omega) (by omega) rfl) rfl ?_ | refine x_q (stp_indexAddr_box tok rfl rfl rfl rfl rfl rfl (by omega) (by omega)) rfl ?_) | (refine is_load ?_; first | refine x_q (stp_load_fp1 tok rfl rfl rfl (by first | rfl | assumption) rfl) rfl ?_ | refine x_q (stp_load_fpa tok rfl rfl rfl (by first | rfl | assumption) rfl) rfl ?_ | refine x_q (stp_load_arr1 tok rfl rfl rfl rfl (by first | rfl | assumption) rfl) rfl ?_ | refine x_q (stp_load_arra tok rfl rfl rfl rfl (by first | rfl | assumption) rfl) rfl ?_) | (refine is_fad ?_; first | refine x_q (stp_fieldAddr_arr tok rfl rfl rfl rfl rfl rfl rfl rfl) rfl ?_ | refine x_q (stp_fieldAddr_fp tok rfl (by first | rfl | assumption) rfl rfl rfl rfl rfl rfl) rfl ?_) | (refine is_app ?_; first | refine x_appref0 tok rfl rfl rfl rfl rfl rfl rfl (by first | (intro y hy; cases hy; rfl) | exact map_hd _ _ (fun _ => rfl)) rfl rfl rfl (by first | omega | (simp; done) | (simp; omega)) rfl ?_ | refine x_appref tok rfl rfl rfl rfl rfl rfl rfl rfl rfl rfl rfl (by first | (intro y hy; cases hy; rfl) | exact map_hd _ _ (fun _ => rfl)) (by first | omega | (simp; done) | (simp; omega)) rfl ?_) | (refine is_un ?_; first | refine x_q (stp_neg rfl ⟨by omega, by omega⟩) rfl ?_) | (refine is_conv ?_; first | refine x_q (stp_conv_in tok rfl rfl rfl rfl ⟨by omega, by omega⟩) rfl ?_ | refine x_q (stp_conv tok rfl rfl rfl rfl) rfl ?_ | refine x_q (stp_convStr tok rfl rfl rfl rfl rfl rfl rfl (by first | rfl | assumption)) rfl ?_) | (refine is_slc ?_; first | refine x_slcL tok rfl rfl rfl rfl rfl (by first | (intro y hy; cases hy; rfl) | exact map_hd _ _ (fun _ => rfl) | (simp; done)) (by omega) (by simp; omega) (by first | exact List.map_drop.symm | rfl) rfl ?_ | refine x_slcH tok rfl rfl rfl rfl rfl (by first | (intro y hy; cases hy; rfl) | exact map_hd _ _ (fun _ => rfl) | (simp; done)) (by omega) (by simp; omega) (by first | exact List.map_take.symm | rfl) rfl ?_) | (refine is_mks ?_; refine x_mks tok rfl rfl rfl rfl rfl rfl rfl rfl rfl rfl rfl rfl rfl (by omega) (by omega) rfl rfl rfl ?_) | refine x_autow tok rfl rfl rfl rfl ?_ | (refine is_sto ?_; first | refine x_autos tok rfl rfl rfl ?_ | refine x_stoa tok rfl rfl rfl (by first | rfl | assumption) rfl rfl rfl rfl rfl rfl ?_ | refine x_sto1 tok rfl rfl rfl (by first | rfl | assumption) rfl rfl rfl rfl rfl rfl rfl rfl ?_) | refine x_nil ?_ | refine x_nilD (by kernel_rfl) ?_) | (first | refine sim_seq ?_ | refine x_region ?_ | refine x_draw rfl ?_ | refine sim_cond_true rfl ?_ | refine sim_cond_false rfl ?_ | (refine sim_cond rfl (fun hc => ?_) (fun hc => ?_) <;> (try simp only [cmpB, decide_eq_true_eq, decide_eq_false_iff_not, beq_iff_eq, bne_iff_ne, ne_eq, Bool.not_eq_true, beq_eq_false_iff_ne, bne_eq_false_iff_eq, Int.not_lt, Int.not_le, Decidable.not_not] at hc)) | refine sim_skip ?_ | refine sim_ret ?_ | refine sim_exit ?_ | refine sim_block ?_)))); all_goals (first | exact fin_ret [] rfl rfl rfl rfl | (exfalso; omega) | (apply fin_bool; (exact fin_ret [] rfl rfl rfl rfl); simp only [cmpB, decide_eq_false_iff_not, decide_eq_true_eq, beq_eq_false_iff_ne, bne_eq_false_iff_eq, beq_iff_eq, bne_iff_ne, ne_eq]; omega))))
/-- An agency that is valid. -/
structure AgV (a : Ag) : Prop where
  s : (a.sec.length : Int) = 8
  l : (a.lim.length : Int) = 4
  li : ∀ n ∈ a.lim, 0 ≤ n ∧ n ≤ 8
  r : 0 ≤ a.rights ∧ a.rights ≤ 63
  c : 0 ≤ a.cls ∧ a.cls ≤ 3
  q : 0 ≤ a.req ∧ a.req ≤ 4
  e : 1 ≤ a.ses ∧ a.ses ≤ 2
  b : 0 ≤ a.burst ∧ a.burst ≤ 1000
  t : 0 ≤ a.rate ∧ a.rate ≤ a.burst
theorem inF_t {n a b : Int} (h : a ≤ n ∧ n ≤ b) : inF n a b = true := decide_eq_true h
theorem pagency_c (a : Ag) (h : AgV a) : CallSim Tryz.prog 49 [agA a] [] (bA true) [] := by
  obtain ⟨h1, h2, h3, h4, h5, h6, h7, h8, h9⟩ := h
  have hs := map_len yA a.sec
  have hl := map_len iA a.lim
  have c1 := pwithin_c a.rights 0 63
  have c2 := pwithin_c a.cls 0 3
  have c3 := pwithin_c a.req 0 4
  have c4 := pwithin_c a.ses 1 2
  have c5 := pwithin_c a.burst 0 1000
  have c6 := pwithin_c a.rate 0 a.burst
  rw [inF_t (by omega)] at c1 c2 c3 c4 c5 c6
  (refine callSim_of tok Tryz.func49 rfl (fun args w => Tryz.call49 args w) rfl rfl rfl (fun F hF => ?_))
  (refine WW ?_)
  (refine sim_rng (a.lim) [1] [1] [1, 16, 17] [18, 1, 16, 17] rfl (fun i pre T U => ⟨(18, iA i) :: T, U⟩) ?_; (conv => whnf); refine ⟨by rfl, ?_, ?_⟩)
  · intro i pre x post hx hi
    have hy := rng_at iA hx hi
    have hlt := rng_lt hx hi
    have hm := h3 x (rng_mem hx)
    have c := pwithin_c x 0 8
    rw [inF_t (by omega)] at c
    clear hx
    (have zc1 := c; refine WW ?_; clear zc1)
    rfl
  · (have zc1 := c1; have zc2 := c2; have zc3 := c3; have zc4 := c4; have zc5 := c5; have zc6 := c6; refine WW ?_; clear zc1 zc2 zc3 zc4 zc5 zc6)
    exact fin_ret [] rfl rfl rfl rfl
theorem vvalid_nil : CallSim Tryz.prog 51 [slA vhA []] [] (bA true) [] := by
  (refine callSim_of tok Tryz.func51 rfl (fun args w => Tryz.call51 args w) rfl rfl rfl (fun F hF => ?_))
  (refine WW ?_)
  (refine sim_rng (([] : List Vh)) [] [] [0, 8, 9] [10, 0, 8, 9] rfl (fun i pre T U => ⟨(10, iA i) :: T, U⟩) ?_; (conv => whnf); refine ⟨by rfl, ?_, ?_⟩)
  · intro i pre x post hx hi
    simp at hx
  · (refine WW ?_)
    exact fin_ret [] rfl rfl rfl rfl
theorem gvalid_t (r : Rg) (hn : 0 ≤ r.num ∧ r.num < 4) (ha : AgV r.ag) (ht : tvF r.tk = true) (hv : r.vh = []) (hb : bvF r.bk = true) (hr : r.bk.rate = r.ag.rate) (hu : r.bk.burst = r.ag.burst) : CallSim Tryz.prog 19 [rgA r] [] (bA true) [] := by
  have c1 := pagency_c r.ag ha
  have c2 := tvalid_c r.tk
  rw [ht] at c2
  have c3 := vvalid_nil
  rw [← hv] at c3
  have c4 := bvalid_c r.bk
  rw [hb] at c4
  (refine callSim_of tok Tryz.func19 rfl (fun args w => Tryz.call19 args w) rfl rfl rfl (fun F hF => ?_))
  (have zc1 := c1; have zc2 := c2; have zc3 := c3; have zc4 := c4; refine WW ?_; clear zc1 zc2 zc3 zc4)
  all_goals (first | exact fin_ret [] rfl rfl rfl rfl | (apply fin_bool; (exact fin_ret [] rfl rfl rfl rfl); simp only [cmpB, decide_eq_false_iff_not, decide_eq_true_eq, beq_eq_false_iff_ne, bne_eq_false_iff_eq, beq_iff_eq, bne_iff_ne, ne_eq]; omega))
theorem tvF_new (a : Ag) (h : AgV a) : tvF (tkN a) = true := by
  obtain ⟨h1, h2, h3, h4, h5, h6, h7, h8, h9⟩ := h
  have hrv : rvF a.rights = true := decide_eq_true h4
  have hs2 : so2F ⟨true, a.sec, -1, a.rights, a.cls, 0⟩ = true := decide_eq_true ⟨h1, h5.1, h5.2, (show (0 : Int) ≤ 0 by omega), (show (0 : Int) ≤ 2147483648 by omega)⟩
  unfold tvF
  have hroot : rootF ((tkN a).getD 0 default) = true := by
    show (true && decide ((-1 : Int) = -1 ∧ (0 : Int) = 0) && (rvF a.rights && so2F ⟨true, a.sec, -1, a.rights, a.cls, 0⟩)) = true
    rw [hrv, hs2]; rfl
  rw [hroot]
  rfl
def a0 : Ag := ⟨secF 1, 1, 0, [1, 1, 1, 1], 0, 1, 0, 2⟩
theorem secF_len (n : Int) : (secF n).length = 8 := by simp [secF]
theorem wrap_by (n : Int) : 0 ≤ IntKind.u8.wrap n ∧ IntKind.u8.wrap n < 256 := by
  have : IntKind.u8.wrap n = n % 256 := rfl
  omega
theorem secF_by (n : Int) : BY (secF n) := fun x hx => by
  unfold secF at hx
  rw [List.mem_map] at hx
  obtain ⟨i, _, rfl⟩ := hx
  exact wrap_by _
theorem by_tok {g s : Int} {l : List Int} (hg : 0 ≤ g ∧ g < 256) (hs : 0 ≤ s ∧ s < 256) (hl : BY l) : BY (g :: s :: l) := fun x hx => by
  simp only [List.mem_cons] at hx
  rcases hx with rfl | rfl | hx
  · exact hg
  · exact hs
  · exact hl x hx
theorem rgN_b (n : Int) (a : Ag) (h : AgV a) : RgB (rgN n a) := by
  have h1 := h.s
  have h2 := h.l
  refine ⟨⟨by simp [rgN, tkN], fun t ht => ?_⟩, by unfold rgN; dsimp only; omega, by unfold rgN; dsimp only; omega, by simp [rgN]⟩
  simp only [rgN, tkN, List.mem_cons] at ht
  rcases ht with rfl | ht
  · dsimp only; omega
  · rw [List.eq_of_mem_replicate ht]; simp [frT]
theorem awake17_c : CallSim Tryz.prog 5 [] [] (bA true) [] := by
  have hv : AgV a0 := ⟨by rw [show a0.sec = secF 1 from rfl, secF_len]; rfl, rfl, by decide, by decide, by decide, by decide, by decide, by decide, by decide⟩
  have hb := rgN_b 0 a0 hv
  have c1 := secret_c 1
  have c2 := gnew_c 0 a0 (by have := hv.s; omega) (by have := hv.l; omega)
  have c3 := bytes2_c 0 0 (secF 1) (by rw [secF_len]; omega) (by omega) (by omega) (by omega) (by omega)
  have hby := by_tok (g := 0) (s := 0) (by omega) (by omega) (secF_by 1)
  have c4 := open_c (rgN 0 a0) ⟨4, 0 :: 0 :: secF 1, [1, 0], []⟩ 1 hb hby (by decide)
  have c5 := open_c (rgN 0 a0) ⟨1, 0 :: 0 :: secF 1, [], []⟩ 1 hb hby (by decide)
  have c6 := gvalid_t (rgN 0 a0) (by decide) hv (tvF_new a0 hv) rfl (by decide) rfl rfl
  have e4 : opE (rgN 0 a0) ⟨4, 0 :: 0 :: secF 1, [1, 0], []⟩ 1 = 9 := by
    unfold opE
    rw [if_neg]
    have : ckB (rgN 0 a0).tk (rgN 0 a0).num (0 :: 0 :: secF 1) 4 1 = false := by
      unfold ckB
      have : peF (tkOf (rgN 0 a0).tk (0 :: 0 :: secF 1)).rights 4 = false := by decide
      rw [this]; simp
    rw [this]; simp
  have e5 : opE (rgN 0 a0) ⟨1, 0 :: 0 :: secF 1, [], []⟩ 1 = 0 := by
    unfold opE
    rw [if_pos, if_neg]
    · decide
    · unfold ckB
      rw [decide_eq_true (by simp [secF_len]; rfl)]
      have h1 : usF (rgN 0 a0).tk ((0 :: 0 :: secF 1).getD 1 default) = true := rfl
      have h2 : eqY ((0 :: 0 :: secF 1).drop 2) (tkOf (rgN 0 a0).tk (0 :: 0 :: secF 1)).sec = true := eqY_refl _
      rw [h1, h2]
      decide
  have s5 : opS (rgN 0 a0) ⟨1, 0 :: 0 :: secF 1, [], []⟩ 1 = 0 := by
    unfold opS
    rw [if_pos e5]
    rfl
  rw [e4] at c4
  rw [e5, s5] at c5
  generalize opS (rgN 0 a0) ⟨4, 0 :: 0 :: secF 1, [1, 0], []⟩ 1 = s4 at *
  generalize opR (rgN 0 a0) ⟨4, 0 :: 0 :: secF 1, [1, 0], []⟩ 1 = r4 at *
  generalize opR (rgN 0 a0) ⟨1, 0 :: 0 :: secF 1, [], []⟩ 1 = r5 at *
  generalize rgN 0 a0 = r at *
  unfold a0 at c2
  clear hv hb e4 e5 s5 hby
  generalize secF 1 = sec at *
  have hlit : ([AV.s (.int .i64 1), AV.s (.int .i64 1), AV.s (.int .i64 1), AV.s (.int .i64 1)] : List AV).length = 4 := rfl
  (refine callSim_of tok Tryz.func5 rfl (fun args w => Tryz.call5 args w) rfl rfl rfl (fun F hF => ?_))
  (have zc1 := c1; have zc2 := c2; have zc3 := c3; have zc4 := c4; have zc5 := c5; have zc6 := c6; refine WL ?_; clear zc1 zc2 zc3 zc4 zc5 zc6)
  exact fin_ret [] rfl rfl rfl rfl
end Av
end Go.Proofs.YtjbldhhgooihfaaGreat
