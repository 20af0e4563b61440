
/- law17: the references' operations on tokens. -/
import Derived.Test.YtjbldhhgooihfaaGreatRgF
import Derived.Test.YtjbldhhgooihfaaGreatRgV
namespace Go.Proofs.YtjbldhhgooihfaaGreat
namespace Av
set_option linter.unusedSimpArgs false
set_option linter.unusedVariables false
set_option maxRecDepth 4000
set_option maxHeartbeats 1000000
/-- Does following the parents lead to t, within n steps? -/
def ldF (l : List Tk) : Nat → Int → Int → Bool
  | 0, _, _ => false
  | n + 1, f, t => usF l f && (f == t || ldF l n (l.getD f.toNat default).par t)
theorem ldF_succ (l : List Tk) (n : Nat) (f t : Int) : ldF l (n + 1) f t = (usF l f && (f == t || ldF l n (l.getD f.toNat default).par t)) := rfl
theorem ldF_ch (l : List Tk) (t : Int) : ∀ (n : Nat) (f : Int), ldF l n f t = (chF l n f).any fun a => a == t
  | 0, _ => rfl
  | n + 1, f => by
    rw [ldF_succ, chF_succ]
    cases usF l f
    · rfl
    · rw [cond_true, List.any_cons, ldF_ch l t n, Bool.true_and]
theorem leads_c (l : List Tk) (f t : Int) (hn : l.length ≤ 1000000) : CallSim Tryz.prog 104 [slA tkA l, iA f, iA t] [] (bA (ldF l (l.length + 1) f t)) [] := by
  have hl := map_len tkA l
  generalize hR : ldF l (l.length + 1) f t = R
  (refine callSim_of tok Tryz.func104 rfl (fun args w => Tryz.call104 args w) rfl rfl rfl (fun F hF => ?_))
  (refine WW ?_)
  (refine sim_cntP (l.length + 1) [] [] [0, 2] [1, 7, 0, 2] rfl (fun i T U zs => ∃ (a : Int), (R = ldF l (l.length + 1 - i) a t) ∧ zs = ⟨(1, iA a) :: (7, iA i) :: T, U⟩) ?_; (conv => whnf); refine ⟨?_, ?_, ?_⟩)
  · exact ⟨f, hR.symm, rfl⟩
  · rintro i st hi ⟨a, hp, rfl⟩
    obtain ⟨k, hk⟩ : ∃ k, l.length + 1 - i = k + 1 := ⟨l.length - i, by omega⟩
    rw [hk, ldF_succ l k a t] at hp
    have hk' : l.length + 1 - (i + 1) = k := by omega
    unfold usF at hp
    by_cases h0 : 0 ≤ a
    · by_cases h1 : a < l.length
      · have hy := map_atI tkA l a h0 h1
        rw [decide_eq_true ⟨h0, h1⟩, Bool.true_and] at hp
        generalize l.getD a.toNat default = x at *
        cases hu : x.used
        · rw [hu, Bool.false_and] at hp
          rw [show tkA x = tkU false x by unfold tkA tkU; rw [hu]] at hy
          unfold tkU at hy
          rw [hp]
          (refine WW ?_)
          exact fin_ret [] rfl rfl rfl rfl
        · rw [hu, Bool.true_and] at hp
          rw [show tkA x = tkU true x by unfold tkA tkU; rw [hu]] at hy
          unfold tkU at hy
          by_cases ht : a = t
          · rw [show (a == t) = true by simpa using ht, Bool.true_or] at hp
            rw [hp]
            (refine WW ?_)
            exact fin_ret [] rfl rfl rfl rfl
          · rw [show (a == t) = false by simpa using ht, Bool.false_or] at hp
            (refine WW ?_)
            exact ⟨x.par, by rw [hk']; exact hp, by rw [Int.natCast_succ]; rfl⟩
      · rw [decide_eq_false (by omega)] at hp
        simp only [Bool.false_and] at hp
        rw [hp]
        (refine WW ?_)
        exact fin_ret [] rfl rfl rfl rfl
    · rw [decide_eq_false (by omega)] at hp
      simp only [Bool.false_and] at hp
      rw [hp]
      (refine WW ?_)
      exact fin_ret [] rfl rfl rfl rfl
  · rintro st ⟨a, hp, rfl⟩
    rw [Nat.sub_self] at hp
    rw [hp]
    (refine WW ?_)
    exact fin_ret [] rfl rfl rfl rfl
def tok2F (l : List Tk) (s : Nat) : Bool := if (l.getD s default).used = true then soF (l.getD s default) && ldF l (l.length + 1) s 0 && (decide (s = 0) || (wiF (l.getD s default).rights (l.getD (l.getD s default).par.toNat default).rights && decide ((l.getD s default).cls ≤ (l.getD (l.getD s default).par.toNat default).cls) && !laF (l.getD s default).til (l.getD (l.getD s default).par.toNat default).til))
  else if2F (l.getD s default)
def root2F (t : Tk) : Bool := t.used && decide (t.par = -1 ∧ t.til = 0)
def tv2F (l : List Tk) : Bool := decide ((l.length : Int) = 8) && (root2F (l.getD 0 default) && (List.range l.length).all fun i => tok2F l i)
theorem tv2F_no {l : List Tk} {i : Nat} (hi : i < l.length) (h : tok2F l i = false) : tv2F l = false := by
  unfold tv2F
  have : ((List.range l.length).all fun i => tok2F l i) = false := List.all_eq_false.2 ⟨i, List.mem_range.2 hi, by simp [h]⟩
  rw [this]; simp
theorem ldF_par {l : List Tk} {n : Nat} {s : Int} (h : ldF l (n + 1) s 0 = true) (h0 : s ≠ 0) : usF l (l.getD s.toNat default).par = true := by
  rw [ldF_succ l n s 0] at h
  have : (s == 0) = false := by simpa using h0
  rw [this, Bool.false_or, Bool.and_eq_true] at h
  cases n with
  | zero => exact absurd h.2 (by simp [ldF])
  | succ n =>
    have := h.2
    rw [ldF_succ, Bool.and_eq_true] at this
    exact this.1
theorem tvalid2_c (l : List Tk) : CallSim Tryz.prog 70 [slA tkA l] [] (bA (tv2F l)) [] := by
  have hll := map_len tkA l
  by_cases h8 : (l.length : Int) = 8
  case neg =>
    rw [show tv2F l = false by unfold tv2F; rw [decide_eq_false h8]; rfl]
    (refine callSim_of tok Tryz.func70 rfl (fun args w => Tryz.call70 args w) rfl rfl rfl (fun F hF => ?_))
    (refine WW ?_)
    exact fin_ret [] rfl rfl rfl rfl
  have hy0 := map_atI tkA l 0 (by omega) (by omega)
  change (l.map tkA)[0]? = some (tkA (l.getD 0 default)) at hy0
  cases hr : root2F (l.getD 0 default)
  · rw [show tv2F l = false by unfold tv2F; rw [hr]; simp]
    unfold root2F at hr
    generalize l.getD 0 default = t at *
    cases hu : t.used
    · rw [show tkA t = tkU false t by unfold tkA tkU; rw [hu]] at *
      unfold tkU at *
      (refine callSim_of tok Tryz.func70 rfl (fun args w => Tryz.call70 args w) rfl rfl rfl (fun F hF => ?_))
      (refine WW ?_)
      exact fin_ret [] rfl rfl rfl rfl
    · rw [show tkA t = tkU true t by unfold tkA tkU; rw [hu]] at *
      unfold tkU at *
      rw [hu, Bool.true_and] at hr
      by_cases h1 : t.par = -1
      · by_cases h2 : t.til = 0
        · rw [decide_eq_true ⟨h1, h2⟩] at hr; cases hr
        · (refine callSim_of tok Tryz.func70 rfl (fun args w => Tryz.call70 args w) rfl rfl rfl (fun F hF => ?_))
          (refine WW ?_)
          exact fin_ret [] rfl rfl rfl rfl
      · (refine callSim_of tok Tryz.func70 rfl (fun args w => Tryz.call70 args w) rfl rfl rfl (fun F hF => ?_))
        (refine WW ?_)
        exact fin_ret [] rfl rfl rfl rfl
  have hr' := hr
  unfold root2F at hr'
  simp only [Bool.and_eq_true, decide_eq_true_eq] at hr'
  obtain ⟨hu, h1, h2⟩ := hr'
  have hy0' := hy0
  rw [show tkA (l.getD 0 default) = tkU true (l.getD 0 default) by unfold tkA tkU; rw [hu]] at hy0'
  unfold tkU at hy0'
  clear hy0
  generalize ht0 : l.getD 0 default = t0 at hy0' h1 h2
  (refine callSim_of tok Tryz.func70 rfl (fun args w => Tryz.call70 args w) rfl rfl rfl (fun F hF => ?_))
  (refine WW ?_)
  clear hy0'
  (refine sim_cntP (l.length) [] [] [0, 30, 31] [32, 0, 30, 31] rfl (fun i T U zs => (∀ s : Nat, s < i → tok2F l s = true) ∧ zs = ⟨(32, iA i) :: T, U⟩) ?_; (conv => whnf); refine ⟨?_, ?_, ?_⟩)
  · exact ⟨fun s hs => absurd hs (Nat.not_lt_zero _), rfl⟩
  · rintro i st hi ⟨hp, rfl⟩
    have next : tok2F l i = true → ∀ s : Nat, s < i + 1 → tok2F l s = true := fun h s hs => by
      by_cases hsi : s = i
      · subst hsi; exact h
      · exact hp s (by omega)
    have stop := fun h => tv2F_no (l := l) hi h
    have hy := map_at tkA l i hi
    have c1 := rvalid2_c (l.getD i default).rights
    have c3 := leads_c l i 0 (by omega)
    have hpar := ldF_par (l := l) (n := l.length) (s := i)
    rw [Int.toNat_natCast] at hpar
    have htok : tok2F l i = _ := rfl
    conv at htok => rhs; unfold tok2F
    generalize l.getD i default = t at *
    generalize tok2F l i = tk at *
    have hsl := map_len yA t.sec
    cases hu : t.used
    · rw [show tkA t = tkU false t by unfold tkA tkU; rw [hu]] at hy
      rw [hu, if_neg (by simp)] at htok
      unfold tkU at hy
      cases tk
      · rw [stop rfl]
        (repeat' (first | (refine is_ops ?_; first | refine x_auto tok rfl rfl ?_ | (refine is_call ?_; fail) | (refine is_grd ?_; first | refine x_on rfl rfl ?_ | refine x_off rfl rfl rfl rfl ?_ | (refine x_gsplit rfl rfl (fun hc => ?_) (fun hc => ?_) <;> (try simp only [cmpB, decide_eq_true_eq, decide_eq_false_iff_not, beq_iff_eq, bne_iff_ne, ne_eq, Bool.not_eq_true, beq_eq_false_iff_ne, bne_eq_false_iff_eq, Int.not_lt, Int.not_le, Decidable.not_not] at hc))) | (refine is_bin ?_; first | refine x_q (stp_cmp_t rfl rfl rfl (by unfold cmpP; omega)) rfl ?_ | refine x_q (stp_cmp_f rfl rfl rfl (by unfold cmpP; omega)) rfl ?_ | refine x_q (stp_cmp rfl rfl rfl) rfl ?_ | refine x_q (stp_add rfl rfl ⟨by omega, by omega⟩) rfl ?_ | refine x_q (stp_sub rfl rfl ⟨by omega, by omega⟩) rfl ?_ | refine x_q (stp_mul rfl rfl ⟨by omega, by omega⟩) rfl ?_ | refine x_q (stp_quo rfl rfl (by assumption) (by omega)) rfl ?_ | refine x_q (stp_rem rfl rfl (by omega)) rfl ?_ | refine x_q (stp_xor rfl rfl) rfl ?_ | refine x_q (stp_shlI rfl rfl (by omega)) rfl ?_ | refine x_q (stp_shrI rfl rfl (by omega)) rfl ?_ | refine x_q (stp_shift (.inl ⟨rfl, rfl⟩) rfl rfl (by omega)) rfl ?_ | refine x_q (stp_shift (.inr ⟨rfl, rfl⟩) rfl rfl (by omega)) rfl ?_ | refine x_q (stp_bool2 tok rfl rfl rfl rfl (.inl ⟨rfl, rfl⟩)) rfl ?_ | refine x_q (stp_bool2 tok rfl rfl rfl rfl (.inr ⟨rfl, rfl⟩)) rfl ?_ | refine x_q (stp_eqlNil tok (.inl ⟨rfl, rfl⟩) rfl rfl rfl) rfl ?_ | refine x_q (stp_eqlNil_not tok (.inl ⟨rfl, rfl⟩) rfl rfl rfl rfl) rfl ?_ | refine x_q (stp_andI rfl rfl) rfl ?_ | refine x_q (stp_orI rfl rfl) rfl ?_ | refine x_q (stp_bicI rfl rfl) rfl ?_ | refine x_q (stp_strEqV rfl rfl (by assumption)) rfl ?_ | refine x_q (stp_strEq rfl rfl) rfl ?_ | refine x_q (stp_strNeV rfl rfl (by assumption)) rfl ?_ | refine x_q (stp_strNe rfl rfl) rfl ?_) | (refine is_idx ?_; first | refine x_q (stp_indexAddr_sl tok rfl rfl rfl rfl rfl (by omega) (by first | rfl | assumption) rfl rfl) rfl ?_ | refine x_q (stp_indexAddr_r0 tok rfl rfl rfl rfl rfl rfl (by omega) (by omega) rfl) rfl ?_ | refine x_q (stp_indexAddr_box tok rfl rfl rfl rfl rfl rfl (by omega) (by omega)) rfl ?_) | (refine is_load ?_; first | refine x_q (stp_load_fp1 tok rfl rfl rfl (by first | rfl | assumption) rfl) rfl ?_ | refine x_q (stp_load_fpa tok rfl rfl rfl (by first | rfl | assumption) rfl) rfl ?_ | refine x_q (stp_load_arr1 tok rfl rfl rfl rfl (by first | rfl | assumption) rfl) rfl ?_ | refine x_q (stp_load_arra tok rfl rfl rfl rfl (by first | rfl | assumption) rfl) rfl ?_) | (refine is_fad ?_; first | refine x_q (stp_fieldAddr_arr tok rfl rfl rfl rfl rfl rfl rfl rfl) rfl ?_ | refine x_q (stp_fieldAddr_fp tok rfl (by first | rfl | assumption) rfl rfl rfl rfl rfl rfl) rfl ?_) | (refine is_app ?_; first | refine x_appref0 tok rfl rfl rfl rfl rfl rfl rfl (by first | (intro y hy; cases hy; rfl) | exact map_hd _ _ (fun _ => rfl)) rfl rfl rfl (by first | omega | (simp; done) | (simp; omega)) rfl ?_ | refine x_appref tok rfl rfl rfl rfl rfl rfl rfl rfl rfl rfl rfl (by first | (intro y hy; cases hy; rfl) | exact map_hd _ _ (fun _ => rfl)) (by first | omega | (simp; done) | (simp; omega)) rfl ?_) | (refine is_un ?_; first | refine x_q (stp_neg rfl ⟨by omega, by omega⟩) rfl ?_) | (refine is_conv ?_; first | refine x_q (stp_conv_in tok rfl rfl rfl rfl ⟨by omega, by omega⟩) rfl ?_ | refine x_q (stp_conv tok rfl rfl rfl rfl) rfl ?_ | refine x_q (stp_convStr tok rfl rfl rfl rfl rfl rfl rfl (by first | rfl | assumption)) rfl ?_) | (refine is_slc ?_; first | refine x_slcL tok rfl rfl rfl rfl rfl (by first | (intro y hy; cases hy; rfl) | exact map_hd _ _ (fun _ => rfl) | (simp; done)) (by omega) (by simp; omega) (by first | exact List.map_drop.symm | rfl) rfl ?_ | refine x_slcH tok rfl rfl rfl rfl rfl (by first | (intro y hy; cases hy; rfl) | exact map_hd _ _ (fun _ => rfl) | (simp; done)) (by omega) (by simp; omega) (by first | exact List.map_take.symm | rfl) rfl ?_) | (refine is_mks ?_; refine x_mks tok rfl rfl rfl rfl rfl rfl rfl rfl rfl rfl rfl rfl rfl (by omega) (by omega) rfl rfl rfl ?_) | refine x_autow tok rfl rfl rfl rfl ?_ | (refine is_sto ?_; first | refine x_autos tok rfl rfl rfl ?_ | refine x_stoa tok rfl rfl rfl (by first | rfl | assumption) rfl rfl rfl rfl rfl rfl ?_ | refine x_sto1 tok rfl rfl rfl (by first | rfl | assumption) rfl rfl rfl rfl rfl rfl rfl rfl ?_) | refine x_nil ?_ | refine x_nilD (by kernel_rfl) ?_) | (first | refine sim_seq ?_ | refine x_region ?_ | refine x_draw rfl ?_ | refine sim_cond_true rfl ?_ | refine sim_cond_false rfl ?_ | (refine sim_cond rfl (fun hc => ?_) (fun hc => ?_) <;> (try simp only [cmpB, decide_eq_true_eq, decide_eq_false_iff_not, beq_iff_eq, bne_iff_ne, ne_eq, Bool.not_eq_true, beq_eq_false_iff_ne, bne_eq_false_iff_eq, Int.not_lt, Int.not_le, Decidable.not_not] at hc)) | refine sim_skip ?_ | refine sim_ret ?_ | refine sim_exit ?_ | refine sim_block ?_)))
        all_goals (first | exact fin_ret [] rfl rfl rfl rfl | (exfalso; simp only [if2F] at htok; have := of_decide_eq_false htok.symm; omega))
      · have hq := htok.symm
        simp only [if2F, decide_eq_true_eq] at hq
        (refine WW ?_)
        all_goals (first | exact ⟨next rfl, rfl⟩ | (exfalso; omega))
    · rw [show tkA t = tkU true t by unfold tkA tkU; rw [hu]] at hy
      rw [hu, if_pos rfl] at htok
      unfold tkU at hy
      unfold soF at htok
      generalize rvF t.rights = q0 at *
      generalize hq2 : ldF l (l.length + 1) i 0 = q2 at *
      cases q0
      · simp only [Bool.false_and] at htok
        rw [stop htok]
        (repeat' (first | (refine is_ops ?_; first | refine x_auto tok rfl rfl ?_ | (refine is_call ?_; (first | (refine is_fn 103 ?_; first | refine x_q (stp_call (c1) rfl rfl rfl rfl rfl) rfl ?_ | refine x_w (stp_call (c1) rfl rfl rfl rfl rfl) rfl rfl rfl ?_ | refine x_d (stp_call (c1) rfl rfl rfl rfl rfl) rfl rfl rfl ?_))) | (refine is_grd ?_; first | refine x_on rfl rfl ?_ | refine x_off rfl rfl rfl rfl ?_ | (refine x_gsplit rfl rfl (fun hc => ?_) (fun hc => ?_) <;> (try simp only [cmpB, decide_eq_true_eq, decide_eq_false_iff_not, beq_iff_eq, bne_iff_ne, ne_eq, Bool.not_eq_true, beq_eq_false_iff_ne, bne_eq_false_iff_eq, Int.not_lt, Int.not_le, Decidable.not_not] at hc))) | (refine is_bin ?_; first | refine x_q (stp_cmp_t rfl rfl rfl (by unfold cmpP; omega)) rfl ?_ | refine x_q (stp_cmp_f rfl rfl rfl (by unfold cmpP; omega)) rfl ?_ | refine x_q (stp_cmp rfl rfl rfl) rfl ?_ | refine x_q (stp_add rfl rfl ⟨by omega, by omega⟩) rfl ?_ | refine x_q (stp_sub rfl rfl ⟨by omega, by omega⟩) rfl ?_ | refine x_q (stp_mul rfl rfl ⟨by omega, by omega⟩) rfl ?_ | refine x_q (stp_quo rfl rfl (by assumption) (by omega)) rfl ?_ | refine x_q (stp_rem rfl rfl (by omega)) rfl ?_ | refine x_q (stp_xor rfl rfl) rfl ?_ | refine x_q (stp_shlI rfl rfl (by omega)) rfl ?_ | refine x_q (stp_shrI rfl rfl (by omega)) rfl ?_ | refine x_q (stp_shift (.inl ⟨rfl, rfl⟩) rfl rfl (by omega)) rfl ?_ | refine x_q (stp_shift (.inr ⟨rfl, rfl⟩) rfl rfl (by omega)) rfl ?_ | refine x_q (stp_bool2 tok rfl rfl rfl rfl (.inl ⟨rfl, rfl⟩)) rfl ?_ | refine x_q (stp_bool2 tok rfl rfl rfl rfl (.inr ⟨rfl, rfl⟩)) rfl ?_ | refine x_q (stp_eqlNil tok (.inl ⟨rfl, rfl⟩) rfl rfl rfl) rfl ?_ | refine x_q (stp_eqlNil_not tok (.inl ⟨rfl, rfl⟩) rfl rfl rfl rfl) rfl ?_ | refine x_q (stp_andI rfl rfl) rfl ?_ | refine x_q (stp_orI rfl rfl) rfl ?_ | refine x_q (stp_bicI rfl rfl) rfl ?_ | refine x_q (stp_strEqV rfl rfl (by assumption)) rfl ?_ | refine x_q (stp_strEq rfl rfl) rfl ?_ | refine x_q (stp_strNeV rfl rfl (by assumption)) rfl ?_ | refine x_q (stp_strNe rfl rfl) rfl ?_) | (refine is_idx ?_; first | refine x_q (stp_indexAddr_sl tok rfl rfl rfl rfl rfl (by omega) (by first | rfl | assumption) rfl rfl) rfl ?_ | refine x_q (stp_indexAddr_r0 tok rfl rfl rfl rfl rfl rfl (by omega) (by omega) rfl) rfl ?_ | refine x_q (stp_indexAddr_box tok rfl rfl rfl rfl rfl rfl (by omega) (by omega)) rfl ?_) | (refine is_load ?_; first | refine x_q (stp_load_fp1 tok rfl rfl rfl (by first | rfl | assumption) rfl) rfl ?_ | refine x_q (stp_load_fpa tok rfl rfl rfl (by first | rfl | assumption) rfl) rfl ?_ | refine x_q (stp_load_arr1 tok rfl rfl rfl rfl (by first | rfl | assumption) rfl) rfl ?_ | refine x_q (stp_load_arra tok rfl rfl rfl rfl (by first | rfl | assumption) rfl) rfl ?_) | (refine is_fad ?_; first | refine x_q (stp_fieldAddr_arr tok rfl rfl rfl rfl rfl rfl rfl rfl) rfl ?_ | refine x_q (stp_fieldAddr_fp tok rfl (by first | rfl | assumption) rfl rfl rfl rfl rfl rfl) rfl ?_) | (refine is_app ?_; first | refine x_appref0 tok rfl rfl rfl rfl rfl rfl rfl (by first | (intro y hy; cases hy; rfl) | exact map_hd _ _ (fun _ => rfl)) rfl rfl rfl (by first | omega | (simp; done) | (simp; omega)) rfl ?_ | refine x_appref tok rfl rfl rfl rfl rfl rfl rfl rfl rfl rfl rfl (by first | (intro y hy; cases hy; rfl) | exact map_hd _ _ (fun _ => rfl)) (by first | omega | (simp; done) | (simp; omega)) rfl ?_) | (refine is_un ?_; first | refine x_q (stp_neg rfl ⟨by omega, by omega⟩) rfl ?_) | (refine is_conv ?_; first | refine x_q (stp_conv_in tok rfl rfl rfl rfl ⟨by omega, by omega⟩) rfl ?_ | refine x_q (stp_conv tok rfl rfl rfl rfl) rfl ?_ | refine x_q (stp_convStr tok rfl rfl rfl rfl rfl rfl rfl (by first | rfl | assumption)) rfl ?_) | (refine is_slc ?_; first | refine x_slcL tok rfl rfl rfl rfl rfl (by first | (intro y hy; cases hy; rfl) | exact map_hd _ _ (fun _ => rfl) | (simp; done)) (by omega) (by simp; omega) (by first | exact List.map_drop.symm | rfl) rfl ?_ | refine x_slcH tok rfl rfl rfl rfl rfl (by first | (intro y hy; cases hy; rfl) | exact map_hd _ _ (fun _ => rfl) | (simp; done)) (by omega) (by simp; omega) (by first | exact List.map_take.symm | rfl) rfl ?_) | (refine is_mks ?_; refine x_mks tok rfl rfl rfl rfl rfl rfl rfl rfl rfl rfl rfl rfl rfl (by omega) (by omega) rfl rfl rfl ?_) | refine x_autow tok rfl rfl rfl rfl ?_ | (refine is_sto ?_; first | refine x_autos tok rfl rfl rfl ?_ | refine x_stoa tok rfl rfl rfl (by first | rfl | assumption) rfl rfl rfl rfl rfl rfl ?_ | refine x_sto1 tok rfl rfl rfl (by first | rfl | assumption) rfl rfl rfl rfl rfl rfl rfl rfl ?_) | refine x_nil ?_ | refine x_nilD (by kernel_rfl) ?_) | (first | refine sim_seq ?_ | refine x_region ?_ | refine x_draw rfl ?_ | refine sim_cond_true rfl ?_ | refine sim_cond_false rfl ?_ | (refine sim_cond rfl (fun hc => ?_) (fun hc => ?_) <;> (try simp only [cmpB, decide_eq_true_eq, decide_eq_false_iff_not, beq_iff_eq, bne_iff_ne, ne_eq, Bool.not_eq_true, beq_eq_false_iff_ne, bne_eq_false_iff_eq, Int.not_lt, Int.not_le, Decidable.not_not] at hc)) | refine sim_skip ?_ | refine sim_ret ?_ | refine sim_exit ?_ | refine sim_block ?_)))
        all_goals exact fin_ret [] rfl rfl rfl rfl
      cases hs2 : so2F t
      · rw [hs2] at htok
        simp only [Bool.and_false, Bool.false_and] at htok
        rw [stop htok]
        (repeat' (first | (refine is_ops ?_; first | refine x_auto tok rfl rfl ?_ | (refine is_call ?_; (first | (refine is_fn 103 ?_; first | refine x_q (stp_call (c1) rfl rfl rfl rfl rfl) rfl ?_ | refine x_w (stp_call (c1) rfl rfl rfl rfl rfl) rfl rfl rfl ?_ | refine x_d (stp_call (c1) rfl rfl rfl rfl rfl) rfl rfl rfl ?_) | (refine is_fn 104 ?_; first | refine x_q (stp_call (c3) rfl rfl rfl rfl rfl) rfl ?_ | refine x_w (stp_call (c3) rfl rfl rfl rfl rfl) rfl rfl rfl ?_ | refine x_d (stp_call (c3) rfl rfl rfl rfl rfl) rfl rfl rfl ?_))) | (refine is_grd ?_; first | refine x_on rfl rfl ?_ | refine x_off rfl rfl rfl rfl ?_ | (refine x_gsplit rfl rfl (fun hc => ?_) (fun hc => ?_) <;> (try simp only [cmpB, decide_eq_true_eq, decide_eq_false_iff_not, beq_iff_eq, bne_iff_ne, ne_eq, Bool.not_eq_true, beq_eq_false_iff_ne, bne_eq_false_iff_eq, Int.not_lt, Int.not_le, Decidable.not_not] at hc))) | (refine is_bin ?_; first | refine x_q (stp_cmp_t rfl rfl rfl (by unfold cmpP; omega)) rfl ?_ | refine x_q (stp_cmp_f rfl rfl rfl (by unfold cmpP; omega)) rfl ?_ | refine x_q (stp_cmp rfl rfl rfl) rfl ?_ | refine x_q (stp_add rfl rfl ⟨by omega, by omega⟩) rfl ?_ | refine x_q (stp_sub rfl rfl ⟨by omega, by omega⟩) rfl ?_ | refine x_q (stp_mul rfl rfl ⟨by omega, by omega⟩) rfl ?_ | refine x_q (stp_quo rfl rfl (by assumption) (by omega)) rfl ?_ | refine x_q (stp_rem rfl rfl (by omega)) rfl ?_ | refine x_q (stp_xor rfl rfl) rfl ?_ | refine x_q (stp_shlI rfl rfl (by omega)) rfl ?_ | refine x_q (stp_shrI rfl rfl (by omega)) rfl ?_ | refine x_q (stp_shift (.inl ⟨rfl, rfl⟩) rfl rfl (by omega)) rfl ?_ | refine x_q (stp_shift (.inr ⟨rfl, rfl⟩) rfl rfl (by omega)) rfl ?_ | refine x_q (stp_bool2 tok rfl rfl rfl rfl (.inl ⟨rfl, rfl⟩)) rfl ?_ | refine x_q (stp_bool2 tok rfl rfl rfl rfl (.inr ⟨rfl, rfl⟩)) rfl ?_ | refine x_q (stp_eqlNil tok (.inl ⟨rfl, rfl⟩) rfl rfl rfl) rfl ?_ | refine x_q (stp_eqlNil_not tok (.inl ⟨rfl, rfl⟩) rfl rfl rfl rfl) rfl ?_ | refine x_q (stp_andI rfl rfl) rfl ?_ | refine x_q (stp_orI rfl rfl) rfl ?_ | refine x_q (stp_bicI rfl rfl) rfl ?_ | refine x_q (stp_strEqV rfl rfl (by assumption)) rfl ?_ | refine x_q (stp_strEq rfl rfl) rfl ?_ | refine x_q (stp_strNeV rfl rfl (by assumption)) rfl ?_ | refine x_q (stp_strNe rfl rfl) rfl ?_) | (refine is_idx ?_; first | refine x_q (stp_indexAddr_sl tok rfl rfl rfl rfl rfl (by omega) (by first | rfl | assumption) rfl rfl) rfl ?_ | refine x_q (stp_indexAddr_r0 tok rfl rfl rfl rfl rfl rfl (by omega) (by omega) rfl) rfl ?_ | refine x_q (stp_indexAddr_box tok rfl rfl rfl rfl rfl rfl (by omega) (by omega)) rfl ?_) | (refine is_load ?_; first | refine x_q (stp_load_fp1 tok rfl rfl rfl (by first | rfl | assumption) rfl) rfl ?_ | refine x_q (stp_load_fpa tok rfl rfl rfl (by first | rfl | assumption) rfl) rfl ?_ | refine x_q (stp_load_arr1 tok rfl rfl rfl rfl (by first | rfl | assumption) rfl) rfl ?_ | refine x_q (stp_load_arra tok rfl rfl rfl rfl (by first | rfl | assumption) rfl) rfl ?_) | (refine is_fad ?_; first | refine x_q (stp_fieldAddr_arr tok rfl rfl rfl rfl rfl rfl rfl rfl) rfl ?_ | refine x_q (stp_fieldAddr_fp tok rfl (by first | rfl | assumption) rfl rfl rfl rfl rfl rfl) rfl ?_) | (refine is_app ?_; first | refine x_appref0 tok rfl rfl rfl rfl rfl rfl rfl (by first | (intro y hy; cases hy; rfl) | exact map_hd _ _ (fun _ => rfl)) rfl rfl rfl (by first | omega | (simp; done) | (simp; omega)) rfl ?_ | refine x_appref tok rfl rfl rfl rfl rfl rfl rfl rfl rfl rfl rfl (by first | (intro y hy; cases hy; rfl) | exact map_hd _ _ (fun _ => rfl)) (by first | omega | (simp; done) | (simp; omega)) rfl ?_) | (refine is_un ?_; first | refine x_q (stp_neg rfl ⟨by omega, by omega⟩) rfl ?_) | (refine is_conv ?_; first | refine x_q (stp_conv_in tok rfl rfl rfl rfl ⟨by omega, by omega⟩) rfl ?_ | refine x_q (stp_conv tok rfl rfl rfl rfl) rfl ?_ | refine x_q (stp_convStr tok rfl rfl rfl rfl rfl rfl rfl (by first | rfl | assumption)) rfl ?_) | (refine is_slc ?_; first | refine x_slcL tok rfl rfl rfl rfl rfl (by first | (intro y hy; cases hy; rfl) | exact map_hd _ _ (fun _ => rfl) | (simp; done)) (by omega) (by simp; omega) (by first | exact List.map_drop.symm | rfl) rfl ?_ | refine x_slcH tok rfl rfl rfl rfl rfl (by first | (intro y hy; cases hy; rfl) | exact map_hd _ _ (fun _ => rfl) | (simp; done)) (by omega) (by simp; omega) (by first | exact List.map_take.symm | rfl) rfl ?_) | (refine is_mks ?_; refine x_mks tok rfl rfl rfl rfl rfl rfl rfl rfl rfl rfl rfl rfl rfl (by omega) (by omega) rfl rfl rfl ?_) | refine x_autow tok rfl rfl rfl rfl ?_ | (refine is_sto ?_; first | refine x_autos tok rfl rfl rfl ?_ | refine x_stoa tok rfl rfl rfl (by first | rfl | assumption) rfl rfl rfl rfl rfl rfl ?_ | refine x_sto1 tok rfl rfl rfl (by first | rfl | assumption) rfl rfl rfl rfl rfl rfl rfl rfl ?_) | refine x_nil ?_ | refine x_nilD (by kernel_rfl) ?_) | (first | refine sim_seq ?_ | refine x_region ?_ | refine x_draw rfl ?_ | refine sim_cond_true rfl ?_ | refine sim_cond_false rfl ?_ | (refine sim_cond rfl (fun hc => ?_) (fun hc => ?_) <;> (try simp only [cmpB, decide_eq_true_eq, decide_eq_false_iff_not, beq_iff_eq, bne_iff_ne, ne_eq, Bool.not_eq_true, beq_eq_false_iff_ne, bne_eq_false_iff_eq, Int.not_lt, Int.not_le, Decidable.not_not] at hc)) | refine sim_skip ?_ | refine sim_ret ?_ | refine sim_exit ?_ | refine sim_block ?_)))
        all_goals (first | exact fin_ret [] rfl rfl rfl rfl | (exfalso; simp only [so2F, decide_eq_false_iff_not] at hs2; omega))
      have hs3 := hs2
      simp only [so2F, decide_eq_true_eq] at hs3
      rw [hs2] at htok
      cases q2
      · simp only [Bool.true_and, Bool.false_and] at htok
        rw [stop htok]
        (have zc1 := c1; have zc2 := c3; refine WW ?_; clear zc1 zc2)
        exact fin_ret [] rfl rfl rfl rfl
      by_cases hi0 : i = 0
      · rw [decide_eq_true hi0] at htok
        simp only [Bool.true_and, Bool.true_or] at htok
        (have zc1 := c1; have zc2 := c3; refine WW ?_; clear zc1 zc2)
        exact ⟨next htok, rfl⟩
      rw [decide_eq_false hi0] at htok
      simp only [Bool.true_and, Bool.false_or] at htok
      obtain ⟨p0, p1⟩ := usF_bd (hpar rfl (by omega))
      have hyp := map_atI tkA l t.par p0 p1
      generalize l.getD t.par.toNat default = p at *
      have c4 := within2_c t.rights p.rights
      have c5 := later2_c t.til p.til
      generalize wiF t.rights p.rights = q3 at *
      generalize laF t.til p.til = q4 at *
      clear hpar hs2
      cases q3
      · rw [Bool.false_and, Bool.false_and] at htok
        rw [stop htok]
        (have zc1 := c1; have zc2 := c3; have zc3 := c4; refine WW ?_; clear zc1 zc2 zc3)
        exact fin_ret [] rfl rfl rfl rfl
      by_cases hcl : t.cls ≤ p.cls
      · rw [decide_eq_true hcl, Bool.true_and, Bool.true_and] at htok
        cases q4
        · (have zc1 := c1; have zc2 := c3; have zc3 := c4; have zc4 := c5; refine WW ?_; clear zc1 zc2 zc3 zc4)
          exact ⟨next htok, rfl⟩
        · rw [stop htok]
          (have zc1 := c1; have zc2 := c3; have zc3 := c4; have zc4 := c5; refine WW ?_; clear zc1 zc2 zc3 zc4)
          exact fin_ret [] rfl rfl rfl rfl
      · rw [decide_eq_false hcl, Bool.true_and, Bool.false_and] at htok
        rw [stop htok]
        (have zc1 := c1; have zc2 := c3; have zc3 := c4; have zc4 := c5; refine WW ?_; clear zc1 zc2 zc3 zc4)
        exact fin_ret [] rfl rfl rfl rfl
  · rintro st ⟨hp, rfl⟩
    rw [show tv2F l = true by
      unfold tv2F
      rw [decide_eq_true h8, hr, Bool.true_and, Bool.true_and]
      exact List.all_eq_true.2 fun i hi => hp i (List.mem_range.1 hi)]
    (refine WW ?_)
    exact fin_ret [] rfl rfl rfl rfl
end Av
end Go.Proofs.YtjbldhhgooihfaaGreat
