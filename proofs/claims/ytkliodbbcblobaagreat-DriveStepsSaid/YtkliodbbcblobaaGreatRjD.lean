
/- Rings, the reference: Step. -/
import Derived.Test.YtkliodbbcblobaaGreatRjC
namespace Go.Proofs.YtkliodbbcblobaaGreat
namespace Av
set_option linter.unusedSimpArgs false
set_option linter.unusedVariables false
set_option maxRecDepth 4000
set_option maxHeartbeats 1000000
theorem idle_t (j : Jn) (hn : j.ph.length ≤ 1000) (c : Ct) (hc : c.li.length = j.ph.length) (r : Int) : CallSim Tryz.prog 70 [jnA j, ctT c, iA r] [] (bA (dkF j c r)) [] := by rw [ctT_eq]; exact idle_c j hn c hc r
theorem cand_t (j : Jn) (hn : j.ph.length ≤ 1000) (hcf : j.cf.length ≤ 40) (c : Ct) (hm : c.nx.length = 2) (r : Int) (hr : 0 ≤ r ∧ r < 2) (t : Nat) (ht : t < j.ph.length) (hx : c.nx.getD r.toNat default = -1 ∨ 0 ≤ c.nx.getD r.toNat default) : CallSim Tryz.prog 69 [jnA j, ctT c, iA r, iA (t : Int)] [] (iA (svP j c r t)) [] := by rw [ctT_eq]; exact cand_c j hn hcf c hm r hr t ht hx
theorem rset_t (c : Ct) (hn : c.li.length ≤ 25) : CallSim Tryz.prog 72 [ctT c] [] (iA (seF c)) [] := by rw [ctT_eq]; exact rset_c c hn
theorem bsF_0 (p : Nat → Bool) : ∀ n, n ≤ 25 → (bsF p n = 0 ↔ ∀ i, i < n → p i = false)
  | 0, _ => ⟨fun _ i h => absurd h (Nat.not_lt_zero _), fun _ => rfl⟩
  | n + 1, h => by
    have ih := bsF_0 p n (by omega)
    have hb := bsF_bd p n (by omega)
    have hp := p2_bd n (by omega)
    unfold bsF
    cases hpn : p n with
    | true =>
      rw [if_pos rfl]
      refine ⟨fun h => by omega, fun h => ?_⟩
      have := h n (by omega)
      rw [hpn] at this
      cases this
    | false =>
      rw [if_neg (by decide), ih]
      refine ⟨fun h i hi => ?_, fun h i hi => h i (by omega)⟩
      by_cases e : i = n
      · rw [e]; exact hpn
      · exact h i (by omega)
theorem seF_ar (c : Ct) (hn : c.li.length ≤ 25) : arF c = decide (seF c = 0) := by
  rw [Bool.eq_iff_iff, decide_eq_true_eq]
  unfold seF arF
  rw [bsF_0 _ _ hn, List.all_eq_true]
  constructor
  · intro h i hi
    have := h (liO c i) (by simp [liO, List.getD, hi])
    unfold stB
    simpa using this
  · intro h l hl
    obtain ⟨i, hi, rfl⟩ := List.getElem_of_mem hl
    have := h i hi
    unfold stB at this
    simpa [liO, List.getD, hi] using this
def zC : Ent := .box [.s (.slice none 0 0), iA 0, .s (.slice none 0 0), iA 0]
def rsSt (j : Jn) (t : Nat) (e : Bool) (i : Int) (c : Ct) (o : List Int) : St := ⟨[(83, iA i), (2, iA t), (3, .ptr 3 0 0), (6, .ptr 6 0 0), (7, .ptr 3000 0 0)], ctX e c o ++ [(3, .box [slA phA j.ph, slA iA j.cf, iA j.st]), (6, zC)]⟩
def rcSt (j : Jn) (e : Bool) (i : Int) (c : Ct) (o : List Int) : St := ⟨[(129, iA i), (3, .ptr 3 0 0), (6, .ptr 6 0 0), (7, .ptr 3000 0 0)], ctX e c o ++ [(3, .box [slA phA j.ph, slA iA j.cf, iA j.st]), (6, zC)]⟩
theorem rstepC_c (j : Jn) (J : JV j) (c : Ct) (C : CV j c) (t : Int) : CallSim Tryz.prog 48 [jnA j, ctA c, iA t] [] (ctA (stF j c t)) [] := by
  have hn := J.n
  have hn8 : j.ph.length ≤ 1000 := by omega
  have hjc := J.c
  have hcn := C.n
  have hcm := C.m
  have hcw := C.w
  have hst := J.st
  have hlp := map_len phA j.ph
  have hll : (c.li.map liA).length = j.ph.length := by rw [List.length_map]; exact hcn
  have hln : (c.nx.map iA).length = 2 := by rw [List.length_map]; exact hcm
  have k3 := copyC_own c (by omega) (by omega)
  unfold stF
  by_cases hw : 0 < c.wt
  · rw [if_pos hw]
    (refine callSim_of tok Tryz.func48 rfl (fun args w => Tryz.call48 args w) rfl rfl rfl (fun F hF => ?_))
    repeat' (first | (refine is_ops ?_; first | (refine is_al7 ?_; refine x_w (nw := [3000]) (stp_alloc tok 3000 rfl rfl) rfl rfl rfl ?_) | refine x_auto tok rfl rfl ?_ | (refine is_call ?_; (first | (refine is_fn 44 ?_; first | refine x_q (stp_call (k3) rfl rfl rfl rfl rfl) rfl ?_ | refine x_w (stp_call (k3) rfl rfl rfl rfl rfl) rfl rfl rfl ?_ | refine x_d (stp_call (k3) rfl rfl rfl rfl rfl) rfl rfl rfl ?_))) | refine x_autow tok rfl rfl rfl rfl ?_ | (refine is_sto ?_; refine x_autos tok rfl rfl rfl ?_) | refine x_nilD (by kernel_rfl) ?_ | refine x_nil ?_) | (first | refine sim_seq ?_ | refine x_region ?_ | refine x_draw rfl ?_ | refine sim_skip ?_ | refine sim_ret ?_ | refine sim_exit ?_))
    (refine WW ?_)
    exact fin_ret [] rfl rfl (ctT_eq ⟨c.li, c.gr, c.nx, c.wt - 1⟩) rfl
  rw [if_neg hw]
  have h0 : c.wt = 0 := by omega
  have CL := cv_ls J C h0 t
  have ls0 := lsM_zero hcn t
  have lsE := lsM_end j c t
  rw [hll] at k3
  have hN : ∀ i, ((lsM j c t i).map liA).length = j.ph.length := fun i => by rw [List.length_map]; exact lsM_len j c t i
  (refine callSim_of tok Tryz.func48 rfl (fun args w => Tryz.call48 args w) rfl rfl rfl (fun F hF => ?_))
  repeat' (first | (refine is_ops ?_; first | (refine is_al7 ?_; refine x_w (nw := [3000]) (stp_alloc tok 3000 rfl rfl) rfl rfl rfl ?_) | refine x_auto tok rfl rfl ?_ | (refine is_call ?_; (first | (refine is_fn 44 ?_; first | refine x_q (stp_call (k3) rfl rfl rfl rfl rfl) rfl ?_ | refine x_w (stp_call (k3) rfl rfl rfl rfl rfl) rfl rfl rfl ?_ | refine x_d (stp_call (k3) rfl rfl rfl rfl rfl) rfl rfl rfl ?_))) | refine x_autow tok rfl rfl rfl rfl ?_ | (refine is_sto ?_; refine x_autos tok rfl rfl rfl ?_) | refine x_nilD (by kernel_rfl) ?_ | refine x_nil ?_) | (first | refine sim_seq ?_ | refine x_region ?_ | refine x_draw rfl ?_ | refine sim_skip ?_ | refine sim_ret ?_ | refine sim_exit ?_))
  (repeat' (first | (refine is_ops ?_; first | refine x_auto tok rfl rfl ?_ | (refine is_call ?_; fail) | (refine is_grd ?_; first | refine x_on rfl rfl ?_ | refine x_off rfl rfl rfl rfl ?_ | (refine x_gsplit rfl rfl (fun hc => ?_) (fun hc => ?_) <;> (try simp only [cmpB, decide_eq_true_eq, decide_eq_false_iff_not, beq_iff_eq, bne_iff_ne, ne_eq, Bool.not_eq_true, beq_eq_false_iff_ne, bne_eq_false_iff_eq, Int.not_lt, Int.not_le, Decidable.not_not] at hc))) | (refine is_bin ?_; first | refine x_q (stp_cmp_t rfl rfl rfl (by unfold cmpP; omega)) rfl ?_ | refine x_q (stp_cmp_f rfl rfl rfl (by unfold cmpP; omega)) rfl ?_ | refine x_q (stp_cmp rfl rfl rfl) rfl ?_ | refine x_q (stp_add rfl rfl ⟨by omega, by omega⟩) rfl ?_ | refine x_q (stp_sub rfl rfl ⟨by omega, by omega⟩) rfl ?_ | refine x_q (stp_mul rfl rfl ⟨by omega, by omega⟩) rfl ?_ | refine x_q (stp_quo rfl rfl (by assumption) (by omega)) rfl ?_ | refine x_q (stp_rem rfl rfl (by omega)) rfl ?_ | refine x_q (stp_xor rfl rfl) rfl ?_ | refine x_q (stp_shlI rfl rfl (by omega)) rfl ?_ | refine x_q (stp_shrI rfl rfl (by omega)) rfl ?_ | refine x_q (stp_shift (.inl ⟨rfl, rfl⟩) rfl rfl (by omega)) rfl ?_ | refine x_q (stp_shift (.inr ⟨rfl, rfl⟩) rfl rfl (by omega)) rfl ?_ | refine x_q (stp_bool2 tok rfl rfl rfl rfl (.inl ⟨rfl, rfl⟩)) rfl ?_ | refine x_q (stp_bool2 tok rfl rfl rfl rfl (.inr ⟨rfl, rfl⟩)) rfl ?_ | refine x_q (stp_eqlNil tok (.inl ⟨rfl, rfl⟩) rfl rfl rfl) rfl ?_ | refine x_q (stp_eqlNil_not tok (.inl ⟨rfl, rfl⟩) rfl rfl rfl rfl) rfl ?_ | refine x_q (stp_andI rfl rfl) rfl ?_ | refine x_q (stp_orI rfl rfl) rfl ?_ | refine x_q (stp_bicI rfl rfl) rfl ?_ | refine x_q (stp_strEqV rfl rfl (by assumption)) rfl ?_ | refine x_q (stp_strEq rfl rfl) rfl ?_ | refine x_q (stp_strNeV rfl rfl (by assumption)) rfl ?_ | refine x_q (stp_strNe rfl rfl) rfl ?_) | (refine is_idx ?_; first | refine x_q (stp_indexAddr_sl tok rfl rfl rfl rfl rfl (by omega) (by first | rfl | assumption) rfl rfl) rfl ?_ | refine x_q (stp_indexAddr_r0 tok rfl rfl rfl rfl rfl rfl (by omega) (by omega) rfl) rfl ?_ | refine x_q (stp_indexAddr_box tok rfl rfl rfl rfl rfl rfl (by omega) (by omega)) rfl ?_) | (refine is_load ?_; first | refine x_q (stp_load_fp1 tok rfl rfl rfl (by first | rfl | assumption) rfl) rfl ?_ | refine x_q (stp_load_fpa tok rfl rfl rfl (by first | rfl | assumption) rfl) rfl ?_ | refine x_q (stp_load_arr1 tok rfl rfl rfl rfl (by first | rfl | assumption) rfl) rfl ?_ | refine x_q (stp_load_arra tok rfl rfl rfl rfl (by first | rfl | assumption) rfl) rfl ?_) | (refine is_fad ?_; first | refine x_q (stp_fieldAddr_arr tok rfl rfl rfl rfl rfl rfl rfl rfl) rfl ?_ | refine x_q (stp_fieldAddr_fp tok rfl (by first | rfl | assumption) rfl rfl rfl rfl rfl rfl) rfl ?_) | (refine is_app ?_; first | refine x_appref0 tok rfl rfl rfl rfl rfl rfl rfl (by first | (intro y hy; cases hy; rfl) | exact map_hd _ _ (fun _ => rfl)) rfl rfl rfl (by first | omega | (simp; done) | (simp; omega)) rfl ?_ | refine x_appref tok rfl rfl rfl rfl rfl rfl rfl rfl rfl rfl rfl (by first | (intro y hy; cases hy; rfl) | exact map_hd _ _ (fun _ => rfl)) (by first | omega | (simp; done) | (simp; omega)) rfl ?_) | (refine is_un ?_; first | refine x_q (stp_neg rfl ⟨by omega, by omega⟩) rfl ?_) | (refine is_conv ?_; first | refine x_q (stp_conv_in tok rfl rfl rfl rfl ⟨by omega, by omega⟩) rfl ?_ | refine x_q (stp_conv tok rfl rfl rfl rfl) rfl ?_ | refine x_q (stp_convStr tok rfl rfl rfl rfl rfl rfl rfl (by first | rfl | assumption)) rfl ?_) | (refine is_slc ?_; first | refine x_slcL tok rfl rfl rfl rfl rfl (by first | (intro y hy; cases hy; rfl) | exact map_hd _ _ (fun _ => rfl) | (simp; done)) (by omega) (by simp; omega) (by first | exact List.map_drop.symm | rfl) rfl ?_ | refine x_slcH tok rfl rfl rfl rfl rfl (by first | (intro y hy; cases hy; rfl) | exact map_hd _ _ (fun _ => rfl) | (simp; done)) (by omega) (by simp; omega) (by first | exact List.map_take.symm | rfl) rfl ?_) | (refine is_mks ?_; refine x_mks tok rfl rfl rfl rfl rfl rfl rfl rfl rfl rfl rfl rfl rfl (by omega) (by omega) rfl rfl rfl ?_) | refine x_autow tok rfl rfl rfl rfl ?_ | (refine is_sto ?_; first | refine x_autos tok rfl rfl rfl ?_ | refine x_stoa tok rfl rfl rfl (by first | rfl | assumption) rfl rfl rfl rfl rfl rfl ?_ | refine x_sto1 tok rfl rfl rfl (by first | rfl | assumption) rfl rfl rfl rfl rfl rfl rfl rfl ?_) | refine x_nil ?_ | refine x_nilD (by kernel_rfl) ?_) | (first | refine sim_seq ?_ | refine x_region ?_ | refine x_draw rfl ?_ | refine sim_skip ?_ | refine sim_ret ?_ | refine sim_exit ?_)))
  refine sim_cond_false rfl (sim_skip ?_)
  refine sim_seq ?_
  refine sim_join [3000, 1001, 1002, 3, 4, 6] [2, 3, 4, 6, 7, 8] ⟨[(2, iA t), (3, .ptr 3 0 0), (4, .ptr 4 0 0), (6, .ptr 6 0 0), (7, .ptr 3000 0 0), (8, bA (aimF j t))], [(3000, .box [.ref 1001 0 j.ph.length, iA c.gr, .ref 1002 0 (c.nx.map iA).length, iA c.wt]), (1001, .arr 2 (c.li.map liA) false), (1002, .arr 1 (c.nx.map iA) false), (3, .box [slA phA j.ph, slA iA j.cf, iA j.st]), (4, .box [slA liA c.li, iA c.gr, slA iA c.nx, iA c.wt]), (6, zC)]⟩ rfl ?_ ?_
  · clear k3 CL
    by_cases a1 : 0 ≤ t
    · by_cases a2 : t < j.ph.length
      · rw [show aimF j t = true from decide_eq_true ⟨a1, a2⟩]
        (refine WW ?_)
        exact ⟨rfl, rfl⟩
      · rw [show aimF j t = false from decide_eq_false (fun h => a2 h.2)]
        (refine WW ?_)
        exact ⟨rfl, rfl⟩
    · rw [show aimF j t = false from decide_eq_false (fun h => a1 h.1)]
      (refine WW ?_)
      exact ⟨rfl, rfl⟩
  clear k3
  (refine WW ?_)
  (refine sim_cnt (j.ph.length) [1001, 3, 6, 3000, 1002] [3, 6, 3000, 1002] [2, 3, 6, 7, 8, 38, 39] [40, 2, 3, 6, 7, 8, 38, 39] rfl (fun i T U => ⟨(40, iA i) :: T, (1001, .arr 2 ((lsM j c t i).map liA) false) :: U⟩) ?_; (conv => whnf); refine ⟨by (rw [ls0]; rfl), ?_, ?_⟩)
  · intro i hi
    have hy := map_at phA j.ph i hi
    change (j.ph.map phA)[i]? = some (phA (phO j i)) at hy
    have hyl := map_at liA c.li i (by omega)
    change (c.li.map liA)[i]? = some (liA (liO c i)) at hyl
    have hym : ∃ l, ((lsM j c t i).map liA)[i]? = some (liA l) := ⟨_, map_at liA (lsM j c t i) i (by rw [lsM_len]; exact hi)⟩
    obtain ⟨lm, hym⟩ := hym
    have hti := J.ti i hi
    have htk := tk_bd (C.k i hi) (by omega) (by omega)
    have hph : PhB (phO j i) := ⟨by omega, by omega, by omega, by omega⟩
    have hNi := hN i
    have ls := fun lv => rstep_c (phO j i) hph (by omega) ⟨by omega, by omega⟩ (liO c i) (C.k i hi) lv
    have ck := rconf_c j.cf (by omega) i t
    have es := lsM_succ j c t i
    have em : (lsM j c t (i + 1)).map liA = ((lsM j c t i).map liA).set i (liA (lpF (phO j i) (liO c i) (lvS j c t i))) := by rw [es, List.map_set]
    rw [em]
    have elv : lvS j c t i = _ := rfl
    conv at elv => rhs; unfold lvS
    have lsv := ls (lvS j c t i)
    clear ls es em CL hN ls0 lsE
    generalize lpF (phO j i) (liO c i) (lvS j c t i) = ln at *
    generalize (lsM j c t i).map liA = xs at *
    generalize lvS j c t i = lv at *
    generalize cfP j.cf i t = cq at *
    cases ha : aimF j t with
    | false =>
      rw [ha] at elv
      rw [if_neg (by decide)] at elv
      generalize phO j i = ph at *
      generalize liO c i = l at *
      by_cases hm : ph.maxg ≤ l.tk + 1
      · rw [decide_eq_true hm] at elv
        subst elv
        (have zc1 := lsv; refine WW ?_; clear zc1)
        rfl
      · rw [decide_eq_false hm] at elv
        subst elv
        (have zc1 := lsv; refine WW ?_; clear zc1)
        rfl
    | true =>
      rw [ha] at elv
      rw [if_pos rfl] at elv
      generalize phO j i = ph at *
      generalize liO c i = l at *
      by_cases hpt : (i : Int) = t
      · rw [decide_eq_false (fun h => h hpt)] at elv
        rw [Bool.false_and] at elv
        subst elv
        by_cases hm : ph.maxg ≤ l.tk + 1
        · (have zc1 := lsv; refine WW ?_; clear zc1)
          rfl
        · (have zc1 := lsv; refine WW ?_; clear zc1)
          rfl
      rw [decide_eq_true hpt, Bool.true_and] at elv
      by_cases hm : ph.maxg ≤ l.tk + 1
      · rw [decide_eq_true hm, Bool.true_or] at elv
        subst elv
        (have zc1 := lsv; refine WW ?_; clear zc1)
        rfl
      · rw [decide_eq_false hm, Bool.false_or] at elv
        rw [elv] at lsv
        clear elv
        cases cq with
        | true =>
          (have zc1 := ck; have zc2 := lsv; refine WW ?_; clear zc1 zc2)
          rfl
        | false =>
          (have zc1 := ck; have zc2 := lsv; refine WW ?_; clear zc1 zc2)
          rfl
  · rw [lsE]
    have e1 : ((lsF j c t).map liA).length = j.ph.length := by simp [lsF]
    have eH : ∀ x : List Li, x = lsF j c t → (x.map liA).length = j.ph.length := fun x h => by rw [h]; exact e1
    clear lsE ls0 hN
    have hcnL := CL.n
    have hcmL := CL.m
    cases ha : aimF j t with
    | true =>
      rw [if_pos rfl]
      unfold aimF at ha
      rw [decide_eq_true_eq] at ha
      obtain ⟨tn, rfl⟩ : ∃ tn : Nat, t = tn := ⟨t.toNat, by omega⟩
      rw [Int.toNat_natCast]
      generalize htn : tn = t at *
      have ht : t < j.ph.length := by omega
      obtain ⟨cl, hcl⟩ : ∃ cl : Ct, cl = ⟨lsF j c t, c.gr, c.nx, c.wt⟩ := ⟨_, rfl⟩
      rw [← hcl] at CL hcnL hcmL
      rw [show lsF j c t = cl.li by rw [hcl]] at e1
      rw [show lsF j c t = cl.li by rw [hcl], show c.gr = cl.gr by rw [hcl], show c.nx = cl.nx by rw [hcl], show c.wt = cl.wt by rw [hcl]]
      rw [show (⟨cl.li, cl.gr, cl.nx, cl.wt⟩ : Ct) = cl from rfl]
      have h0' : cl.wt = 0 := by rw [hcl]; exact h0
      clear hcl eH
      have hc_cl : cl.li.length = j.ph.length := hcnL
      have hm_cl : cl.nx.length = 2 := hcmL
      have C_cl := CL
      obtain ⟨C_c1, h01⟩ := cv_sv J C_cl h0' ht 0
      have hc_c1 := C_c1.n
      have hm_c1 := C_c1.m
      have hgr1 := svS_gr J (c := cl) (r := 0) ht
      have heq_cl : cl.gr = cl.gr := rfl
      (refine WW ?_)
      refine sim_two [3000, 1001, 1002, 2001, 3, 6] [83, 2, 3, 6, 7] (rsSt j t false 0 cl cl.nx) (rsSt j t (decide ((svS j t cl 0).gr ≠ cl.gr)) 1 (svS j t cl 0) cl.nx) (rsSt j t (decide ((svS j t (svS j t cl 0) 1).gr ≠ cl.gr)) 2 (svS j t (svS j t cl 0) 1) (if (svS j t cl 0).gr = cl.gr then (svS j t cl 0).nx else cl.nx)) rfl (by unfold rsSt; rw [show ctX false cl cl.nx = ctH cl 1002 from rfl]; unfold ctH; rw [e1]; rfl) ?_ ?_ ?_
      · unfold rsSt
        clear hgr1 hc_c1 hm_c1 h01 C_c1
        rw [show ctX false cl cl.nx = ctH cl 1002 from rfl]
        unfold ctH
        have hxv := C_cl.v 0 (by omega)
        have cc := cand_t j hn8 (by omega) cl hm_cl 0 (by omega) t ht (by rcases hxv with h | h; exact .inl h; exact .inr h.1)
        have cd := idle_t j hn8 cl hc_cl 0
        by_cases hm1 : svP j cl 0 t = -1
        · rw [hm1] at cc
          rw [show svS j t cl 0 = cl by unfold svS; rw [if_pos hm1]; split <;> rfl]
          rw [show decide (cl.gr ≠ cl.gr) = false from decide_eq_false (fun h => h heq_cl)]
          clear cd hxv hm1
          (have zc1 := cc; refine WW ?_; clear zc1)
          rfl
        obtain ⟨p, hpe, hp, hpg⟩ := svP_gr J (c := cl) (r := 0) ht hm1
        rw [hpe] at cc
        cases hd : dkF j cl 0 with
        | false =>
          rw [hd] at cd
          rw [show svS j t cl 0 = cl by unfold svS; rw [if_neg (by rw [hd]; decide)]]
          rw [show decide (cl.gr ≠ cl.gr) = false from decide_eq_false (fun h => h heq_cl)]
          clear hd hm1 hpe hxv
          (have zc1 := cc; have zc2 := cd; refine WW ?_; clear zc1 zc2)
          rfl
        | true =>
        rw [hd] at cd
        have hsv : svS j t cl 0 = bgF j cl p := by unfold svS; rw [if_pos hd, if_neg hm1, hpe, Int.toNat_natCast]
        clear hm1 hpe hxv hd
        by_cases hk : kpF j cl p = true ∨ cl.gr = (phO j p).group
        · have cb := rbegin_c j J hn8 (by omega) cl hc_cl hm_cl p hp (J.rg p hp) hk
          have hg2 : (bgF j cl p).gr = cl.gr := by
            rcases bgF_gr j cl p with h | h
            · exact (congrArg Ct.gr h.2).trans heq_cl
            · rcases hk with hk | hk
              · rw [hk] at h; cases h.1
              · exact h.2.trans (hk.symm.trans heq_cl)
          rw [hsv, show decide ((bgF j cl p).gr ≠ cl.gr) = false from decide_eq_false (fun h => h hg2)]
          generalize bgF j cl p = b at *
          clear hsv hg2 hk
          unfold ctH at cb
          (have zc1 := cc; have zc2 := cd; have zc3 := cb; refine WW ?_; clear zc1 zc2 zc3)
          rfl
        · have hk1 : kpF j cl p = false := by
            cases h : kpF j cl p with
            | false => rfl
            | true => exact absurd (.inl h) hk
          have hk2 : cl.gr ≠ (phO j p).group := fun h => hk (.inr h)
          have cb := rbegin_e j J hn8 (by omega) cl hc_cl hm_cl p hp (J.rg p hp) hk1 hk2
          have hg2 : (bgF j cl p).gr ≠ cl.gr := by
            rcases bgF_gr j cl p with h | h
            · rw [hk1] at h; cases h.1
            · rw [h.2, ← heq_cl]; exact fun h => hk2 h.symm
          rw [hsv, show decide ((bgF j cl p).gr ≠ cl.gr) = true from decide_eq_true hg2]
          generalize bgF j cl p = b at *
          clear hsv hg2 hk hk1 hk2
          unfold ctH ctE at cb
          (have zc1 := cc; have zc2 := cd; have zc3 := cb; refine WW ?_; clear zc1 zc2 zc3)
          rfl
      · clear hc_cl hm_cl heq_cl
        have he1 := hgr1
        generalize svS j t cl 0 = c1 at *
        unfold rsSt
        by_cases heq_c1 : c1.gr = cl.gr
        · rw [if_pos heq_c1, decide_eq_false (fun h => h heq_c1)]
          rw [show ctX false c1 cl.nx = ctH c1 1002 from rfl]
          unfold ctH
          have hxv := C_c1.v 1 (by omega)
          have cc := cand_t j hn8 (by omega) c1 hm_c1 1 (by omega) t ht (by rcases hxv with h | h; exact .inl h; exact .inr h.1)
          have cd := idle_t j hn8 c1 hc_c1 1
          by_cases hm1 : svP j c1 1 t = -1
          · rw [hm1] at cc
            rw [show svS j t c1 1 = c1 by unfold svS; rw [if_pos hm1]; split <;> rfl]
            rw [show decide (c1.gr ≠ cl.gr) = false from decide_eq_false (fun h => h heq_c1)]
            clear cd hxv hm1
            (have zc1 := cc; refine WW ?_; clear zc1)
            rfl
          obtain ⟨p, hpe, hp, hpg⟩ := svP_gr J (c := c1) (r := 1) ht hm1
          rw [hpe] at cc
          cases hd : dkF j c1 1 with
          | false =>
            rw [hd] at cd
            rw [show svS j t c1 1 = c1 by unfold svS; rw [if_neg (by rw [hd]; decide)]]
            rw [show decide (c1.gr ≠ cl.gr) = false from decide_eq_false (fun h => h heq_c1)]
            clear hd hm1 hpe hxv
            (have zc1 := cc; have zc2 := cd; refine WW ?_; clear zc1 zc2)
            rfl
          | true =>
          rw [hd] at cd
          have hsv : svS j t c1 1 = bgF j c1 p := by unfold svS; rw [if_pos hd, if_neg hm1, hpe, Int.toNat_natCast]
          clear hm1 hpe hxv hd
          by_cases hk : kpF j c1 p = true ∨ c1.gr = (phO j p).group
          · have cb := rbegin_c j J hn8 (by omega) c1 hc_c1 hm_c1 p hp (J.rg p hp) hk
            have hg2 : (bgF j c1 p).gr = cl.gr := by
              rcases bgF_gr j c1 p with h | h
              · exact (congrArg Ct.gr h.2).trans heq_c1
              · rcases hk with hk | hk
                · rw [hk] at h; cases h.1
                · exact h.2.trans (hk.symm.trans heq_c1)
            rw [hsv, show decide ((bgF j c1 p).gr ≠ cl.gr) = false from decide_eq_false (fun h => h hg2)]
            generalize bgF j c1 p = b at *
            clear hsv hg2 hk
            unfold ctH at cb
            (have zc1 := cc; have zc2 := cd; have zc3 := cb; refine WW ?_; clear zc1 zc2 zc3)
            rfl
          · have hk1 : kpF j c1 p = false := by
              cases h : kpF j c1 p with
              | false => rfl
              | true => exact absurd (.inl h) hk
            have hk2 : c1.gr ≠ (phO j p).group := fun h => hk (.inr h)
            have cb := rbegin_e j J hn8 (by omega) c1 hc_c1 hm_c1 p hp (J.rg p hp) hk1 hk2
            have hg2 : (bgF j c1 p).gr ≠ cl.gr := by
              rcases bgF_gr j c1 p with h | h
              · rw [hk1] at h; cases h.1
              · rw [h.2, ← heq_c1]; exact fun h => hk2 h.symm
            rw [hsv, show decide ((bgF j c1 p).gr ≠ cl.gr) = true from decide_eq_true hg2]
            generalize bgF j c1 p = b at *
            clear hsv hg2 hk hk1 hk2
            unfold ctH ctE at cb
            (have zc1 := cc; have zc2 := cd; have zc3 := cb; refine WW ?_; clear zc1 zc2 zc3)
            rfl
        · have hne_c1 : c1.gr ≠ cl.gr := heq_c1
          have hgt_c1 : c1.gr = (phO j t).group := by
            rcases he1 with h | h
            · exact absurd h hne_c1
            · exact h
          rw [if_neg heq_c1, decide_eq_true hne_c1]
          rw [show ctX true c1 cl.nx = ctE c1 cl.nx from rfl]
          unfold ctE
          have hxv := C_c1.v 1 (by omega)
          have cc := cand_t j hn8 (by omega) c1 hm_c1 1 (by omega) t ht (by rcases hxv with h | h; exact .inl h; exact .inr h.1)
          have cd := idle_t j hn8 c1 hc_c1 1
          by_cases hm1 : svP j c1 1 t = -1
          · rw [hm1] at cc
            rw [show svS j t c1 1 = c1 by unfold svS; rw [if_pos hm1]; split <;> rfl]
            rw [show decide (c1.gr ≠ cl.gr) = true from decide_eq_true hne_c1]
            clear cd hxv hm1
            (have zc1 := cc; refine WW ?_; clear zc1)
            rfl
          obtain ⟨p, hpe, hp, hpg⟩ := svP_gr J (c := c1) (r := 1) ht hm1
          rw [hpe] at cc
          cases hd : dkF j c1 1 with
          | false =>
            rw [hd] at cd
            rw [show svS j t c1 1 = c1 by unfold svS; rw [if_neg (by rw [hd]; decide)]]
            rw [show decide (c1.gr ≠ cl.gr) = true from decide_eq_true hne_c1]
            clear hd hm1 hpe hxv
            (have zc1 := cc; have zc2 := cd; refine WW ?_; clear zc1 zc2)
            rfl
          | true =>
          rw [hd] at cd
          have hsv : svS j t c1 1 = bgF j c1 p := by unfold svS; rw [if_pos hd, if_neg hm1, hpe, Int.toNat_natCast]
          clear hm1 hpe hxv hd
          have cb := rbegin_d j J hn8 (by omega) c1 hc_c1 hm_c1 p hp (J.rg p hp) (.inr (hgt_c1.trans (hpg : (phO j p).group = (phO j t).group).symm))
          have hg2 : (bgF j c1 p).gr ≠ cl.gr := by
            rcases bgF_gr j c1 p with h | h
            · rw [h.2]; exact hne_c1
            · rw [h.2, (hpg : (phO j p).group = (phO j t).group), ← hgt_c1]; exact hne_c1
          rw [hsv, show decide ((bgF j c1 p).gr ≠ cl.gr) = true from decide_eq_true hg2]
          generalize bgF j c1 p = b at *
          clear hsv hg2
          unfold ctH at cb
          (have zc1 := cc; have zc2 := cd; have zc3 := cb; refine WW ?_; clear zc1 zc2 zc3)
          rfl
      · generalize (if (svS j t cl 0).gr = cl.gr then (svS j t cl 0).nx else cl.nx) = o at *
        generalize svS j t (svS j t cl 0) 1 = c2 at *
        unfold rsSt
        by_cases he : c2.gr = cl.gr
        · rw [decide_eq_false (fun h => h he)]
          (refine WW ?_)
          exact fin_ret [] rfl rfl (ctT_eq c2) rfl
        · rw [decide_eq_true he]
          (refine WW ?_)
          exact fin_ret [] rfl rfl (ctT_eq c2) rfl
    | false =>
      rw [if_neg (by decide)]
      obtain ⟨cl, hcl⟩ : ∃ cl : Ct, cl = ⟨lsF j c t, c.gr, c.nx, c.wt⟩ := ⟨_, rfl⟩
      rw [← hcl] at CL hcnL hcmL
      rw [show lsF j c t = cl.li by rw [hcl]] at e1
      rw [show lsF j c t = cl.li by rw [hcl], show c.gr = cl.gr by rw [hcl], show c.nx = cl.nx by rw [hcl], show c.wt = cl.wt by rw [hcl]]
      rw [show (⟨cl.li, cl.gr, cl.nx, cl.wt⟩ : Ct) = cl from rfl]
      have h0' : cl.wt = 0 := by rw [hcl]; exact h0
      clear hcl eH
      have hlc := map_len iA cl.nx
      have C := CL
      have cg := rgroups_c j hn8 J.gp
      have hgp := grF_pos J
      have hgl : grF j ≤ 4 := by
        have : ∀ n, n ≤ j.ph.length → grN j.ph n ≤ 4 := fun n => by
          induction n with
          | zero => intro _; show (0 : Int) ≤ 4; omega
          | succ n ih =>
            intro h
            have h1 := ih (by omega)
            have h2 := J.gp n (by omega)
            unfold phO at h2
            unfold grN
            omega
        exact this _ (Nat.le_refl _)
      have hcg := C.g
      have htm : (cl.gr + 1).tmod (grF j) = (cl.gr + 1) % grF j := Int.tmod_eq_emod_of_nonneg (by omega)
      have hO : ovN cl cl.nx.length = cyO cl := by unfold ovN cyO; rw [List.take_length]
      have ho0 : ovN cl 0 = decide (seF cl = 0) := by rw [← seF_ar cl (by omega)]; unfold ovN; simp
      have ks := rset_t cl (by omega)
      unfold ctT at ks
      rw [e1] at ks
      have hxv := fun (i : Nat) (hi : i < 2) => C.v i hi
      clear CL hcw hw

      (refine WW ?_)
      by_cases hse : seF cl = 0
      · have hse2 : decide (seF cl = 0) = true := decide_eq_true hse
        rw [hse2] at ho0
        generalize seF cl = se at *
        (have zc1 := ks; refine WW ?_; clear zc1)
        (refine sim_cnt (cl.nx.length) [3, 6, 3000, 1001, 1002] [3, 6, 3000, 1001, 1002] [3, 6, 7, 108, 109] [14, 110, 3, 6, 7, 108, 109] rfl (fun i T U => ⟨(14, bA (ovN cl i)) :: (110, iA i) :: T, U⟩) ?_; (conv => whnf); refine ⟨by (rw [ho0]; rfl), ?_, ?_⟩)
        · intro i hi
          have hy := map_at iA cl.nx i hi
          have hx := hxv i (by omega)
          have hx2 : cl.nx.getD i default = -1 ∨ 0 ≤ cl.nx.getD i default := by rcases hx with h | h; exact .inl h; exact .inr h.1
          have es := ovN_succ cl i hi
          rw [es]
          clear hxv hx es cg ks hO ho0
          generalize ovN cl i = o at *
          generalize cl.nx.getD i default = x at *
          by_cases hx : x = -1
          · rw [show (x == -1) = true by rw [beq_iff_eq]; exact hx, Bool.and_true]
            cases o with
            | false =>
              (refine WW ?_)
              rfl
            | true =>
              (refine WW ?_)
              rfl
          · rw [show (x == -1) = false by rw [beq_eq_false_iff_ne]; exact hx, Bool.and_false]
            cases o with
            | false =>
              (refine WW ?_)
              rfl
            | true =>
              (refine WW ?_)
              rfl
        · rw [hO]
          clear ho0 hO ks hxv
          cases hco : cyO cl with
          | true =>
            have hcy : cyF j cl = cyS j (cyS j (etF j cl ((cl.gr + 1) % grF j)) 0) 1 := by unfold cyF; rw [if_pos hco]
            rw [hcy]
            have hgm : 0 ≤ (cl.gr + 1) % grF j ∧ (cl.gr + 1) % grF j < grF j := ⟨Int.emod_nonneg _ (by omega), Int.emod_lt_of_pos _ (by omega)⟩
            have C_c0 := cv_et C hgm
            have hw0 : (etF j cl ((cl.gr + 1) % grF j)).wt = 0 := h0'
            have ce := renter_c j hn8 ((cl.gr + 1) % grF j) cl.gr cl.wt (cl.li.map liA) (cl.nx.map iA) j.ph.length (cl.nx.map iA).length
            have hct : ([(3000, .box [.ref 1001 0 j.ph.length, iA ((cl.gr + 1) % grF j), .ref 2001 0 2, iA cl.wt]), (1001, .arr 2 (cl.li.map liA) false), (1002, .arr 1 (cl.nx.map iA) false), (2001, .arr 1 [iA (flF j 0 ((cl.gr + 1) % grF j) 0), iA (flF j 1 ((cl.gr + 1) % grF j) 0)] false)] : List (Nat × Ent)) = ctE (etF j cl ((cl.gr + 1) % grF j)) cl.nx := by
              unfold ctE
              rw [show ((etF j cl ((cl.gr + 1) % grF j)).li.map liA).length = j.ph.length from e1]
              rfl
            rw [hct] at ce
            clear hct
            rw [← htm] at ce
            rw [htm] at ce
            generalize hc0 : etF j cl ((cl.gr + 1) % grF j) = c0 at *
            rw [← htm] at ce
            have hne : ¬ grF j = 0 := by omega
            generalize grF j = gm at *
            have hc_c0 := C_c0.n
            have hm_c0 := C_c0.m
            obtain ⟨C_c1, h01⟩ := cv_cy1 J C_c0 hw0 (r := 0) (by omega)
            have hc_c1 := C_c1.n
            have hm_c1 := C_c1.m
            change CV j (cyS j c0 0) at C_c1
            change (cyS j c0 0).li.length = j.ph.length at hc_c1
            change (cyS j c0 0).nx.length = 2 at hm_c1
            clear hcy hc0 C
            unfold ctE at ce
            (have zc1 := cg; have zc2 := ce; refine WW ?_; clear zc1 zc2)
            refine sim_two [3000, 1001, 1002, 2001, 3, 6] [129, 3, 6, 7] (rcSt j true 0 c0 cl.nx) (rcSt j true 1 (cyS j c0 0) cl.nx) (rcSt j true 2 (cyS j (cyS j c0 0) 1) cl.nx) rfl rfl ?_ ?_ ?_
            · unfold rcSt
              rw [show ctX true c0 cl.nx = ctE c0 cl.nx from rfl]
              unfold ctE
              have cd := idle_t j hn8 c0 hc_c0 0
              have hyn := map_at iA c0.nx 0 (by omega)
              have hv := C_c0.v 0 (by omega)
              have hnl : (c0.nx.map iA).length = 2 := by rw [List.length_map]; exact hm_c0
              cases hd : dkF j c0 0 with
              | false =>
                rw [hd] at cd
                rw [show cyS j c0 0 = c0 by unfold cyS; rw [if_neg (by rw [hd]; simp)]]
                clear hd
                (have zc1 := cd; refine WW ?_; clear zc1)
                rfl
              | true =>
              rw [hd] at cd
              have hsv : cyS j c0 0 = if c0.nx.getD 0 default = -1 then c0 else bgF j c0 (c0.nx.getD 0 default).toNat := by
                unfold cyS
                rw [hd]
                show (if true = true ∧ c0.nx.getD 0 default ≠ -1 then bgF j c0 (c0.nx.getD 0 default).toNat else c0) = _
                by_cases h : c0.nx.getD 0 default = -1
                · rw [if_pos h, if_neg (fun k => k.2 h)]
                · rw [if_neg h, if_pos ⟨rfl, h⟩]
              clear hd
              by_cases hm1 : c0.nx.getD 0 default = -1
              · rw [if_pos hm1] at hsv
                rw [hsv]
                clear hsv hv
                generalize c0.nx.getD 0 default = x at *
                (have zc1 := cd; refine WW ?_; clear zc1)
                rfl
              · rw [if_neg hm1] at hsv
                have hin : InO j (0 : Nat) c0.gr (c0.nx.getD 0 default) := by
                  rcases hv with h | h
                  · exact absurd h hm1
                  · exact h
                obtain ⟨i1, i2, i3, i4⟩ := hin
                obtain ⟨p, hpe⟩ : ∃ p : Nat, c0.nx.getD 0 default = p := ⟨(c0.nx.getD 0 default).toNat, by omega⟩
                rw [hpe] at hsv hyn hm1 i2 i4
                rw [Int.toNat_natCast] at hsv i4
                have hp : p < j.ph.length := by omega
                have cb := rbegin_d j J hn8 (by omega) c0 hc_c0 hm_c0 p hp (J.rg p hp) (.inr i4.symm)
                rw [hsv]
                clear hsv hv i1 i2 i3 i4 hpe
                generalize bgF j c0 p = b at *
                unfold ctH at cb
                (have zc1 := cd; have zc2 := cb; refine WW ?_; clear zc1 zc2)
                rfl
            · generalize cyS j c0 0 = c1 at *
              unfold rcSt
              rw [show ctX true c1 cl.nx = ctE c1 cl.nx from rfl]
              unfold ctE
              have cd := idle_t j hn8 c1 hc_c1 1
              have hyn := map_at iA c1.nx 1 (by omega)
              have hv := C_c1.v 1 (by omega)
              have hnl : (c1.nx.map iA).length = 2 := by rw [List.length_map]; exact hm_c1
              cases hd : dkF j c1 1 with
              | false =>
                rw [hd] at cd
                rw [show cyS j c1 1 = c1 by unfold cyS; rw [if_neg (by rw [hd]; simp)]]
                clear hd
                (have zc1 := cd; refine WW ?_; clear zc1)
                rfl
              | true =>
              rw [hd] at cd
              have hsv : cyS j c1 1 = if c1.nx.getD 1 default = -1 then c1 else bgF j c1 (c1.nx.getD 1 default).toNat := by
                unfold cyS
                rw [hd]
                show (if true = true ∧ c1.nx.getD 1 default ≠ -1 then bgF j c1 (c1.nx.getD 1 default).toNat else c1) = _
                by_cases h : c1.nx.getD 1 default = -1
                · rw [if_pos h, if_neg (fun k => k.2 h)]
                · rw [if_neg h, if_pos ⟨rfl, h⟩]
              clear hd
              by_cases hm1 : c1.nx.getD 1 default = -1
              · rw [if_pos hm1] at hsv
                rw [hsv]
                clear hsv hv
                generalize c1.nx.getD 1 default = x at *
                (have zc1 := cd; refine WW ?_; clear zc1)
                rfl
              · rw [if_neg hm1] at hsv
                have hin : InO j (1 : Nat) c1.gr (c1.nx.getD 1 default) := by
                  rcases hv with h | h
                  · exact absurd h hm1
                  · exact h
                obtain ⟨i1, i2, i3, i4⟩ := hin
                obtain ⟨p, hpe⟩ : ∃ p : Nat, c1.nx.getD 1 default = p := ⟨(c1.nx.getD 1 default).toNat, by omega⟩
                rw [hpe] at hsv hyn hm1 i2 i4
                rw [Int.toNat_natCast] at hsv i4
                have hp : p < j.ph.length := by omega
                have cb := rbegin_d j J hn8 (by omega) c1 hc_c1 hm_c1 p hp (J.rg p hp) (.inr i4.symm)
                rw [hsv]
                clear hsv hv i1 i2 i3 i4 hpe
                generalize bgF j c1 p = b at *
                unfold ctH at cb
                (have zc1 := cd; have zc2 := cb; refine WW ?_; clear zc1 zc2)
                rfl
            · generalize cyS j (cyS j c0 0) 1 = c2 at *
              unfold rcSt
              (refine WW ?_)
              exact fin_ret [] rfl rfl (ctT_eq c2) rfl
          | false =>
            have hcy : cyF j cl = cyS j (cyS j cl 0) 1 := by unfold cyF; rw [if_neg (by rw [hco]; decide)]
            rw [hcy]
            clear cg htm hcy hgp hgl hcg
            have C_cl := C
            have hc_cl := hcnL
            have hm_cl := hcmL
            obtain ⟨C_c1, h01⟩ := cv_cy1 J C h0' (r := 0) (by omega)
            have hc_c1 := C_c1.n
            have hm_c1 := C_c1.m
            change CV j (cyS j cl 0) at C_c1
            change (cyS j cl 0).li.length = j.ph.length at hc_c1
            change (cyS j cl 0).nx.length = 2 at hm_c1
            clear hco
            (refine WW ?_)
            refine sim_two [3000, 1001, 1002, 2001, 3, 6] [129, 3, 6, 7] (rcSt j false 0 cl cl.nx) (rcSt j false 1 (cyS j cl 0) cl.nx) (rcSt j false 2 (cyS j (cyS j cl 0) 1) cl.nx) rfl (by unfold rcSt; rw [show ctX false cl cl.nx = ctH cl 1002 from rfl]; unfold ctH; rw [e1]; rfl) ?_ ?_ ?_
            · unfold rcSt
              rw [show ctX false cl cl.nx = ctH cl 1002 from rfl]
              unfold ctH
              have cd := idle_t j hn8 cl hc_cl 0
              have hyn := map_at iA cl.nx 0 (by omega)
              have hv := C_cl.v 0 (by omega)
              have hnl : (cl.nx.map iA).length = 2 := by rw [List.length_map]; exact hm_cl
              cases hd : dkF j cl 0 with
              | false =>
                rw [hd] at cd
                rw [show cyS j cl 0 = cl by unfold cyS; rw [if_neg (by rw [hd]; simp)]]
                clear hd
                (have zc1 := cd; refine WW ?_; clear zc1)
                rfl
              | true =>
              rw [hd] at cd
              have hsv : cyS j cl 0 = if cl.nx.getD 0 default = -1 then cl else bgF j cl (cl.nx.getD 0 default).toNat := by
                unfold cyS
                rw [hd]
                show (if true = true ∧ cl.nx.getD 0 default ≠ -1 then bgF j cl (cl.nx.getD 0 default).toNat else cl) = _
                by_cases h : cl.nx.getD 0 default = -1
                · rw [if_pos h, if_neg (fun k => k.2 h)]
                · rw [if_neg h, if_pos ⟨rfl, h⟩]
              clear hd
              by_cases hm1 : cl.nx.getD 0 default = -1
              · rw [if_pos hm1] at hsv
                rw [hsv]
                clear hsv hv
                generalize cl.nx.getD 0 default = x at *
                (have zc1 := cd; refine WW ?_; clear zc1)
                rfl
              · rw [if_neg hm1] at hsv
                have hin : InO j (0 : Nat) cl.gr (cl.nx.getD 0 default) := by
                  rcases hv with h | h
                  · exact absurd h hm1
                  · exact h
                obtain ⟨i1, i2, i3, i4⟩ := hin
                obtain ⟨p, hpe⟩ : ∃ p : Nat, cl.nx.getD 0 default = p := ⟨(cl.nx.getD 0 default).toNat, by omega⟩
                rw [hpe] at hsv hyn hm1 i2 i4
                rw [Int.toNat_natCast] at hsv i4
                have hp : p < j.ph.length := by omega
                have cb := rbegin_c j J hn8 (by omega) cl hc_cl hm_cl p hp (J.rg p hp) (.inr i4.symm)
                rw [hsv]
                clear hsv hv i1 i2 i3 i4 hpe
                generalize bgF j cl p = b at *
                unfold ctH at cb
                (have zc1 := cd; have zc2 := cb; refine WW ?_; clear zc1 zc2)
                rfl
            · generalize cyS j cl 0 = c1 at *
              unfold rcSt
              rw [show ctX false c1 cl.nx = ctH c1 1002 from rfl]
              unfold ctH
              have cd := idle_t j hn8 c1 hc_c1 1
              have hyn := map_at iA c1.nx 1 (by omega)
              have hv := C_c1.v 1 (by omega)
              have hnl : (c1.nx.map iA).length = 2 := by rw [List.length_map]; exact hm_c1
              cases hd : dkF j c1 1 with
              | false =>
                rw [hd] at cd
                rw [show cyS j c1 1 = c1 by unfold cyS; rw [if_neg (by rw [hd]; simp)]]
                clear hd
                (have zc1 := cd; refine WW ?_; clear zc1)
                rfl
              | true =>
              rw [hd] at cd
              have hsv : cyS j c1 1 = if c1.nx.getD 1 default = -1 then c1 else bgF j c1 (c1.nx.getD 1 default).toNat := by
                unfold cyS
                rw [hd]
                show (if true = true ∧ c1.nx.getD 1 default ≠ -1 then bgF j c1 (c1.nx.getD 1 default).toNat else c1) = _
                by_cases h : c1.nx.getD 1 default = -1
                · rw [if_pos h, if_neg (fun k => k.2 h)]
                · rw [if_neg h, if_pos ⟨rfl, h⟩]
              clear hd
              by_cases hm1 : c1.nx.getD 1 default = -1
              · rw [if_pos hm1] at hsv
                rw [hsv]
                clear hsv hv
                generalize c1.nx.getD 1 default = x at *
                (have zc1 := cd; refine WW ?_; clear zc1)
                rfl
              · rw [if_neg hm1] at hsv
                have hin : InO j (1 : Nat) c1.gr (c1.nx.getD 1 default) := by
                  rcases hv with h | h
                  · exact absurd h hm1
                  · exact h
                obtain ⟨i1, i2, i3, i4⟩ := hin
                obtain ⟨p, hpe⟩ : ∃ p : Nat, c1.nx.getD 1 default = p := ⟨(c1.nx.getD 1 default).toNat, by omega⟩
                rw [hpe] at hsv hyn hm1 i2 i4
                rw [Int.toNat_natCast] at hsv i4
                have hp : p < j.ph.length := by omega
                have cb := rbegin_c j J hn8 (by omega) c1 hc_c1 hm_c1 p hp (J.rg p hp) (.inr i4.symm)
                rw [hsv]
                clear hsv hv i1 i2 i3 i4 hpe
                generalize bgF j c1 p = b at *
                unfold ctH at cb
                (have zc1 := cd; have zc2 := cb; refine WW ?_; clear zc1 zc2)
                rfl
            · generalize cyS j (cyS j cl 0) 1 = c2 at *
              unfold rcSt
              (refine WW ?_)
              exact fin_ret [] rfl rfl (ctT_eq c2) rfl
      · have hse2 : decide (seF cl = 0) = false := decide_eq_false hse
        rw [hse2] at ho0
        generalize seF cl = se at *
        (have zc1 := ks; refine WW ?_; clear zc1)
        (refine sim_cnt (cl.nx.length) [3, 6, 3000, 1001, 1002] [3, 6, 3000, 1001, 1002] [3, 6, 7, 108, 109] [14, 110, 3, 6, 7, 108, 109] rfl (fun i T U => ⟨(14, bA (ovN cl i)) :: (110, iA i) :: T, U⟩) ?_; (conv => whnf); refine ⟨by (rw [ho0]; rfl), ?_, ?_⟩)
        · intro i hi
          have hy := map_at iA cl.nx i hi
          have hx := hxv i (by omega)
          have hx2 : cl.nx.getD i default = -1 ∨ 0 ≤ cl.nx.getD i default := by rcases hx with h | h; exact .inl h; exact .inr h.1
          have es := ovN_succ cl i hi
          rw [es]
          clear hxv hx es cg ks hO ho0
          generalize ovN cl i = o at *
          generalize cl.nx.getD i default = x at *
          by_cases hx : x = -1
          · rw [show (x == -1) = true by rw [beq_iff_eq]; exact hx, Bool.and_true]
            cases o with
            | false =>
              (refine WW ?_)
              rfl
            | true =>
              (refine WW ?_)
              rfl
          · rw [show (x == -1) = false by rw [beq_eq_false_iff_ne]; exact hx, Bool.and_false]
            cases o with
            | false =>
              (refine WW ?_)
              rfl
            | true =>
              (refine WW ?_)
              rfl
        · rw [hO]
          clear ho0 hO ks hxv
          cases hco : cyO cl with
          | true =>
            have hcy : cyF j cl = cyS j (cyS j (etF j cl ((cl.gr + 1) % grF j)) 0) 1 := by unfold cyF; rw [if_pos hco]
            rw [hcy]
            have hgm : 0 ≤ (cl.gr + 1) % grF j ∧ (cl.gr + 1) % grF j < grF j := ⟨Int.emod_nonneg _ (by omega), Int.emod_lt_of_pos _ (by omega)⟩
            have C_c0 := cv_et C hgm
            have hw0 : (etF j cl ((cl.gr + 1) % grF j)).wt = 0 := h0'
            have ce := renter_c j hn8 ((cl.gr + 1) % grF j) cl.gr cl.wt (cl.li.map liA) (cl.nx.map iA) j.ph.length (cl.nx.map iA).length
            have hct : ([(3000, .box [.ref 1001 0 j.ph.length, iA ((cl.gr + 1) % grF j), .ref 2001 0 2, iA cl.wt]), (1001, .arr 2 (cl.li.map liA) false), (1002, .arr 1 (cl.nx.map iA) false), (2001, .arr 1 [iA (flF j 0 ((cl.gr + 1) % grF j) 0), iA (flF j 1 ((cl.gr + 1) % grF j) 0)] false)] : List (Nat × Ent)) = ctE (etF j cl ((cl.gr + 1) % grF j)) cl.nx := by
              unfold ctE
              rw [show ((etF j cl ((cl.gr + 1) % grF j)).li.map liA).length = j.ph.length from e1]
              rfl
            rw [hct] at ce
            clear hct
            rw [← htm] at ce
            rw [htm] at ce
            generalize hc0 : etF j cl ((cl.gr + 1) % grF j) = c0 at *
            rw [← htm] at ce
            have hne : ¬ grF j = 0 := by omega
            generalize grF j = gm at *
            have hc_c0 := C_c0.n
            have hm_c0 := C_c0.m
            obtain ⟨C_c1, h01⟩ := cv_cy1 J C_c0 hw0 (r := 0) (by omega)
            have hc_c1 := C_c1.n
            have hm_c1 := C_c1.m
            change CV j (cyS j c0 0) at C_c1
            change (cyS j c0 0).li.length = j.ph.length at hc_c1
            change (cyS j c0 0).nx.length = 2 at hm_c1
            clear hcy hc0 C
            unfold ctE at ce
            (have zc1 := cg; have zc2 := ce; refine WW ?_; clear zc1 zc2)
            refine sim_two [3000, 1001, 1002, 2001, 3, 6] [129, 3, 6, 7] (rcSt j true 0 c0 cl.nx) (rcSt j true 1 (cyS j c0 0) cl.nx) (rcSt j true 2 (cyS j (cyS j c0 0) 1) cl.nx) rfl rfl ?_ ?_ ?_
            · unfold rcSt
              rw [show ctX true c0 cl.nx = ctE c0 cl.nx from rfl]
              unfold ctE
              have cd := idle_t j hn8 c0 hc_c0 0
              have hyn := map_at iA c0.nx 0 (by omega)
              have hv := C_c0.v 0 (by omega)
              have hnl : (c0.nx.map iA).length = 2 := by rw [List.length_map]; exact hm_c0
              cases hd : dkF j c0 0 with
              | false =>
                rw [hd] at cd
                rw [show cyS j c0 0 = c0 by unfold cyS; rw [if_neg (by rw [hd]; simp)]]
                clear hd
                (have zc1 := cd; refine WW ?_; clear zc1)
                rfl
              | true =>
              rw [hd] at cd
              have hsv : cyS j c0 0 = if c0.nx.getD 0 default = -1 then c0 else bgF j c0 (c0.nx.getD 0 default).toNat := by
                unfold cyS
                rw [hd]
                show (if true = true ∧ c0.nx.getD 0 default ≠ -1 then bgF j c0 (c0.nx.getD 0 default).toNat else c0) = _
                by_cases h : c0.nx.getD 0 default = -1
                · rw [if_pos h, if_neg (fun k => k.2 h)]
                · rw [if_neg h, if_pos ⟨rfl, h⟩]
              clear hd
              by_cases hm1 : c0.nx.getD 0 default = -1
              · rw [if_pos hm1] at hsv
                rw [hsv]
                clear hsv hv
                generalize c0.nx.getD 0 default = x at *
                (have zc1 := cd; refine WW ?_; clear zc1)
                rfl
              · rw [if_neg hm1] at hsv
                have hin : InO j (0 : Nat) c0.gr (c0.nx.getD 0 default) := by
                  rcases hv with h | h
                  · exact absurd h hm1
                  · exact h
                obtain ⟨i1, i2, i3, i4⟩ := hin
                obtain ⟨p, hpe⟩ : ∃ p : Nat, c0.nx.getD 0 default = p := ⟨(c0.nx.getD 0 default).toNat, by omega⟩
                rw [hpe] at hsv hyn hm1 i2 i4
                rw [Int.toNat_natCast] at hsv i4
                have hp : p < j.ph.length := by omega
                have cb := rbegin_d j J hn8 (by omega) c0 hc_c0 hm_c0 p hp (J.rg p hp) (.inr i4.symm)
                rw [hsv]
                clear hsv hv i1 i2 i3 i4 hpe
                generalize bgF j c0 p = b at *
                unfold ctH at cb
                (have zc1 := cd; have zc2 := cb; refine WW ?_; clear zc1 zc2)
                rfl
            · generalize cyS j c0 0 = c1 at *
              unfold rcSt
              rw [show ctX true c1 cl.nx = ctE c1 cl.nx from rfl]
              unfold ctE
              have cd := idle_t j hn8 c1 hc_c1 1
              have hyn := map_at iA c1.nx 1 (by omega)
              have hv := C_c1.v 1 (by omega)
              have hnl : (c1.nx.map iA).length = 2 := by rw [List.length_map]; exact hm_c1
              cases hd : dkF j c1 1 with
              | false =>
                rw [hd] at cd
                rw [show cyS j c1 1 = c1 by unfold cyS; rw [if_neg (by rw [hd]; simp)]]
                clear hd
                (have zc1 := cd; refine WW ?_; clear zc1)
                rfl
              | true =>
              rw [hd] at cd
              have hsv : cyS j c1 1 = if c1.nx.getD 1 default = -1 then c1 else bgF j c1 (c1.nx.getD 1 default).toNat := by
                unfold cyS
                rw [hd]
                show (if true = true ∧ c1.nx.getD 1 default ≠ -1 then bgF j c1 (c1.nx.getD 1 default).toNat else c1) = _
                by_cases h : c1.nx.getD 1 default = -1
                · rw [if_pos h, if_neg (fun k => k.2 h)]
                · rw [if_neg h, if_pos ⟨rfl, h⟩]
              clear hd
              by_cases hm1 : c1.nx.getD 1 default = -1
              · rw [if_pos hm1] at hsv
                rw [hsv]
                clear hsv hv
                generalize c1.nx.getD 1 default = x at *
                (have zc1 := cd; refine WW ?_; clear zc1)
                rfl
              · rw [if_neg hm1] at hsv
                have hin : InO j (1 : Nat) c1.gr (c1.nx.getD 1 default) := by
                  rcases hv with h | h
                  · exact absurd h hm1
                  · exact h
                obtain ⟨i1, i2, i3, i4⟩ := hin
                obtain ⟨p, hpe⟩ : ∃ p : Nat, c1.nx.getD 1 default = p := ⟨(c1.nx.getD 1 default).toNat, by omega⟩
                rw [hpe] at hsv hyn hm1 i2 i4
                rw [Int.toNat_natCast] at hsv i4
                have hp : p < j.ph.length := by omega
                have cb := rbegin_d j J hn8 (by omega) c1 hc_c1 hm_c1 p hp (J.rg p hp) (.inr i4.symm)
                rw [hsv]
                clear hsv hv i1 i2 i3 i4 hpe
                generalize bgF j c1 p = b at *
                unfold ctH at cb
                (have zc1 := cd; have zc2 := cb; refine WW ?_; clear zc1 zc2)
                rfl
            · generalize cyS j (cyS j c0 0) 1 = c2 at *
              unfold rcSt
              (refine WW ?_)
              exact fin_ret [] rfl rfl (ctT_eq c2) rfl
          | false =>
            have hcy : cyF j cl = cyS j (cyS j cl 0) 1 := by unfold cyF; rw [if_neg (by rw [hco]; decide)]
            rw [hcy]
            clear cg htm hcy hgp hgl hcg
            have C_cl := C
            have hc_cl := hcnL
            have hm_cl := hcmL
            obtain ⟨C_c1, h01⟩ := cv_cy1 J C h0' (r := 0) (by omega)
            have hc_c1 := C_c1.n
            have hm_c1 := C_c1.m
            change CV j (cyS j cl 0) at C_c1
            change (cyS j cl 0).li.length = j.ph.length at hc_c1
            change (cyS j cl 0).nx.length = 2 at hm_c1
            clear hco
            (refine WW ?_)
            refine sim_two [3000, 1001, 1002, 2001, 3, 6] [129, 3, 6, 7] (rcSt j false 0 cl cl.nx) (rcSt j false 1 (cyS j cl 0) cl.nx) (rcSt j false 2 (cyS j (cyS j cl 0) 1) cl.nx) rfl (by unfold rcSt; rw [show ctX false cl cl.nx = ctH cl 1002 from rfl]; unfold ctH; rw [e1]; rfl) ?_ ?_ ?_
            · unfold rcSt
              rw [show ctX false cl cl.nx = ctH cl 1002 from rfl]
              unfold ctH
              have cd := idle_t j hn8 cl hc_cl 0
              have hyn := map_at iA cl.nx 0 (by omega)
              have hv := C_cl.v 0 (by omega)
              have hnl : (cl.nx.map iA).length = 2 := by rw [List.length_map]; exact hm_cl
              cases hd : dkF j cl 0 with
              | false =>
                rw [hd] at cd
                rw [show cyS j cl 0 = cl by unfold cyS; rw [if_neg (by rw [hd]; simp)]]
                clear hd
                (have zc1 := cd; refine WW ?_; clear zc1)
                rfl
              | true =>
              rw [hd] at cd
              have hsv : cyS j cl 0 = if cl.nx.getD 0 default = -1 then cl else bgF j cl (cl.nx.getD 0 default).toNat := by
                unfold cyS
                rw [hd]
                show (if true = true ∧ cl.nx.getD 0 default ≠ -1 then bgF j cl (cl.nx.getD 0 default).toNat else cl) = _
                by_cases h : cl.nx.getD 0 default = -1
                · rw [if_pos h, if_neg (fun k => k.2 h)]
                · rw [if_neg h, if_pos ⟨rfl, h⟩]
              clear hd
              by_cases hm1 : cl.nx.getD 0 default = -1
              · rw [if_pos hm1] at hsv
                rw [hsv]
                clear hsv hv
                generalize cl.nx.getD 0 default = x at *
                (have zc1 := cd; refine WW ?_; clear zc1)
                rfl
              · rw [if_neg hm1] at hsv
                have hin : InO j (0 : Nat) cl.gr (cl.nx.getD 0 default) := by
                  rcases hv with h | h
                  · exact absurd h hm1
                  · exact h
                obtain ⟨i1, i2, i3, i4⟩ := hin
                obtain ⟨p, hpe⟩ : ∃ p : Nat, cl.nx.getD 0 default = p := ⟨(cl.nx.getD 0 default).toNat, by omega⟩
                rw [hpe] at hsv hyn hm1 i2 i4
                rw [Int.toNat_natCast] at hsv i4
                have hp : p < j.ph.length := by omega
                have cb := rbegin_c j J hn8 (by omega) cl hc_cl hm_cl p hp (J.rg p hp) (.inr i4.symm)
                rw [hsv]
                clear hsv hv i1 i2 i3 i4 hpe
                generalize bgF j cl p = b at *
                unfold ctH at cb
                (have zc1 := cd; have zc2 := cb; refine WW ?_; clear zc1 zc2)
                rfl
            · generalize cyS j cl 0 = c1 at *
              unfold rcSt
              rw [show ctX false c1 cl.nx = ctH c1 1002 from rfl]
              unfold ctH
              have cd := idle_t j hn8 c1 hc_c1 1
              have hyn := map_at iA c1.nx 1 (by omega)
              have hv := C_c1.v 1 (by omega)
              have hnl : (c1.nx.map iA).length = 2 := by rw [List.length_map]; exact hm_c1
              cases hd : dkF j c1 1 with
              | false =>
                rw [hd] at cd
                rw [show cyS j c1 1 = c1 by unfold cyS; rw [if_neg (by rw [hd]; simp)]]
                clear hd
                (have zc1 := cd; refine WW ?_; clear zc1)
                rfl
              | true =>
              rw [hd] at cd
              have hsv : cyS j c1 1 = if c1.nx.getD 1 default = -1 then c1 else bgF j c1 (c1.nx.getD 1 default).toNat := by
                unfold cyS
                rw [hd]
                show (if true = true ∧ c1.nx.getD 1 default ≠ -1 then bgF j c1 (c1.nx.getD 1 default).toNat else c1) = _
                by_cases h : c1.nx.getD 1 default = -1
                · rw [if_pos h, if_neg (fun k => k.2 h)]
                · rw [if_neg h, if_pos ⟨rfl, h⟩]
              clear hd
              by_cases hm1 : c1.nx.getD 1 default = -1
              · rw [if_pos hm1] at hsv
                rw [hsv]
                clear hsv hv
                generalize c1.nx.getD 1 default = x at *
                (have zc1 := cd; refine WW ?_; clear zc1)
                rfl
              · rw [if_neg hm1] at hsv
                have hin : InO j (1 : Nat) c1.gr (c1.nx.getD 1 default) := by
                  rcases hv with h | h
                  · exact absurd h hm1
                  · exact h
                obtain ⟨i1, i2, i3, i4⟩ := hin
                obtain ⟨p, hpe⟩ : ∃ p : Nat, c1.nx.getD 1 default = p := ⟨(c1.nx.getD 1 default).toNat, by omega⟩
                rw [hpe] at hsv hyn hm1 i2 i4
                rw [Int.toNat_natCast] at hsv i4
                have hp : p < j.ph.length := by omega
                have cb := rbegin_c j J hn8 (by omega) c1 hc_c1 hm_c1 p hp (J.rg p hp) (.inr i4.symm)
                rw [hsv]
                clear hsv hv i1 i2 i3 i4 hpe
                generalize bgF j c1 p = b at *
                unfold ctH at cb
                (have zc1 := cd; have zc2 := cb; refine WW ?_; clear zc1 zc2)
                rfl
            · generalize cyS j (cyS j cl 0) 1 = c2 at *
              unfold rcSt
              (refine WW ?_)
              exact fin_ret [] rfl rfl (ctT_eq c2) rfl
end Av
end Go.Proofs.YtkliodbbcblobaaGreat
