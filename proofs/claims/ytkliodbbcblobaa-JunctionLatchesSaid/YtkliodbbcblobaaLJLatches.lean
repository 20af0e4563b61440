/- The law JunctionLatches. -/
import Derived.Test.YtkliodbbcblobaaJuC
namespace Go.Proofs.Ytkliodbbcblobaa
namespace Av
set_option linter.unusedSimpArgs false
set_option linter.unusedVariables false
set_option maxRecDepth 4000
set_option maxHeartbeats 1000000
theorem latches_c (l : List Int) (hl : l.length ≤ 9223372036854775807) (m : List Int) (hm : m.length ≤ 9223372036854775807) (tg sk : Int) : CallSim Try.prog 6 [slA iA l, slA iA m, iA tg, iA sk] [] (bA true) [] := by
  have aw := awake11_c
  have hn := new_c l hl
  have hn2 := new_c m hm
  generalize (⟨l, 0, Nat.zero_le _, hl⟩ : Dk) = d0 at *
  generalize (⟨m, 0, Nat.zero_le _, hm⟩ : Dk) = e0 at *
  have cj := junction_c d0
  have J := jv_jnF d0
  generalize jnF d0 = j at *
  generalize jnD d0 = d1 at *
  have hjn := J.n
  have hjc := J.c
  have cc := control_c j J e0
  have CC := ctF_v J e0
  generalize ctF j e0 = c0 at *
  generalize ctD j e0 = e1 at *
  have hlp := map_len phA j.ph
  have hlc := map_len iA j.cf
  have cm1 := mod_c sk (((j.ph.map phA).length : Int) + 1) (by omega) (by omega)
  have b1 := Int.emod_nonneg sk (show ((j.ph.map phA).length : Int) + 1 ≠ 0 by omega)
  have b2 := Int.emod_lt_of_pos sk (show 0 < ((j.ph.map phA).length : Int) + 1 by omega)
  have cm2 := mod_c tg (((j.ph.map phA).length : Int) + 1) (by omega) (by omega)
  have b3 := Int.emod_nonneg tg (show ((j.ph.map phA).length : Int) + 1 ≠ 0 by omega)
  have b4 := Int.emod_lt_of_pos tg (show 0 < ((j.ph.map phA).length : Int) + 1 by omega)
  generalize sk % (((j.ph.map phA).length : Int) + 1) = k1 at *
  generalize tg % (((j.ph.map phA).length : Int) + 1) = t1 at *
  have C1 := cv_st J CC (t1 - 1)
  have hC1 := C1.n
  have hC2 := C1.m
  have s1 := sstep_c j J ⟨c0, false⟩ CC (t1 - 1) (k1 - 1)
  have s2 := rstepC_c j J c0 CC (t1 - 1)
  have e1 : sjF j ⟨c0, false⟩ (t1 - 1) (k1 - 1) = ⟨stF j c0 (t1 - 1), wtB j (stF j c0 (t1 - 1)) (k1 - 1) (stF j c0 (t1 - 1)).li.length⟩ := by
    unfold sjF
    rw [if_neg Bool.false_ne_true]
    dsimp only
    rw [fb_wt J C1 _ (by omega)]
  rw [e1] at s1
  have sa := csame_c (stF j c0 (t1 - 1)) (by omega) (by omega)
  clear e1
  generalize stF j c0 (t1 - 1) = x at *
  have hlx := map_len liA x.li
  (refine callSim_of tok Try.func6 rfl (fun args w => Try.call6 args w) rfl rfl rfl (fun F hF => ?_))
  (repeat' (first | (refine is_ops ?_; first | refine x_auto tok rfl rfl ?_ | (refine is_call ?_; (first | (refine is_fn 14 ?_; first | refine x_q (stp_call (hn) rfl rfl rfl rfl rfl) rfl ?_ | refine x_w (stp_call (hn) rfl rfl rfl rfl rfl) rfl rfl rfl ?_ | refine x_d (stp_call (hn) rfl rfl rfl rfl rfl) rfl rfl rfl ?_) | (refine is_fn 15 ?_; first | refine x_q (stp_call (cj) rfl rfl rfl rfl rfl) rfl ?_ | refine x_w (stp_call (cj) rfl rfl rfl rfl rfl) rfl rfl rfl ?_ | refine x_d (stp_call (cj) rfl rfl rfl rfl rfl) rfl rfl rfl ?_))) | (refine is_grd ?_; first | refine x_on rfl rfl ?_ | refine x_off rfl rfl rfl rfl ?_ | (refine x_gsplit rfl rfl (fun hc => ?_) (fun hc => ?_) <;> (try simp only [cmpB, decide_eq_true_eq, decide_eq_false_iff_not, beq_iff_eq, bne_iff_ne, ne_eq, Bool.not_eq_true, beq_eq_false_iff_ne, bne_eq_false_iff_eq, Int.not_lt, Int.not_le, Decidable.not_not] at hc))) | (refine is_bin ?_; first | refine x_q (stp_cmp_t rfl rfl rfl (by unfold cmpP; omega)) rfl ?_ | refine x_q (stp_cmp_f rfl rfl rfl (by unfold cmpP; omega)) rfl ?_ | refine x_q (stp_cmp rfl rfl rfl) rfl ?_ | refine x_q (stp_add rfl rfl ⟨by omega, by omega⟩) rfl ?_ | refine x_q (stp_sub rfl rfl ⟨by omega, by omega⟩) rfl ?_ | refine x_q (stp_mul rfl rfl ⟨by omega, by omega⟩) rfl ?_ | refine x_q (stp_quo rfl rfl (by assumption) (by omega)) rfl ?_ | refine x_q (stp_rem rfl rfl (by omega)) rfl ?_ | refine x_q (stp_xor rfl rfl) rfl ?_ | refine x_q (stp_shlI rfl rfl (by omega)) rfl ?_ | refine x_q (stp_shrI rfl rfl (by omega)) rfl ?_ | refine x_q (stp_shift (.inl ⟨rfl, rfl⟩) rfl rfl (by omega)) rfl ?_ | refine x_q (stp_shift (.inr ⟨rfl, rfl⟩) rfl rfl (by omega)) rfl ?_ | refine x_q (stp_bool2 tok rfl rfl rfl rfl (.inl ⟨rfl, rfl⟩)) rfl ?_ | refine x_q (stp_bool2 tok rfl rfl rfl rfl (.inr ⟨rfl, rfl⟩)) rfl ?_ | refine x_q (stp_eqlNil tok (.inl ⟨rfl, rfl⟩) rfl rfl rfl) rfl ?_ | refine x_q (stp_eqlNil_not tok (.inl ⟨rfl, rfl⟩) rfl rfl rfl rfl) rfl ?_ | refine x_q (stp_andI rfl rfl) rfl ?_ | refine x_q (stp_orI rfl rfl) rfl ?_ | refine x_q (stp_bicI rfl rfl) rfl ?_ | refine x_q (stp_strEqV rfl rfl (by assumption)) rfl ?_ | refine x_q (stp_strEq rfl rfl) rfl ?_ | refine x_q (stp_strNeV rfl rfl (by assumption)) rfl ?_ | refine x_q (stp_strNe rfl rfl) rfl ?_) | (refine is_idx ?_; first | refine x_q (stp_indexAddr_sl tok rfl rfl rfl rfl rfl (by omega) (by first | rfl | assumption) rfl rfl) rfl ?_ | refine x_q (stp_indexAddr_r0 tok rfl rfl rfl rfl rfl rfl (by omega) (by omega) rfl) rfl ?_ | refine x_q (stp_indexAddr_box tok rfl rfl rfl rfl rfl rfl (by omega) (by omega)) rfl ?_) | (refine is_load ?_; first | refine x_q (stp_load_fp1 tok rfl rfl rfl (by first | rfl | assumption) rfl) rfl ?_ | refine x_q (stp_load_fpa tok rfl rfl rfl (by first | rfl | assumption) rfl) rfl ?_ | refine x_q (stp_load_arr1 tok rfl rfl rfl rfl (by first | rfl | assumption) rfl) rfl ?_ | refine x_q (stp_load_arra tok rfl rfl rfl rfl (by first | rfl | assumption) rfl) rfl ?_) | (refine is_fad ?_; first | refine x_q (stp_fieldAddr_arr tok rfl rfl rfl rfl rfl rfl rfl rfl) rfl ?_ | refine x_q (stp_fieldAddr_fp tok rfl (by first | rfl | assumption) rfl rfl rfl rfl rfl rfl) rfl ?_) | (refine is_app ?_; first | refine x_appref0 tok rfl rfl rfl rfl rfl rfl rfl (by first | (intro y hy; cases hy; rfl) | exact map_hd _ _ (fun _ => rfl)) rfl rfl rfl (by first | omega | (simp; done) | (simp; omega)) rfl ?_ | refine x_appref tok rfl rfl rfl rfl rfl rfl rfl rfl rfl rfl rfl (by first | (intro y hy; cases hy; rfl) | exact map_hd _ _ (fun _ => rfl)) (by first | omega | (simp; done) | (simp; omega)) rfl ?_) | (refine is_un ?_; first | refine x_q (stp_neg rfl ⟨by omega, by omega⟩) rfl ?_) | (refine is_conv ?_; first | refine x_q (stp_conv_in tok rfl rfl rfl rfl ⟨by omega, by omega⟩) rfl ?_ | refine x_q (stp_conv tok rfl rfl rfl rfl) rfl ?_ | refine x_q (stp_convStr tok rfl rfl rfl rfl rfl rfl rfl (by first | rfl | assumption)) rfl ?_) | (refine is_slc ?_; first | refine x_slcL tok rfl rfl rfl rfl rfl (by first | (intro y hy; cases hy; rfl) | exact map_hd _ _ (fun _ => rfl) | (simp; done)) (by omega) (by simp; omega) (by first | exact List.map_drop.symm | rfl) rfl ?_ | refine x_slcH tok rfl rfl rfl rfl rfl (by first | (intro y hy; cases hy; rfl) | exact map_hd _ _ (fun _ => rfl) | (simp; done)) (by omega) (by simp; omega) (by first | exact List.map_take.symm | rfl) rfl ?_) | fail | refine x_autow tok rfl rfl rfl rfl ?_ | (refine is_sto ?_; first | refine x_autos tok rfl rfl rfl ?_ | refine x_stoa tok rfl rfl rfl (by first | rfl | assumption) rfl rfl rfl rfl rfl rfl ?_ | refine x_sto1 tok rfl rfl rfl (by first | rfl | assumption) rfl rfl rfl rfl rfl rfl rfl rfl ?_) | refine x_nil ?_ | refine x_nilD (by kernel_rfl) ?_) | (first | refine sim_seq ?_ | refine x_region ?_ | refine sim_cond_true rfl ?_ | refine sim_cond_false rfl ?_ | refine sim_skip ?_ | refine sim_ret ?_ | refine sim_exit ?_)))
  refine sim_restr (st' := ⟨[(1, slA iA m), (2, iA tg), (3, iA sk), (8, bA false), (9, .ptr 9 0 0)], [(9, .box [slA phA j.ph, slA iA j.cf, iA j.st])]⟩) [9] [1, 2, 3, 8, 9] rfl rfl ?_
  clear cj hn
  (have zc1 := hn2; have zc2 := cc; have zc3 := cm1; have zc4 := cm2; have zc5 := s1; have zc6 := s2; refine WW ?_; clear zc1 zc2 zc3 zc4 zc5 zc6)
  (refine sim_cnt (x.li.length) [9, 13, 14] [9, 13, 14] [9, 11, 13, 14, 51, 52] [15, 53, 9, 11, 13, 14, 51, 52] rfl (fun i T U => ⟨(15, bA (wtB j x (k1 - 1) i)) :: (53, iA i) :: T, U⟩) ?_; (conv => whnf); refine ⟨by rfl, ?_, ?_⟩)
  · intro i hi
    have hy := map_at liA x.li i hi
    change (x.li.map liA)[i]? = some (liA (liO x i)) at hy
    rw [show wtB j x (k1 - 1) (i + 1) = (wtB j x (k1 - 1) i || wtO j x (k1 - 1) i) from rfl]
    clear aw hn2 cc cm1 cm2 s1 s2 sa
    generalize wtB j x (k1 - 1) i = w at *
    cases w with
    | true =>
      rw [Bool.true_or]
      generalize liO x i = a at *
      (refine WW ?_)
      rfl
    | false =>
      rw [Bool.false_or]
      by_cases hk : 0 ≤ k1 - 1 ∧ (i : Int) ≠ k1 - 1
      case neg =>
        rw [show wtO j x (k1 - 1) i = false by unfold wtO; rw [decide_eq_false hk]; rfl]
        generalize liO x i = a at *
        by_cases hk0 : 0 ≤ k1 - 1
        · have hki : (i : Int) = k1 - 1 := Classical.byContradiction fun h => hk ⟨hk0, h⟩
          clear hk
          (refine WW ?_)
          rfl
        · clear hk
          (refine WW ?_)
          rfl
      obtain ⟨hk0, hki⟩ := hk
      have hyc := map_atI iA j.cf (k1 - 1) hk0 (by omega)
      obtain ⟨kk, hkk⟩ : ∃ kk : Nat, k1 - 1 = kk := ⟨(k1 - 1).toNat, by omega⟩
      have ew : wtO j x (k1 - 1) i = ((andI (shrI (j.cf.getD (k1 - 1).toNat default) i) 1 == 1) && nrB (liO x i).lamp) := by
        unfold wtO
        rw [decide_eq_true ⟨hk0, hki⟩, Bool.true_and, hkk, cf_at J kk i (by omega) (by omega), Int.toNat_natCast]
      rw [ew]
      clear ew hkk kk
      generalize liO x i = a at *
      generalize j.cf.getD (k1 - 1).toNat default = row at *
      unfold nrB
      by_cases hb : andI (shrI row i) 1 = 1
      · rw [show (andI (shrI row i) 1 == 1) = true by rw [beq_iff_eq]; exact hb, Bool.true_and]
        by_cases ha : a.lamp = 1
        · rw [decide_eq_true (.inl ha)]
          (refine WW ?_)
          rfl
        · by_cases ha2 : a.lamp = 2
          · rw [decide_eq_true (.inr ha2)]
            (refine WW ?_)
            rfl
          · rw [decide_eq_false (fun h => by rcases h with h | h; exact ha h; exact ha2 h)]
            (refine WW ?_)
            rfl
      · rw [show (andI (shrI row i) 1 == 1) = false by rw [beq_eq_false_iff_ne]; exact hb, Bool.false_and]
        (refine WW ?_)
        rfl
  · clear hn2 cc cm1 cm2 s1 s2
    generalize wtB j x (k1 - 1) x.li.length = w at *
    cases w with
    | true =>
      (have zc1 := sa; have zc2 := aw; refine WW ?_; clear zc1 zc2)
      exact fin_ret [] rfl rfl rfl rfl
    | false =>
      (have zc1 := sa; have zc2 := aw; refine WW ?_; clear zc1 zc2)
      exact fin_ret [] rfl rfl rfl rfl
end Av
end Go.Proofs.Ytkliodbbcblobaa
