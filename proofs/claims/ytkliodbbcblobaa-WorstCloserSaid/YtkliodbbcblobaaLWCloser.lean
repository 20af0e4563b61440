/- The law WorstCloser. -/
import Derived.Test.YtkliodbbcblobaaWoB
namespace Go.Proofs.Ytkliodbbcblobaa
namespace Av
set_option linter.unusedSimpArgs false
set_option linter.unusedVariables false
set_option maxRecDepth 4000
set_option maxHeartbeats 1000000
theorem wcloser_c (l : List Int) (hl : l.length ≤ 9223372036854775807) (m : List Int) (hm : m.length ≤ 9223372036854775807) (tg : Int) : CallSim Try.prog 9 [slA iA l, slA iA m, iA tg] [] (bA true) [] := by
  have aw := awake12_c
  have hn := new_c l hl
  have hn2 := new_c m hm
  generalize (⟨l, 0, Nat.zero_le _, hl⟩ : Dk) = d0 at *
  generalize (⟨m, 0, Nat.zero_le _, hm⟩ : Dk) = e0 at *
  have cj := junction_c d0
  have J := jv_jnF d0
  have hq := jn_quick d0
  generalize jnF d0 = j at *
  generalize jnD d0 = d1 at *
  have hjn := J.n
  have cc := control_c j J e0
  have CC := ctF_v J e0
  generalize ctF j e0 = c0 at *
  generalize ctD j e0 = e1 at *
  have hlp := map_len phA j.ph
  have cm := mod_c tg (j.ph.map phA).length (by omega) (by omega)
  have bm := Int.emod_nonneg tg (show ((j.ph.map phA).length : Int) ≠ 0 by omega)
  have bm2 := Int.emod_lt_of_pos tg (show 0 < ((j.ph.map phA).length : Int) by omega)
  obtain ⟨t, ht⟩ : ∃ t : Nat, tg % ((j.ph.map phA).length : Int) = t := ⟨(tg % ((j.ph.map phA).length : Int)).toNat, by omega⟩
  rw [ht] at cm bm bm2
  have htn : t < j.ph.length := by omega
  obtain ⟨k, h1, h2, h3⟩ := reach_ex J CC htn
  have r0 := wreach_c j J c0 CC t htn k h1 h2 h3
  have ri : ∀ i, CallSim Try.prog 35 [jnA j, ctA (stI j c0 t i), iA t] [] (iA ((k - i : Nat) : Int)) [] := fun i => by
    have C1 := stI_v J CC t i
    by_cases hi : i ≤ k
    · refine wreach_c j J _ C1 t htn (k - i) (by omega) ?_ (fun n hn => ?_)
      · rw [stI_add, show i + (k - i) = k by omega]; exact h2
      · rw [stI_add]; exact h3 _ (by omega)
    · refine wreach_c j J _ C1 t htn (k - i) (by omega) ?_ (fun n hn => by omega)
      rw [show k - i = 0 by omega]
      show (liO (stI j c0 t i) t).lamp = 1
      obtain ⟨m, rfl⟩ : ∃ m, i = k + m := ⟨i - k, by omega⟩
      rw [← stI_add]
      exact stay_k J (stI_v J CC t k) htn h2 m
  have CV1 := fun i => stI_v J CC t i
  obtain ⟨N, hN⟩ : ∃ n : Nat, n = 12 := ⟨12, rfl⟩
  (refine callSim_of tok Try.func9 rfl (fun args w => Try.call9 args w) rfl rfl rfl (fun F hF => ?_))
  (repeat' (first | (refine is_ops ?_; first | refine x_auto tok rfl rfl ?_ | (refine is_call ?_; (first | (refine is_fn 14 ?_; first | refine x_q (stp_call (hn) rfl rfl rfl rfl rfl) rfl ?_ | refine x_w (stp_call (hn) rfl rfl rfl rfl rfl) rfl rfl rfl ?_ | refine x_d (stp_call (hn) rfl rfl rfl rfl rfl) rfl rfl rfl ?_) | (refine is_fn 15 ?_; first | refine x_q (stp_call (cj) rfl rfl rfl rfl rfl) rfl ?_ | refine x_w (stp_call (cj) rfl rfl rfl rfl rfl) rfl rfl rfl ?_ | refine x_d (stp_call (cj) rfl rfl rfl rfl rfl) rfl rfl rfl ?_))) | (refine is_grd ?_; first | refine x_on rfl rfl ?_ | refine x_off rfl rfl rfl rfl ?_ | (refine x_gsplit rfl rfl (fun hc => ?_) (fun hc => ?_) <;> (try simp only [cmpB, decide_eq_true_eq, decide_eq_false_iff_not, beq_iff_eq, bne_iff_ne, ne_eq, Bool.not_eq_true, beq_eq_false_iff_ne, bne_eq_false_iff_eq, Int.not_lt, Int.not_le, Decidable.not_not] at hc))) | (refine is_bin ?_; first | refine x_q (stp_cmp_t rfl rfl rfl (by unfold cmpP; omega)) rfl ?_ | refine x_q (stp_cmp_f rfl rfl rfl (by unfold cmpP; omega)) rfl ?_ | refine x_q (stp_cmp rfl rfl rfl) rfl ?_ | refine x_q (stp_add rfl rfl ⟨by omega, by omega⟩) rfl ?_ | refine x_q (stp_sub rfl rfl ⟨by omega, by omega⟩) rfl ?_ | refine x_q (stp_mul rfl rfl ⟨by omega, by omega⟩) rfl ?_ | refine x_q (stp_quo rfl rfl (by assumption) (by omega)) rfl ?_ | refine x_q (stp_rem rfl rfl (by omega)) rfl ?_ | refine x_q (stp_xor rfl rfl) rfl ?_ | refine x_q (stp_shlI rfl rfl (by omega)) rfl ?_ | refine x_q (stp_shrI rfl rfl (by omega)) rfl ?_ | refine x_q (stp_shift (.inl ⟨rfl, rfl⟩) rfl rfl (by omega)) rfl ?_ | refine x_q (stp_shift (.inr ⟨rfl, rfl⟩) rfl rfl (by omega)) rfl ?_ | refine x_q (stp_bool2 tok rfl rfl rfl rfl (.inl ⟨rfl, rfl⟩)) rfl ?_ | refine x_q (stp_bool2 tok rfl rfl rfl rfl (.inr ⟨rfl, rfl⟩)) rfl ?_ | refine x_q (stp_eqlNil tok (.inl ⟨rfl, rfl⟩) rfl rfl rfl) rfl ?_ | refine x_q (stp_eqlNil_not tok (.inl ⟨rfl, rfl⟩) rfl rfl rfl rfl) rfl ?_ | refine x_q (stp_andI rfl rfl) rfl ?_ | refine x_q (stp_orI rfl rfl) rfl ?_ | refine x_q (stp_bicI rfl rfl) rfl ?_ | refine x_q (stp_strEqV rfl rfl (by assumption)) rfl ?_ | refine x_q (stp_strEq rfl rfl) rfl ?_ | refine x_q (stp_strNeV rfl rfl (by assumption)) rfl ?_ | refine x_q (stp_strNe rfl rfl) rfl ?_) | (refine is_idx ?_; first | refine x_q (stp_indexAddr_sl tok rfl rfl rfl rfl rfl (by omega) (by first | rfl | assumption) rfl rfl) rfl ?_ | refine x_q (stp_indexAddr_r0 tok rfl rfl rfl rfl rfl rfl (by omega) (by omega) rfl) rfl ?_ | refine x_q (stp_indexAddr_box tok rfl rfl rfl rfl rfl rfl (by omega) (by omega)) rfl ?_) | (refine is_load ?_; first | refine x_q (stp_load_fp1 tok rfl rfl rfl (by first | rfl | assumption) rfl) rfl ?_ | refine x_q (stp_load_fpa tok rfl rfl rfl (by first | rfl | assumption) rfl) rfl ?_ | refine x_q (stp_load_arr1 tok rfl rfl rfl rfl (by first | rfl | assumption) rfl) rfl ?_ | refine x_q (stp_load_arra tok rfl rfl rfl rfl (by first | rfl | assumption) rfl) rfl ?_) | (refine is_fad ?_; first | refine x_q (stp_fieldAddr_arr tok rfl rfl rfl rfl rfl rfl rfl rfl) rfl ?_ | refine x_q (stp_fieldAddr_fp tok rfl (by first | rfl | assumption) rfl rfl rfl rfl rfl rfl) rfl ?_) | (refine is_app ?_; first | refine x_appref0 tok rfl rfl rfl rfl rfl rfl rfl (by first | (intro y hy; cases hy; rfl) | exact map_hd _ _ (fun _ => rfl)) rfl rfl rfl (by first | omega | (simp; done) | (simp; omega)) rfl ?_ | refine x_appref tok rfl rfl rfl rfl rfl rfl rfl rfl rfl rfl rfl (by first | (intro y hy; cases hy; rfl) | exact map_hd _ _ (fun _ => rfl)) (by first | omega | (simp; done) | (simp; omega)) rfl ?_) | (refine is_un ?_; first | refine x_q (stp_neg rfl ⟨by omega, by omega⟩) rfl ?_) | (refine is_conv ?_; first | refine x_q (stp_conv_in tok rfl rfl rfl rfl ⟨by omega, by omega⟩) rfl ?_ | refine x_q (stp_conv tok rfl rfl rfl rfl) rfl ?_ | refine x_q (stp_convStr tok rfl rfl rfl rfl rfl rfl rfl (by first | rfl | assumption)) rfl ?_) | (refine is_slc ?_; first | refine x_slcL tok rfl rfl rfl rfl rfl (by first | (intro y hy; cases hy; rfl) | exact map_hd _ _ (fun _ => rfl) | (simp; done)) (by omega) (by simp; omega) (by first | exact List.map_drop.symm | rfl) rfl ?_ | refine x_slcH tok rfl rfl rfl rfl rfl (by first | (intro y hy; cases hy; rfl) | exact map_hd _ _ (fun _ => rfl) | (simp; done)) (by omega) (by simp; omega) (by first | exact List.map_take.symm | rfl) rfl ?_) | fail | refine x_autow tok rfl rfl rfl rfl ?_ | (refine is_sto ?_; first | refine x_autos tok rfl rfl rfl ?_ | refine x_stoa tok rfl rfl rfl (by first | rfl | assumption) rfl rfl rfl rfl rfl rfl ?_ | refine x_sto1 tok rfl rfl rfl (by first | rfl | assumption) rfl rfl rfl rfl rfl rfl rfl rfl ?_) | refine x_nil ?_ | refine x_nilD (by kernel_rfl) ?_) | (first | refine sim_seq ?_ | refine x_region ?_ | refine sim_cond_true rfl ?_ | refine sim_cond_false rfl ?_ | refine sim_skip ?_ | refine sim_ret ?_ | refine sim_exit ?_)))
  refine sim_restr (st' := ⟨[(1, slA iA m), (2, iA tg), (6, bA false), (7, .ptr 7 0 0)], [(7, .box [slA phA j.ph, slA iA j.cf, iA j.st])]⟩) [7] [1, 2, 6, 7] rfl rfl ?_
  clear cj hn
  (have zc1 := hn2; have zc2 := cc; have zc3 := cm; have zc4 := r0; refine WW ?_; clear zc1 zc2 zc3 zc4)
  (refine sim_cnt (N) [8, 7] [7] [7, 8, 9] [10, 28, 7, 8, 9] rfl (fun i T U => ⟨(10, iA ((k - i : Nat) : Int)) :: (28, iA i) :: T, (8, .box [slA liA (stI j c0 t i).li, iA (stI j c0 t i).gr, slA iA (stI j c0 t i).nx, iA (stI j c0 t i).wt]) :: U⟩) ?_; (conv => whnf); refine ⟨by rfl, ?_, ?_⟩)
  · intro i hi
    have C0 := CV1 i
    have cs := rstepC_c j J (stI j c0 t i) C0 t
    rw [show stF j (stI j c0 t i) t = stI j c0 t (i + 1) from rfl] at cs
    have r1 := ri (i + 1)
    have hmx : ((k - (i + 1) : Nat) : Int) = max 0 (((k - i : Nat) : Int) - 1) := by omega
    have hb : ((k - i : Nat) : Int) ≤ 10 := by omega
    generalize stI j c0 t (i + 1) = c2 at *
    generalize stI j c0 t i = c1 at *
    generalize ((k - (i + 1) : Nat) : Int) = n1 at *
    generalize hn0 : ((k - i : Nat) : Int) = n0 at *
    have hb2 : 0 ≤ n0 := by omega
    clear aw hn2 cc cm CV1 ri h3 r0 C0 hn0
    (have zc1 := cs; have zc2 := r1; refine WW ?_; clear zc1 zc2)
    rfl
  · clear hn2 cc cm CV1 ri r0
    (have zc1 := aw; refine WW ?_; clear zc1)
    exact fin_ret [] rfl rfl rfl rfl
end Av
end Go.Proofs.Ytkliodbbcblobaa
