/- The law RingHolds. -/
import Derived.Test.YthmnhefaeknppaaRkA
import Derived.Test.YthmnhefaeknppaaRjE
namespace Go.Proofs.Ythmnhefaeknppaa
namespace Av
set_option linter.unusedSimpArgs false
set_option linter.unusedVariables false
set_option maxRecDepth 4000
set_option maxHeartbeats 1000000
/-- Nothing that conflicts with the target begins. -/
theorem st_new {j : Jn} (J : JV j) {c : Ct} (C : CV j c) {t : Nat} (ht : t < j.ph.length) (p : Nat) (hp : p < j.ph.length) (h1 : (liO (stF j c t) p).lamp = 1) (h2 : (liO c p).lamp ≠ 1) : cfP j.cf p t = false := by
  cases hc : cfP j.cf p t with
  | false => rfl
  | true =>
    exfalso
    have hpt : p ≠ t := fun e => by subst e; rw [J.ir p hp] at hc; cases hc
    by_cases hw : 0 < c.wt
    · have e : stF j c t = ⟨c.li, c.gr, c.nx, c.wt - 1⟩ := by unfold stF; rw [if_pos hw]
      rw [e] at h1
      exact h2 h1
    have h0 : c.wt = 0 := by have := C.w; omega
    have L := cv_ls J C h0 t
    have haim : aimF j t = true := decide_eq_true (by omega)
    have hst : stF j c t = svS j t (svS j t ⟨lsF j c t, c.gr, c.nx, c.wt⟩ 0) 1 := by
      unfold stF
      rw [if_neg hw, if_pos haim, Int.toNat_natCast]
    have C1 := cv_sv J L h0 ht 0
    rw [hst, sv_rel C1.1 ht 1 p hpt hc, sv_rel L ht 0 p hpt hc, ls_at _ _ _ _ _ hp] at h1
    unfold lpF at h1
    rw [if_neg h2] at h1
    split at h1
    · split at h1
      · exact absurd h1 (by dsimp only; decide)
      · split at h1
        · exact absurd h1 (by dsimp only; decide)
        · exact absurd h1 (by dsimp only; decide)
    · split at h1
      · split at h1
        · exact absurd h1 (by dsimp only; decide)
        · exact absurd h1 (by dsimp only; decide)
      · exact h2 h1
def hoG (j : Jn) (c : Ct) (t : Nat) : Nat → Bool
  | 0 => false
  | i + 1 => decide ((liO (stI j c t (i + 1)) t).lamp = 1)
theorem holds_c (l : List Int) (hl : l.length ≤ 9223372036854775807) (m : List Int) (hm : m.length ≤ 9223372036854775807) (tg n : Int) : CallSim Try.prog 7 [slA iA l, slA iA m, iA tg, iA n] [] (bA true) [] := by
  have aw := awake09_c
  have hn := new_c l hl
  have hn2 := new_c m hm
  generalize (⟨l, 0, Nat.zero_le _, hl⟩ : Dk) = d0 at *
  generalize (⟨m, 0, Nat.zero_le _, hm⟩ : Dk) = e0 at *
  have cj := junction_c d0
  have J := jv_jnF d0
  have hq := jn_quick d0
  generalize jnF d0 = j at *
  generalize jnD d0 = d1 at *
  have hjn := J.n
  have hjc := J.c
  have cc := control_c j J e0
  have CC := ctF_v J e0
  generalize ctF j e0 = c0 at *
  generalize ctD j e0 = e1 at *
  have hlp := map_len phA j.ph
  have cm := mod_c tg (j.ph.map phA).length (by omega) (by omega)
  have bm := Int.emod_nonneg tg (show ((j.ph.map phA).length : Int) ≠ 0 by omega)
  have bm2 := Int.emod_lt_of_pos tg (show 0 < ((j.ph.map phA).length : Int) by omega)
  obtain ⟨t, ht⟩ : ∃ t : Nat, tg % ((j.ph.map phA).length : Int) = t := ⟨(tg % ((j.ph.map phA).length : Int)).toNat, by omega⟩
  rw [ht] at cm bm bm2
  have htn : t < j.ph.length := by omega
  have cn := mod_c n 40 (by omega) (by omega)
  have bn : 0 ≤ n % 40 ∧ n % 40 < 40 := by omega
  generalize n % 40 = k at *
  obtain ⟨N, hN⟩ : ∃ N : Nat, 20 + k = N := ⟨(20 + k).toNat, by omega⟩
  have hgN : hoG j c0 t N = true := by
    obtain ⟨M, rfl⟩ : ∃ M, N = M + 1 := ⟨N - 1, by omega⟩
    exact decide_eq_true (reach_all J CC htn (M + 1) (by omega))
  (refine callSim_of tok Try.func7 rfl (fun args w => Try.call7 args w) rfl rfl rfl (fun F hF => ?_))
  (repeat' (first | (refine is_ops ?_; first | refine x_auto tok rfl rfl ?_ | (refine is_call ?_; (first | (refine is_fn 13 ?_; first | refine x_q (stp_call (hn) rfl rfl rfl rfl rfl) rfl ?_ | refine x_w (stp_call (hn) rfl rfl rfl rfl rfl) rfl rfl rfl ?_ | refine x_d (stp_call (hn) rfl rfl rfl rfl rfl) rfl rfl rfl ?_) | (refine is_fn 14 ?_; first | refine x_q (stp_call (cj) rfl rfl rfl rfl rfl) rfl ?_ | refine x_w (stp_call (cj) rfl rfl rfl rfl rfl) rfl rfl rfl ?_ | refine x_d (stp_call (cj) rfl rfl rfl rfl rfl) rfl rfl rfl ?_))) | (refine is_grd ?_; first | refine x_on rfl rfl ?_ | refine x_off rfl rfl rfl rfl ?_ | (refine x_gsplit rfl rfl (fun hc => ?_) (fun hc => ?_) <;> (try simp only [cmpB, decide_eq_true_eq, decide_eq_false_iff_not, beq_iff_eq, bne_iff_ne, ne_eq, Bool.not_eq_true, beq_eq_false_iff_ne, bne_eq_false_iff_eq, Int.not_lt, Int.not_le, Decidable.not_not] at hc))) | (refine is_bin ?_; first | refine x_q (stp_cmp_t rfl rfl rfl (by unfold cmpP; omega)) rfl ?_ | refine x_q (stp_cmp_f rfl rfl rfl (by unfold cmpP; omega)) rfl ?_ | refine x_q (stp_cmp rfl rfl rfl) rfl ?_ | refine x_q (stp_add rfl rfl ⟨by omega, by omega⟩) rfl ?_ | refine x_q (stp_sub rfl rfl ⟨by omega, by omega⟩) rfl ?_ | refine x_q (stp_mul rfl rfl ⟨by omega, by omega⟩) rfl ?_ | refine x_q (stp_quo rfl rfl (by assumption) (by omega)) rfl ?_ | refine x_q (stp_rem rfl rfl (by omega)) rfl ?_ | refine x_q (stp_xor rfl rfl) rfl ?_ | refine x_q (stp_shlI rfl rfl (by omega)) rfl ?_ | refine x_q (stp_shrI rfl rfl (by omega)) rfl ?_ | refine x_q (stp_shift (.inl ⟨rfl, rfl⟩) rfl rfl (by omega)) rfl ?_ | refine x_q (stp_shift (.inr ⟨rfl, rfl⟩) rfl rfl (by omega)) rfl ?_ | refine x_q (stp_bool2 tok rfl rfl rfl rfl (.inl ⟨rfl, rfl⟩)) rfl ?_ | refine x_q (stp_bool2 tok rfl rfl rfl rfl (.inr ⟨rfl, rfl⟩)) rfl ?_ | refine x_q (stp_eqlNil tok (.inl ⟨rfl, rfl⟩) rfl rfl rfl) rfl ?_ | refine x_q (stp_eqlNil_not tok (.inl ⟨rfl, rfl⟩) rfl rfl rfl rfl) rfl ?_ | refine x_q (stp_andI rfl rfl) rfl ?_ | refine x_q (stp_orI rfl rfl) rfl ?_ | refine x_q (stp_bicI rfl rfl) rfl ?_ | refine x_q (stp_strEqV rfl rfl (by assumption)) rfl ?_ | refine x_q (stp_strEq rfl rfl) rfl ?_ | refine x_q (stp_strNeV rfl rfl (by assumption)) rfl ?_ | refine x_q (stp_strNe rfl rfl) rfl ?_) | (refine is_idx ?_; first | refine x_q (stp_indexAddr_sl tok rfl rfl rfl rfl rfl (by omega) (by first | rfl | assumption) rfl rfl) rfl ?_ | refine x_q (stp_indexAddr_r0 tok rfl rfl rfl rfl rfl rfl (by omega) (by omega) rfl) rfl ?_ | refine x_q (stp_indexAddr_box tok rfl rfl rfl rfl rfl rfl (by omega) (by omega)) rfl ?_) | (refine is_load ?_; first | refine x_q (stp_load_fp1 tok rfl rfl rfl (by first | rfl | assumption) rfl) rfl ?_ | refine x_q (stp_load_fpa tok rfl rfl rfl (by first | rfl | assumption) rfl) rfl ?_ | refine x_q (stp_load_arr1 tok rfl rfl rfl rfl (by first | rfl | assumption) rfl) rfl ?_ | refine x_q (stp_load_arra tok rfl rfl rfl rfl (by first | rfl | assumption) rfl) rfl ?_) | (refine is_fad ?_; first | refine x_q (stp_fieldAddr_arr tok rfl rfl rfl rfl rfl rfl rfl rfl) rfl ?_ | refine x_q (stp_fieldAddr_fp tok rfl (by first | rfl | assumption) rfl rfl rfl rfl rfl rfl) rfl ?_) | (refine is_app ?_; first | refine x_appref0 tok rfl rfl rfl rfl rfl rfl rfl (by first | (intro y hy; cases hy; rfl) | exact map_hd _ _ (fun _ => rfl)) rfl rfl rfl (by first | omega | (simp; done) | (simp; omega)) rfl ?_ | refine x_appref tok rfl rfl rfl rfl rfl rfl rfl rfl rfl rfl rfl (by first | (intro y hy; cases hy; rfl) | exact map_hd _ _ (fun _ => rfl)) (by first | omega | (simp; done) | (simp; omega)) rfl ?_) | (refine is_un ?_; first | refine x_q (stp_neg rfl ⟨by omega, by omega⟩) rfl ?_) | (refine is_conv ?_; first | refine x_q (stp_conv_in tok rfl rfl rfl rfl ⟨by omega, by omega⟩) rfl ?_ | refine x_q (stp_conv tok rfl rfl rfl rfl) rfl ?_ | refine x_q (stp_convStr tok rfl rfl rfl rfl rfl rfl rfl (by first | rfl | assumption)) rfl ?_) | (refine is_slc ?_; first | refine x_slcL tok rfl rfl rfl rfl rfl (by first | (intro y hy; cases hy; rfl) | exact map_hd _ _ (fun _ => rfl) | (simp; done)) (by omega) (by simp; omega) (by first | exact List.map_drop.symm | rfl) rfl ?_ | refine x_slcH tok rfl rfl rfl rfl rfl (by first | (intro y hy; cases hy; rfl) | exact map_hd _ _ (fun _ => rfl) | (simp; done)) (by omega) (by simp; omega) (by first | exact List.map_take.symm | rfl) rfl ?_) | fail | refine x_autow tok rfl rfl rfl rfl ?_ | (refine is_sto ?_; first | refine x_autos tok rfl rfl rfl ?_ | refine x_stoa tok rfl rfl rfl (by first | rfl | assumption) rfl rfl rfl rfl rfl rfl ?_ | refine x_sto1 tok rfl rfl rfl (by first | rfl | assumption) rfl rfl rfl rfl rfl rfl rfl rfl ?_) | refine x_nil ?_ | refine x_nilD (by kernel_rfl) ?_) | (first | refine sim_seq ?_ | refine x_region ?_ | refine sim_cond_true rfl ?_ | refine sim_cond_false rfl ?_ | refine sim_skip ?_ | refine sim_ret ?_ | refine sim_exit ?_)))
  refine sim_restr (st' := ⟨[(1, slA iA m), (2, iA tg), (3, iA n), (8, bA false), (9, .ptr 9 0 0)], [(9, .box [slA phA j.ph, slA iA j.cf, iA j.st])]⟩) [9] [1, 2, 3, 8, 9] rfl rfl ?_
  clear cj hn
  (have zc1 := hn2; have zc2 := cc; have zc3 := cm; have zc4 := cn; refine WW ?_; clear zc1 zc2 zc3 zc4)
  rw [hN]
  (refine sim_cnt (N) [10, 9] [9] [9, 10, 11, 30] [12, 31, 9, 10, 11, 30] rfl (fun i T U => ⟨(12, bA (hoG j c0 t i)) :: (31, iA i) :: T, (10, .box [slA liA (stI j c0 t i).li, iA (stI j c0 t i).gr, slA iA (stI j c0 t i).nx, iA (stI j c0 t i).wt]) :: U⟩) ?_; (conv => whnf); refine ⟨by rfl, ?_, ?_⟩)
  · intro u hu
    have C0 := stI_v J CC t u
    have C1 := stI_v J CC t (u + 1)
    have cs := step_c j J (stI j c0 t u) C0 t
    rw [show stF j (stI j c0 t u) t = stI j c0 t (u + 1) from rfl] at cs
    have hnew := st_new J C0 htn
    rw [show stF j (stI j c0 t u) t = stI j c0 t (u + 1) from rfl] at hnew
    have hst : hoG j c0 t u = true → (liO (stI j c0 t (u + 1)) t).lamp = 1 := fun h => by
      match u, h with
      | v + 1, h => exact st_stay J C0 htn (by unfold hoG at h; rw [decide_eq_true_eq] at h; exact h)
    rw [show hoG j c0 t (u + 1) = decide ((liO (stI j c0 t (u + 1)) t).lamp = 1) from rfl]
    generalize hoG j c0 t u = gr at *
    generalize stI j c0 t (u + 1) = x at *
    generalize stI j c0 t u = c at *
    have hcn := C0.n
    have hxn := C1.n
    have hl1 := map_len liA c.li
    have hl2 := map_len liA x.li
    have hyt := map_at liA x.li t (by omega)
    change (x.li.map liA)[t]? = some (liA (liO x t)) at hyt
    clear aw hn2 cc cm cn hgN CC
    have hin : ∀ p : Nat, p < x.li.length → ¬ ((liO x p).lamp = 1 ∧ (liO c p).lamp ≠ 1 ∧ cfP j.cf p t = true) := fun p hp ⟨a, b, d⟩ => by
      rw [hnew p (by omega) a b] at d; cases d
    clear hnew
    cases gr with
    | false =>
      (have zc1 := cs; refine WW ?_; clear zc1)
      (refine sim_cnt (x.li.length) [9, 10, 13] [9, 10, 13] [9, 10, 11, 13, 30, 31, 57, 58] [59, 9, 10, 11, 13, 30, 31, 57, 58] rfl (fun i T U => ⟨(59, iA i) :: T, U⟩) ?_; (conv => whnf); refine ⟨by rfl, ?_, ?_⟩)
      · intro i hi
        have hy1 := map_at liA x.li i hi
        change (x.li.map liA)[i]? = some (liA (liO x i)) at hy1
        have hy2 := map_at liA c.li i (by omega)
        change (c.li.map liA)[i]? = some (liA (liO c i)) at hy2
        have ck := rconf_c j.cf (by omega) i t
        have hno := hin i hi
        clear hin cs hst hyt
        generalize liO x i = a at *
        generalize liO c i = b at *
        generalize cfP j.cf i t = f at *
        by_cases ha : a.lamp = 1
        · by_cases hb : b.lamp = 1
          · (refine WW ?_)
            rfl
          · have hf : f = false := by
              cases f with
              | false => rfl
              | true => exact absurd ⟨ha, hb, rfl⟩ hno
            rw [hf] at ck
            (have zc1 := ck; refine WW ?_; clear zc1)
            rfl
        · (refine WW ?_)
          rfl
      · clear hin cs hst
        generalize liO x t = a at *
        by_cases ha : a.lamp = 1
        · rw [decide_eq_true ha]
          (refine WW ?_)
          rfl
        · rw [decide_eq_false ha]
          (refine WW ?_)
          rfl
    | true =>
      have hlt := hst rfl
      (have zc1 := cs; refine WW ?_; clear zc1)
      (refine sim_cnt (x.li.length) [9, 10, 13] [9, 10, 13] [9, 10, 11, 13, 30, 31, 57, 58] [59, 9, 10, 11, 13, 30, 31, 57, 58] rfl (fun i T U => ⟨(59, iA i) :: T, U⟩) ?_; (conv => whnf); refine ⟨by rfl, ?_, ?_⟩)
      · intro i hi
        have hy1 := map_at liA x.li i hi
        change (x.li.map liA)[i]? = some (liA (liO x i)) at hy1
        have hy2 := map_at liA c.li i (by omega)
        change (c.li.map liA)[i]? = some (liA (liO c i)) at hy2
        have ck := rconf_c j.cf (by omega) i t
        have hno := hin i hi
        clear hin cs hst hyt
        generalize liO x i = a at *
        generalize liO c i = b at *
        generalize cfP j.cf i t = f at *
        by_cases ha : a.lamp = 1
        · by_cases hb : b.lamp = 1
          · (refine WW ?_)
            rfl
          · have hf : f = false := by
              cases f with
              | false => rfl
              | true => exact absurd ⟨ha, hb, rfl⟩ hno
            rw [hf] at ck
            (have zc1 := ck; refine WW ?_; clear zc1)
            rfl
        · (refine WW ?_)
          rfl
      · clear hin cs hst
        generalize liO x t = a at *
        by_cases ha : a.lamp = 1
        · rw [decide_eq_true ha]
          (refine WW ?_)
          rfl
        · exact absurd hlt ha
  · clear hn2 cc cm cn
    rw [hgN]
    (have zc1 := aw; refine WW ?_; clear zc1)
    exact fin_ret [] rfl rfl rfl rfl
end Av
end Go.Proofs.Ythmnhefaeknppaa
