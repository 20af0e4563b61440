
/- The law RegistryUnits. -/
import Derived.Test.YtjbldhhgooihfaaRgW
import Derived.Test.YtjbldhhgooihfaaMkB
namespace Go.Proofs.Ytjbldhhgooihfaa
namespace Av
set_option linter.unusedSimpArgs false
set_option linter.unusedVariables false
set_option maxRecDepth 4000
set_option maxHeartbeats 1000000
theorem agV_agF (d : Dk) (num rights : Int) (h : 0 ≤ rights ∧ rights ≤ 63) : AgV (agF d num rights) := by
  have b1 := nx_bd d (3 - 1 + 1) (by omega)
  have b2 := nx_bd (ad d) (3 - 1 + 1) (by omega)
  have b3 := nx_bd (ad (ad d)) 3 (by omega)
  have b4 := nx_bd (ad (ad (ad d))) 3 (by omega)
  have b5 := nx_bd (ad (ad (ad (ad d)))) (3 - 1 + 1) (by omega)
  have b6 := nx_bd (ad (ad (ad (ad (ad d))))) (2 - 1 + 1) (by omega)
  have b7 := nx_bd (ad (ad (ad (ad (ad (ad d)))))) (3 - 1 + 1) (by omega)
  have b8 := nx_bd (ad7 d) 5 (by omega)
  unfold agF
  refine ⟨by rw [secF_len]; rfl, rfl, fun n hn => ?_, h, ⟨(show (0 : Int) ≤ 3 by omega), (show (3 : Int) ≤ 3 by omega)⟩, ?_, ?_, ?_, ?_⟩
  · simp only [List.mem_cons, List.mem_nil_iff, or_false] at hn
    rcases hn with rfl | rfl | rfl | rfl <;> omega
  all_goals (dsimp only; omega)
def rgL (a : Ag) (tk : List Tk) (lv : Int) : Rg := ⟨0, a, tk, [], ⟨lv, a.rate, a.burst⟩⟩
theorem pe63 (k : Int) : peF 63 k = true := by
  unfold peF
  rcases ndF_cases k with ⟨_, e⟩ | ⟨_, e⟩ | ⟨_, e⟩ | ⟨_, e⟩ | ⟨_, e⟩ | ⟨_, e⟩ | ⟨_, e⟩ | ⟨_, e⟩ | ⟨_, e⟩ | ⟨_, _, _, _, _, _, _, _, _, e⟩ <;> rw [e] <;> decide
theorem exp_new (a : Ag) : expF (tkN a) 1 = tkN a := by
  unfold expF tkN
  rfl
theorem ck_new (a : Ag) (hs : (a.sec.length : Int) = 8) (hr : a.rights = 63) (k : Int) : ckB (tkN a) 0 (0 :: 0 :: a.sec) k 1 = true := by
  unfold ckB
  rw [decide_eq_true ⟨by simp; omega, rfl⟩]
  have h1 : usF (tkN a) ((0 :: 0 :: a.sec).getD 1 default) = true := rfl
  have h2 : eqY ((0 :: 0 :: a.sec).drop 2) (tkOf (tkN a) (0 :: 0 :: a.sec)).sec = true := eqY_refl _
  have h3 : exF (tkOf (tkN a) (0 :: 0 :: a.sec)) 1 = false := rfl
  have h4 : (tkOf (tkN a) (0 :: 0 :: a.sec)).rights = 63 := hr
  rw [h1, h2, h3, h4, pe63]
  rfl
theorem units_c (l : List Int) (hl : l.length ≤ 9223372036854775807) : CallSim Try.prog 5 [slA iA l] [] (bA true) [] := by
  have hf := few_c l hl
  have aw := awake17_c
  by_cases hfew : l.length ≤ 300
  case neg =>
    rw [decide_eq_false hfew] at hf
    (refine callSim_of tok Try.func5 rfl (fun args w => Try.call5 args w) rfl rfl rfl (fun F hF => ?_))
    (have zc1 := hf; have zc2 := aw; refine WL ?_; clear zc1 zc2)
    exact fin_ret [] rfl rfl rfl rfl
  rw [decide_eq_true hfew] at hf
  have hn := new_c l hl
  have hr0 : rem ⟨l, 0, Nat.zero_le _, hl⟩ ≤ 300 := by unfold rem; dsimp only; omega
  generalize (⟨l, 0, Nat.zero_le _, hl⟩ : Dk) = d0 at *
  have ca := agency_c d0 0 63 (by omega) (by omega)
  have hv := agV_agF d0 0 63 (by omega)
  have hby : BY (agF d0 0 63).sec := secF_by _
  have hrt : (agF d0 0 63).rights = 63 := rfl
  have hrd : rem (ad (ad7 d0)) ≤ 300 := by
    have r1 := rem_ad d0
    have r2 := rem_ad (ad d0)
    have r3 := rem_ad (ad (ad d0))
    have r4 := rem_ad (ad (ad (ad d0)))
    have r5 := rem_ad (ad (ad (ad (ad d0))))
    have r6 := rem_ad (ad (ad (ad (ad (ad d0)))))
    have r7 := rem_ad (ad (ad (ad (ad (ad (ad d0))))))
    have r8 := rem_ad (ad7 d0)
    unfold ad7 at *
    omega
  have hr3 : (agF d0 0 63).rate ≤ 3 := by
    have := nx_bd (ad (ad (ad (ad (ad (ad d0)))))) (3 - 1 + 1) (by omega)
    unfold agF; dsimp only; omega
  generalize agF d0 0 63 = a at *
  generalize ad (ad7 d0) = d1 at *
  have h8 := hv.s
  have h9 := hv.l
  have hbu := hv.b
  have hra := hv.t
  have cn := gnew_c 0 a (by omega) (by omega)
  rw [show rgN 0 a = rgL a (tkN a) a.burst from rfl] at cn
  have hck := ck_new a h8 hrt
  have hex := exp_new a
  have htb := (rgN_b 0 a hv).tk
  change TkB (tkN a) at htb
  generalize tkN a = tk at *
  have hrb : ∀ lv, RgB (rgL a tk lv) := fun lv => ⟨htb, by unfold rgL; dsimp only; omega, by unfold rgL; dsimp only; omega, by simp [rgL]⟩
  have ct : ∀ lv : Int, 0 ≤ lv → lv ≤ a.burst → CallSim Try.prog 25 [rgA (rgL a tk lv), iA 1] [] (rgA (rgL a tk (min (lv + a.rate) a.burst))) [] := fun lv h0 h1 => by
    have := gtick_c (rgL a tk lv) 1 (hrb lv) (by unfold rgL; dsimp only; omega)
    rw [show rtF (rgL a tk lv) 1 = rgL a tk (min (lv + a.rate) a.burst) by unfold rtF rgL btF; dsimp only; rw [hex]] at this
    exact this
  have cb := bytes2_c 0 0 a.sec (by omega) (by omega) (by omega) (by omega) (by omega)
  have hby2 : BY (0 :: 0 :: a.sec) := by_tok (g := 0) (s := 0) (by omega) (by omega) hby
  have co : ∀ (k lv : Int), 0 ≤ lv → lv ≤ a.burst → CallSim Try.prog 15 [rgA (rgL a tk lv), msA ⟨k, 0 :: 0 :: a.sec, [], []⟩, iA 1] [] (.tup [rgA (if costs k = true then (if lv ≤ 0 then rgZ else rgL a tk (lv - 1)) else rgL a tk lv), iA 0, iA (if costs k = true ∧ lv ≤ 0 then 13 else 0)]) [] := fun k lv h0 h1 => by
    have := open_c (rgL a tk lv) ⟨k, 0 :: 0 :: a.sec, [], []⟩ 1 (hrb lv) hby2 (by unfold rgL; dsimp only; omega)
    have e1 : opE (rgL a tk lv) ⟨k, 0 :: 0 :: a.sec, [], []⟩ 1 = if costs k = true ∧ lv ≤ 0 then 13 else 0 := by
      unfold opE
      exact if_pos (hck k)
    have e2 : opS (rgL a tk lv) ⟨k, 0 :: 0 :: a.sec, [], []⟩ 1 = 0 := by
      unfold opS
      split <;> rfl
    have e3 : opR (rgL a tk lv) ⟨k, 0 :: 0 :: a.sec, [], []⟩ 1 = if costs k = true then (if lv ≤ 0 then rgZ else rgL a tk (lv - 1)) else rgL a tk lv := by
      unfold opR
      rw [e1]
      cases hk : costs k
      · simp [hk]
      · by_cases hlv : lv ≤ 0
        · simp [hlv]
        · simp only [hk, hlv, and_false, if_false, if_true]
          unfold rgL tak1
          dsimp only
          rw [if_neg hlv]
    rw [e1, e2, e3] at this
    exact this
  have cs := fun lv => gsame_c (rgL a tk lv) (hrb lv)
  clear hck hex htb
  (refine callSim_of tok Try.func5 rfl (fun args w => Try.call5 args w) rfl rfl rfl (fun F hF => ?_))
  (have zc1 := hf; have zc2 := hn; have zc3 := ca; have zc4 := cn; refine WL ?_; clear zc1 zc2 zc3 zc4)
  (refine sim_whl (rem d1) [5, 1000, 4] [4] [3, 4, 5] [6, 7, 3, 4, 5] rfl (fun zn T U zs => ∃ (d : Dk) (lv p t : Int), ((0 ≤ lv ∧ lv ≤ a.burst ∧ 0 ≤ p ∧ 0 ≤ t ∧ p + rem d ≤ 300 ∧ t + rem d ≤ 300 ∧ p + lv ≤ a.burst + t * a.rate) ∧ zn = rem d) ∧ zs = ⟨(6, iA p) :: (7, iA t) :: T, (5, .box [iA 0, slA yA a.sec, iA a.rights, iA a.cls, slA iA a.lim, iA a.req, iA a.ses, iA a.rate, iA a.burst, slA tkA tk, slA vhA [], iA lv, iA a.rate, iA a.burst]) :: (1000, dkE d) :: U⟩) ?_; (conv => whnf); refine ⟨?_, ?_⟩)
  · exact ⟨d1, a.burst, 0, 0, ⟨⟨by omega, by omega, by omega, by omega, by omega, by omega, by omega⟩, rfl⟩, rfl⟩
  rintro zn st ⟨d, lv, p, t, ⟨⟨i1, i2, i3, i4, i5, i6, i7⟩, rfl⟩, rfl⟩
  have lf := left_c d
  by_cases hlf : d.a < d.l.length
  case neg =>
    rw [decide_eq_false hlf] at lf
    (have zc1 := lf; have zc2 := aw; refine WL ?_; clear zc1 zc2)
    exact fin_ret [] rfl rfl rfl rfl
  rw [decide_eq_true hlf] at lf
  have hlt := rem_lt d hlf
  have c1 := next_c d 4 (by omega) (by omega)
  have b1 := nx_bd d 4 (by omega)
  have c2 := next_c (ad d) 12 (by omega) (by omega)
  have b2 := nx_bd (ad d) 12 (by omega)
  have r2 := rem_ad (ad d)
  have hmul : (t + 1) * a.rate = t * a.rate + a.rate := by rw [Int.add_mul, Int.one_mul]
  have hm0 : 0 ≤ t * a.rate := Int.mul_nonneg i4 hra.1
  have hm1 : t * a.rate ≤ 300 * 3 := Int.mul_le_mul (by omega) hr3 hra.1 (by omega)
  generalize nx d 4 = q at *
  generalize nx (ad d) 12 = k0 at *
  by_cases hq : q = 0
  · have ct1 := ct lv i1 i2
    generalize hlv2 : min (lv + a.rate) a.burst = lv2 at *
    have hl2 : 0 ≤ lv2 ∧ lv2 ≤ a.burst ∧ lv2 ≤ lv + a.rate := by omega
    (have zc1 := lf; have zc2 := c1; have zc3 := ct1; refine WL ?_; clear zc1 zc2 zc3)
    exact ⟨rem (ad d), by omega, ad d, lv2, p, t + 1, ⟨⟨by omega, by omega, by omega, by omega, by omega, by omega, by omega⟩, rfl⟩, rfl⟩
  have co1 := co (1 + k0) lv i1 i2
  have cs1 := cs lv
  cases hk : costs (1 + k0)
  · rw [hk] at co1
    have hk' : ¬ (2 ≤ 1 + k0 ∧ 1 + k0 ≤ 8) := of_decide_eq_false hk
    simp only [Bool.false_eq_true, false_and, if_false] at co1
    by_cases hk2 : 2 ≤ 1 + k0
    · have hk8 : 8 < 1 + k0 := by omega
      clear hk'
      (have zc1 := lf; have zc2 := c1; have zc3 := c2; have zc4 := cb; have zc5 := co1; have zc6 := cs1; refine WL ?_; clear zc1 zc2 zc3 zc4 zc5 zc6)
      exact ⟨rem (ad (ad d)), by omega, ad (ad d), lv, p, t, ⟨⟨by omega, by omega, by omega, by omega, by omega, by omega, by omega⟩, rfl⟩, rfl⟩
    · clear hk'
      (have zc1 := lf; have zc2 := c1; have zc3 := c2; have zc4 := cb; have zc5 := co1; have zc6 := cs1; refine WL ?_; clear zc1 zc2 zc3 zc4 zc5 zc6)
      exact ⟨rem (ad (ad d)), by omega, ad (ad d), lv, p, t, ⟨⟨by omega, by omega, by omega, by omega, by omega, by omega, by omega⟩, rfl⟩, rfl⟩
  · rw [hk] at co1
    obtain ⟨hk1, hk2⟩ : 2 ≤ 1 + k0 ∧ 1 + k0 ≤ 8 := of_decide_eq_true hk
    by_cases hlv : lv ≤ 0
    · simp only [hlv, and_self, if_true] at co1
      unfold rgZ at co1
      (have zc1 := lf; have zc2 := c1; have zc3 := c2; have zc4 := cb; have zc5 := co1; have zc6 := cs1; refine WL ?_; clear zc1 zc2 zc3 zc4 zc5 zc6)
      exact ⟨rem (ad (ad d)), by omega, ad (ad d), lv, p, t, ⟨⟨by omega, by omega, by omega, by omega, by omega, by omega, by omega⟩, rfl⟩, rfl⟩
    · simp only [hlv, and_false, if_false, if_true] at co1
      (repeat' (first | (refine is_ops ?_; first | refine x_auto tok rfl rfl ?_ | (refine is_call ?_; (first | (refine is_fn 29 ?_; first | refine x_q (stp_call (lf) rfl rfl rfl rfl rfl) rfl ?_ | refine x_w (stp_call (lf) rfl rfl rfl rfl rfl) rfl rfl rfl ?_ | refine x_d (stp_call (lf) rfl rfl rfl rfl rfl) rfl rfl rfl ?_) | (refine is_fn 12 ?_; first | refine x_q (stp_call (c1) rfl rfl rfl rfl rfl) rfl ?_ | refine x_w (stp_call (c1) rfl rfl rfl rfl rfl) rfl rfl rfl ?_ | refine x_d (stp_call (c1) rfl rfl rfl rfl rfl) rfl rfl rfl ?_) | (refine is_fn 12 ?_; first | refine x_q (stp_call (c2) rfl rfl rfl rfl rfl) rfl ?_ | refine x_w (stp_call (c2) rfl rfl rfl rfl rfl) rfl rfl rfl ?_ | refine x_d (stp_call (c2) rfl rfl rfl rfl rfl) rfl rfl rfl ?_) | (refine is_fn 11 ?_; first | refine x_q (stp_call (cb) rfl rfl rfl rfl rfl) rfl ?_ | refine x_w (stp_call (cb) rfl rfl rfl rfl rfl) rfl rfl rfl ?_ | refine x_d (stp_call (cb) rfl rfl rfl rfl rfl) rfl rfl rfl ?_) | (refine is_fn 15 ?_; first | refine x_q (stp_call (co1) rfl rfl rfl rfl rfl) rfl ?_ | refine x_w (stp_call (co1) rfl rfl rfl rfl rfl) rfl rfl rfl ?_ | refine x_d (stp_call (co1) rfl rfl rfl rfl rfl) rfl rfl rfl ?_) | (refine is_fn 21 ?_; first | refine x_q (stp_call (cs1) rfl rfl rfl rfl rfl) rfl ?_ | refine x_w (stp_call (cs1) rfl rfl rfl rfl rfl) rfl rfl rfl ?_ | refine x_d (stp_call (cs1) rfl rfl rfl rfl rfl) rfl rfl rfl ?_))) | (refine is_grd ?_; first | refine x_on rfl rfl ?_ | refine x_off rfl rfl rfl rfl ?_ | (refine x_gsplit rfl rfl (fun hc => ?_) (fun hc => ?_) <;> (try simp only [cmpB, decide_eq_true_eq, decide_eq_false_iff_not, beq_iff_eq, bne_iff_ne, ne_eq, Bool.not_eq_true, beq_eq_false_iff_ne, bne_eq_false_iff_eq, Int.not_lt, Int.not_le, Decidable.not_not] at hc))) | (refine is_bin ?_; first | refine x_q (stp_cmp_t rfl rfl rfl (by unfold cmpP; omega)) rfl ?_ | refine x_q (stp_cmp_f rfl rfl rfl (by unfold cmpP; omega)) rfl ?_ | refine x_q (stp_cmp rfl rfl rfl) rfl ?_ | refine x_q (stp_add rfl rfl ⟨by omega, by omega⟩) rfl ?_ | refine x_q (stp_sub rfl rfl ⟨by omega, by omega⟩) rfl ?_ | refine x_q (stp_mul rfl rfl ⟨by omega, by omega⟩) rfl ?_ | refine x_q (stp_quo rfl rfl (by assumption) (by omega)) rfl ?_ | refine x_q (stp_rem rfl rfl (by omega)) rfl ?_ | refine x_q (stp_xor rfl rfl) rfl ?_ | refine x_q (stp_shlI rfl rfl (by omega)) rfl ?_ | refine x_q (stp_shrI rfl rfl (by omega)) rfl ?_ | refine x_q (stp_shift (.inl ⟨rfl, rfl⟩) rfl rfl (by omega)) rfl ?_ | refine x_q (stp_shift (.inr ⟨rfl, rfl⟩) rfl rfl (by omega)) rfl ?_ | refine x_q (stp_bool2 tok rfl rfl rfl rfl (.inl ⟨rfl, rfl⟩)) rfl ?_ | refine x_q (stp_bool2 tok rfl rfl rfl rfl (.inr ⟨rfl, rfl⟩)) rfl ?_ | refine x_q (stp_eqlNil tok (.inl ⟨rfl, rfl⟩) rfl rfl rfl) rfl ?_ | refine x_q (stp_eqlNil_not tok (.inl ⟨rfl, rfl⟩) rfl rfl rfl rfl) rfl ?_ | refine x_q (stp_andI rfl rfl) rfl ?_ | refine x_q (stp_orI rfl rfl) rfl ?_ | refine x_q (stp_bicI rfl rfl) rfl ?_ | refine x_q (stp_strEqV rfl rfl (by assumption)) rfl ?_ | refine x_q (stp_strEq rfl rfl) rfl ?_ | refine x_q (stp_strNeV rfl rfl (by assumption)) rfl ?_ | refine x_q (stp_strNe rfl rfl) rfl ?_) | (refine is_idx ?_; first | refine x_q (stp_indexAddr_sl tok rfl rfl rfl rfl rfl (by omega) (by first | rfl | assumption) rfl rfl) rfl ?_ | refine x_q (stp_indexAddr_r0 tok rfl rfl rfl rfl rfl rfl (by omega) (by omega) rfl) rfl ?_ | refine x_q (stp_indexAddr_box tok rfl rfl rfl rfl rfl rfl (by omega) (by omega)) rfl ?_) | (refine is_load ?_; first | refine x_q (stp_load_fp1 tok rfl rfl rfl (by first | rfl | assumption) rfl) rfl ?_ | refine x_q (stp_load_fpa tok rfl rfl rfl (by first | rfl | assumption) rfl) rfl ?_ | refine x_q (stp_load_arr1 tok rfl rfl rfl rfl (by first | rfl | assumption) rfl) rfl ?_ | refine x_q (stp_load_arra tok rfl rfl rfl rfl (by first | rfl | assumption) rfl) rfl ?_) | (refine is_fad ?_; first | refine x_q (stp_fieldAddr_arr tok rfl rfl rfl rfl rfl rfl rfl rfl) rfl ?_ | refine x_q (stp_fieldAddr_fp tok rfl (by first | rfl | assumption) rfl rfl rfl rfl rfl rfl) rfl ?_) | (refine is_app ?_; first | refine x_appref0 tok rfl rfl rfl rfl rfl rfl rfl (by first | (intro y hy; cases hy; rfl) | exact map_hd _ _ (fun _ => rfl)) rfl rfl rfl (by first | omega | (simp; done) | (simp; omega)) rfl ?_ | refine x_appref tok rfl rfl rfl rfl rfl rfl rfl rfl rfl rfl rfl (by first | (intro y hy; cases hy; rfl) | exact map_hd _ _ (fun _ => rfl)) (by first | omega | (simp; done) | (simp; omega)) rfl ?_) | (refine is_un ?_; first | refine x_q (stp_neg rfl ⟨by omega, by omega⟩) rfl ?_) | (refine is_conv ?_; first | refine x_q (stp_conv_in tok rfl rfl rfl rfl ⟨by omega, by omega⟩) rfl ?_ | refine x_q (stp_conv tok rfl rfl rfl rfl) rfl ?_ | refine x_q (stp_convStr tok rfl rfl rfl rfl rfl rfl rfl (by first | rfl | assumption)) rfl ?_) | (refine is_slc ?_; first | refine x_slcL tok rfl rfl rfl rfl rfl (by first | (intro y hy; cases hy; rfl) | exact map_hd _ _ (fun _ => rfl) | (simp; done)) (by omega) (by simp; omega) (by first | exact List.map_drop.symm | rfl) rfl ?_ | refine x_slcH tok rfl rfl rfl rfl rfl (by first | (intro y hy; cases hy; rfl) | exact map_hd _ _ (fun _ => rfl) | (simp; done)) (by omega) (by simp; omega) (by first | exact List.map_take.symm | rfl) rfl ?_) | (refine is_bsl ?_; refine x_lit tok rfl rfl ?_) | (refine is_app ?_; refine x_appnilF tok rfl rfl rfl rfl rfl rfl (by first | (intro y hy; cases hy; rfl) | exact map_hd _ _ (fun _ => rfl)) rfl rfl rfl (by first | omega | (simp; done) | (simp; omega)) rfl ?_) | (refine is_mks ?_; refine x_mks tok rfl rfl rfl rfl rfl rfl rfl rfl rfl rfl rfl rfl rfl (by omega) (by omega) rfl rfl rfl ?_) | refine x_autow tok rfl rfl rfl rfl ?_ | (refine is_sto ?_; first | refine x_autos tok rfl rfl rfl ?_ | refine x_stoa tok rfl rfl rfl (by first | rfl | assumption) rfl rfl rfl rfl rfl rfl ?_ | refine x_sto1 tok rfl rfl rfl (by first | rfl | assumption) rfl rfl rfl rfl rfl rfl rfl rfl ?_) | refine x_nil ?_ | refine x_nilD (by kernel_rfl) ?_) | (first | refine sim_seq ?_ | refine x_region ?_ | refine x_draw rfl ?_ | refine sim_cond_true rfl ?_ | refine sim_cond_false rfl ?_ | (refine sim_cond rfl (fun hc => ?_) (fun hc => ?_) <;> (try simp only [cmpB, decide_eq_true_eq, decide_eq_false_iff_not, beq_iff_eq, bne_iff_ne, ne_eq, Bool.not_eq_true, beq_eq_false_iff_ne, bne_eq_false_iff_eq, Int.not_lt, Int.not_le, Decidable.not_not] at hc)) | refine sim_skip ?_ | refine sim_ret ?_ | refine sim_exit ?_ | refine sim_block ?_)))
      exact ⟨rem (ad (ad d)), by omega, ad (ad d), lv - 1, p + 1, t, ⟨⟨by omega, by omega, by omega, by omega, by omega, by omega, by omega⟩, rfl⟩, rfl⟩
open Go.RowKit in
theorem registryUnits_w (A : Option Addr) (n c : Nat) (xs : List Int) (w : World) (h : LIn .i64 w A n c xs) :
    Calls Try.prog 5 #[.slice A n c] w fun e w' => e = .returned (.bool true) ∧ Below w.heap.size w w' :=
  (units_c xs h.le).lawL (cs := [.slice A n c]) ⟨h.repf dom0, trivial⟩
end Av
end Go.Proofs.Ytjbldhhgooihfaa
