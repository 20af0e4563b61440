/- The law RingTurns. -/
import Derived.Test.YthmnhefaeknppaaRkT
import Derived.Test.YthmnhefaeknppaaRjE
import Derived.Test.YthmnhefaeknppaaRiL
namespace Go.Proofs.Ythmnhefaeknppaa
namespace Av
set_option linter.unusedSimpArgs false
set_option linter.unusedVariables false
set_option maxRecDepth 4000
set_option maxHeartbeats 1000000
theorem in_ru {j : Jn} : RU j (inF j) := ru_red fun q hq => by
  unfold liO inF
  simp only [List.getD_eq_getElem?_getD, List.getElem?_replicate]
  split <;> rfl
theorem ctlN_ru {j : Jn} (J : JV j) {c : Ct} (C : CV j c) (R : RU j c) (d : Dk) : ∀ k, RU j (ctlN j c d k).1
  | 0 => R
  | k + 1 => ru_stI J (ctlN_v J C d k) (ctlN_ru J C R d k) _ _
theorem ctF_ru {j : Jn} (J : JV j) (d : Dk) : RU j (ctF j d) := ctlN_ru J (cv_in J) in_ru _ _
/-- Has p been green? -/
def snB (j : Jn) (c : Ct) (p : Nat) : Nat → Bool
  | 0 => false
  | k + 1 => snB j c p k || decide ((liO (stI j c (-1) (k + 1)) p).lamp = 1)
theorem sn_mono {j : Jn} {c : Ct} {p : Nat} {k : Nat} (h : snB j c p k = true) : ∀ m, snB j c p (k + m) = true
  | 0 => h
  | m + 1 => by
    show (snB j c p (k + m) || _) = true
    rw [sn_mono h m, Bool.true_or]
theorem sn_all {j : Jn} {c : Ct} {p k M : Nat} (h1 : 1 ≤ k) (h2 : k ≤ M) (h : (liO (stI j c (-1) k) p).lamp = 1) : snB j c p M = true := by
  obtain ⟨m, rfl⟩ : ∃ m, M = k + m := ⟨M - k, by omega⟩
  refine sn_mono ?_ m
  obtain ⟨k', rfl⟩ : ∃ k', k = k' + 1 := ⟨k - 1, by omega⟩
  unfold snB
  rw [decide_eq_true h, Bool.or_true]
/-- The list of what has been seen, in the middle of a round. -/
def slL (f g : Nat → Bool) (n i : Nat) : List AV := (List.range n).map fun p => bA (if p < i then f p else g p)
theorem sl_len (f g : Nat → Bool) (n i : Nat) : (slL f g n i).length = n := by simp [slL]
theorem sl_at (f g : Nat → Bool) (n i : Nat) (hi : i < n) : (slL f g n i)[i]? = some (bA (g i)) := by
  unfold slL
  rw [List.getElem?_map, List.getElem?_range hi]
  simp
theorem sl_set (f g : Nat → Bool) (n i : Nat) (hi : i < n) : (slL f g n i).set i (bA (f i)) = slL f g n (i + 1) := by
  apply List.ext_getElem?
  intro k
  unfold slL
  rw [List.getElem?_set, List.getElem?_map, List.getElem?_map]
  by_cases hk : k < n
  · rw [List.getElem?_range hk]
    by_cases e : i = k
    · subst e
      rw [if_pos rfl, List.length_map, List.length_range, if_pos hk]
      simp
    · rw [if_neg e]
      simp only [Option.map_some]
      by_cases h1 : k < i
      · rw [if_pos h1, if_pos (by omega)]
      · rw [if_neg h1, if_neg (by omega)]
  · rw [List.getElem?_eq_none (l := List.range n) (by simp; omega), if_neg (by omega)]
    rfl
theorem sl_end (f g : Nat → Bool) (n : Nat) : slL f g n n = slL g f n 0 := by
  unfold slL
  apply List.map_congr_left
  intro p hp
  rw [if_pos (List.mem_range.1 hp), if_neg (by omega)]
theorem sl_same (f g h : Nat → Bool) (n : Nat) : slL f g n 0 = slL h g n 0 := by
  unfold slL
  apply List.map_congr_left
  intro p hp
  rw [if_neg (by omega), if_neg (by omega)]
theorem sl_zero (f g : Nat → Bool) (n : Nat) (hg : ∀ p, g p = false) : List.replicate n (AV.s (.bool false)) = slL f g n 0 := by
  unfold slL
  rw [List.map_congr_left (g := fun _ => bA false) (fun p _ => by rw [if_neg (by omega), hg]), List.map_const', List.length_range]
  rfl
theorem sm2 (f : Nat → Int) : ∀ n, smN (fun q => 2 * f q) n ≤ 2 * smN (fun q => f q + 1) n
  | 0 => Int.le_refl _
  | n + 1 => by
    have := sm2 f n
    unfold smN
    omega
theorem sm_bd {f : Nat → Int} {b : Int} : ∀ n, (∀ i, i < n → 0 ≤ f i ∧ f i ≤ b) → 0 ≤ smN f n ∧ smN f n ≤ b * n
  | 0, _ => ⟨Int.le_refl _, by show (0 : Int) ≤ b * ((0 : Nat) : Int); simp⟩
  | n + 1, h => by
    have := sm_bd n (fun i hi => h i (by omega))
    have := h n (by omega)
    unfold smN
    rw [show b * ((n + 1 : Nat) : Int) = b * n + b by rw [Int.natCast_add, Int.mul_add]; simp]
    omega
def mtF (j : Jn) (n : Nat) : Int := j.st + 1 + smN (fun q => fuF (phO j q) + 1) n
def rtC (j : Jn) (c : Ct) (M : Nat) : Nat → Ct
  | 0 => c
  | u + 1 => stI j (rtC j c M u) (-1) M
theorem rtC_v {j : Jn} (J : JV j) {c : Ct} (C : CV j c) (R : RU j c) (M : Nat) : ∀ u, CV j (rtC j c M u) ∧ RU j (rtC j c M u)
  | 0 => ⟨C, R⟩
  | u + 1 => ⟨stI_v J (rtC_v J C R M u).1 _ _, ru_stI J (rtC_v J C R M u).1 (rtC_v J C R M u).2 _ _⟩
theorem fu_bd {j : Jn} (J : JV j) (p : Nat) (hp : p < j.ph.length) : 0 ≤ fuF (phO j p) ∧ fuF (phO j p) ≤ 240 := by
  have hti := J.ti p hp
  unfold fuF lnF
  omega
theorem turns_c (l : List Int) (hl : l.length ≤ 9223372036854775807) (m : List Int) (hm : m.length ≤ 9223372036854775807) : CallSim Try.prog 8 [slA iA l, slA iA m] [] (bA true) [] := by
  have aw := awake09_c
  have hn := new_c l hl
  have hn2 := new_c m hm
  generalize (⟨l, 0, Nat.zero_le _, hl⟩ : Dk) = d0 at *
  generalize (⟨m, 0, Nat.zero_le _, hm⟩ : Dk) = e0 at *
  have cj := junction_c d0
  have J := jv_jnF d0
  generalize jnF d0 = j at *
  generalize jnD d0 = d1 at *
  have hjn := J.n
  have hjs := J.st
  have cc := control_c j J e0
  have CC := ctF_v J e0
  have RR := ctF_ru J e0
  generalize ctF j e0 = c0 at *
  generalize ctD j e0 = e1 at *
  have hlp := map_len phA j.ph
  have hmb : ∀ n, n ≤ j.ph.length → 1 ≤ mtF j n ∧ mtF j n ≤ 3000 := fun n hn => by
    have := sm_bd (f := fun q => fuF (phO j q) + 1) (b := 241) n (fun i hi => by have := fu_bd J i (by omega); omega)
    unfold mtF
    omega
  (refine callSim_of tok Try.func8 rfl (fun args w => Try.call8 args w) rfl rfl rfl (fun F hF => ?_))
  (repeat' (first | (refine is_ops ?_; first | refine x_auto tok rfl rfl ?_ | (refine is_call ?_; (first | (refine is_fn 13 ?_; first | refine x_q (stp_call (hn) rfl rfl rfl rfl rfl) rfl ?_ | refine x_w (stp_call (hn) rfl rfl rfl rfl rfl) rfl rfl rfl ?_ | refine x_d (stp_call (hn) rfl rfl rfl rfl rfl) rfl rfl rfl ?_) | (refine is_fn 14 ?_; first | refine x_q (stp_call (cj) rfl rfl rfl rfl rfl) rfl ?_ | refine x_w (stp_call (cj) rfl rfl rfl rfl rfl) rfl rfl rfl ?_ | refine x_d (stp_call (cj) rfl rfl rfl rfl rfl) rfl rfl rfl ?_))) | (refine is_grd ?_; first | refine x_on rfl rfl ?_ | refine x_off rfl rfl rfl rfl ?_ | (refine x_gsplit rfl rfl (fun hc => ?_) (fun hc => ?_) <;> (try simp only [cmpB, decide_eq_true_eq, decide_eq_false_iff_not, beq_iff_eq, bne_iff_ne, ne_eq, Bool.not_eq_true, beq_eq_false_iff_ne, bne_eq_false_iff_eq, Int.not_lt, Int.not_le, Decidable.not_not] at hc))) | (refine is_bin ?_; first | refine x_q (stp_cmp_t rfl rfl rfl (by unfold cmpP; omega)) rfl ?_ | refine x_q (stp_cmp_f rfl rfl rfl (by unfold cmpP; omega)) rfl ?_ | refine x_q (stp_cmp rfl rfl rfl) rfl ?_ | refine x_q (stp_add rfl rfl ⟨by omega, by omega⟩) rfl ?_ | refine x_q (stp_sub rfl rfl ⟨by omega, by omega⟩) rfl ?_ | refine x_q (stp_mul rfl rfl ⟨by omega, by omega⟩) rfl ?_ | refine x_q (stp_quo rfl rfl (by assumption) (by omega)) rfl ?_ | refine x_q (stp_rem rfl rfl (by omega)) rfl ?_ | refine x_q (stp_xor rfl rfl) rfl ?_ | refine x_q (stp_shlI rfl rfl (by omega)) rfl ?_ | refine x_q (stp_shrI rfl rfl (by omega)) rfl ?_ | refine x_q (stp_shift (.inl ⟨rfl, rfl⟩) rfl rfl (by omega)) rfl ?_ | refine x_q (stp_shift (.inr ⟨rfl, rfl⟩) rfl rfl (by omega)) rfl ?_ | refine x_q (stp_bool2 tok rfl rfl rfl rfl (.inl ⟨rfl, rfl⟩)) rfl ?_ | refine x_q (stp_bool2 tok rfl rfl rfl rfl (.inr ⟨rfl, rfl⟩)) rfl ?_ | refine x_q (stp_eqlNil tok (.inl ⟨rfl, rfl⟩) rfl rfl rfl) rfl ?_ | refine x_q (stp_eqlNil_not tok (.inl ⟨rfl, rfl⟩) rfl rfl rfl rfl) rfl ?_ | refine x_q (stp_andI rfl rfl) rfl ?_ | refine x_q (stp_orI rfl rfl) rfl ?_ | refine x_q (stp_bicI rfl rfl) rfl ?_ | refine x_q (stp_strEqV rfl rfl (by assumption)) rfl ?_ | refine x_q (stp_strEq rfl rfl) rfl ?_ | refine x_q (stp_strNeV rfl rfl (by assumption)) rfl ?_ | refine x_q (stp_strNe rfl rfl) rfl ?_) | (refine is_idx ?_; first | refine x_q (stp_indexAddr_sl tok rfl rfl rfl rfl rfl (by omega) (by first | rfl | assumption) rfl rfl) rfl ?_ | refine x_q (stp_indexAddr_r0 tok rfl rfl rfl rfl rfl rfl (by omega) (by omega) rfl) rfl ?_ | refine x_q (stp_indexAddr_box tok rfl rfl rfl rfl rfl rfl (by omega) (by omega)) rfl ?_) | (refine is_load ?_; first | refine x_q (stp_load_fp1 tok rfl rfl rfl (by first | rfl | assumption) rfl) rfl ?_ | refine x_q (stp_load_fpa tok rfl rfl rfl (by first | rfl | assumption) rfl) rfl ?_ | refine x_q (stp_load_arr1 tok rfl rfl rfl rfl (by first | rfl | assumption) rfl) rfl ?_ | refine x_q (stp_load_arra tok rfl rfl rfl rfl (by first | rfl | assumption) rfl) rfl ?_) | (refine is_fad ?_; first | refine x_q (stp_fieldAddr_arr tok rfl rfl rfl rfl rfl rfl rfl rfl) rfl ?_ | refine x_q (stp_fieldAddr_fp tok rfl (by first | rfl | assumption) rfl rfl rfl rfl rfl rfl) rfl ?_) | (refine is_app ?_; first | refine x_appref0 tok rfl rfl rfl rfl rfl rfl rfl (by first | (intro y hy; cases hy; rfl) | exact map_hd _ _ (fun _ => rfl)) rfl rfl rfl (by first | omega | (simp; done) | (simp; omega)) rfl ?_ | refine x_appref tok rfl rfl rfl rfl rfl rfl rfl rfl rfl rfl rfl (by first | (intro y hy; cases hy; rfl) | exact map_hd _ _ (fun _ => rfl)) (by first | omega | (simp; done) | (simp; omega)) rfl ?_) | (refine is_un ?_; first | refine x_q (stp_neg rfl ⟨by omega, by omega⟩) rfl ?_) | (refine is_conv ?_; first | refine x_q (stp_conv_in tok rfl rfl rfl rfl ⟨by omega, by omega⟩) rfl ?_ | refine x_q (stp_conv tok rfl rfl rfl rfl) rfl ?_ | refine x_q (stp_convStr tok rfl rfl rfl rfl rfl rfl rfl (by first | rfl | assumption)) rfl ?_) | (refine is_slc ?_; first | refine x_slcL tok rfl rfl rfl rfl rfl (by first | (intro y hy; cases hy; rfl) | exact map_hd _ _ (fun _ => rfl) | (simp; done)) (by omega) (by simp; omega) (by first | exact List.map_drop.symm | rfl) rfl ?_ | refine x_slcH tok rfl rfl rfl rfl rfl (by first | (intro y hy; cases hy; rfl) | exact map_hd _ _ (fun _ => rfl) | (simp; done)) (by omega) (by simp; omega) (by first | exact List.map_take.symm | rfl) rfl ?_) | fail | refine x_autow tok rfl rfl rfl rfl ?_ | (refine is_sto ?_; first | refine x_autos tok rfl rfl rfl ?_ | refine x_stoa tok rfl rfl rfl (by first | rfl | assumption) rfl rfl rfl rfl rfl rfl ?_ | refine x_sto1 tok rfl rfl rfl (by first | rfl | assumption) rfl rfl rfl rfl rfl rfl rfl rfl ?_) | refine x_nil ?_ | refine x_nilD (by kernel_rfl) ?_) | (first | refine sim_seq ?_ | refine x_region ?_ | refine sim_cond_true rfl ?_ | refine sim_cond_false rfl ?_ | refine sim_skip ?_ | refine sim_ret ?_ | refine sim_exit ?_)))
  refine sim_restr (st' := ⟨[(1, slA iA m), (4, bA false), (5, .ptr 5 0 0)], [(5, .box [slA phA j.ph, slA iA j.cf, iA j.st])]⟩) [5] [1, 4, 5] rfl rfl ?_
  clear cj hn
  (have zc1 := hn2; have zc2 := cc; refine WW ?_; clear zc1 zc2)
  (refine sim_cnt (j.ph.length) [5, 6] [5, 6] [5, 6, 26, 27] [7, 28, 5, 6, 26, 27] rfl (fun i T U => ⟨(7, iA (mtF j i)) :: (28, iA i) :: T, U⟩) ?_; (conv => whnf); refine ⟨by (rw [show mtF j 0 = j.st + 1 from Int.add_zero _]; rfl), ?_, ?_⟩)
  · intro i hi
    have hy := map_at phA j.ph i hi
    change (j.ph.map phA)[i]? = some (phA (phO j i)) at hy
    have hti := J.ti i hi
    have hb := hmb i (by omega)
    have hln : 0 ≤ lnF (phO j i) ∧ lnF (phO j i) ≤ 120 := by unfold lnF; omega
    have cn := lneed_c (phO j i) ⟨by omega, by omega, by omega, by omega⟩
    have e : mtF j (i + 1) = mtF j i + (max (phO j i).maxg (lnF (phO j i)) + (phO j i).yel + (phO j i).red + 1) := by
      unfold mtF
      rw [show smN (fun q => fuF (phO j q) + 1) (i + 1) = smN (fun q => fuF (phO j q) + 1) i + (fuF (phO j i) + 1) from rfl, ← Int.add_assoc]
      rfl
    rw [e]
    clear e hmb hn2 cc aw
    generalize mtF j i = g at *
    generalize lnF (phO j i) = ln at *
    generalize phO j i = q at *
    (have zc1 := cn; refine WW ?_; clear zc1)
    rfl
  have hb := hmb j.ph.length (Nat.le_refl _)
  have hsm := sm2 (fun q => fuF (phO j q)) j.ph.length
  obtain ⟨M, hM⟩ : ∃ M : Nat, 2 * mtF j j.ph.length = M := ⟨(2 * mtF j j.ph.length).toNat, by omega⟩
  have CN := rtC_v J CC RR M
  have hall : ∀ u p, p < j.ph.length → snB j (rtC j c0 M u) p M = true := fun u p hp => by
    obtain ⟨k, h1, h2, h3⟩ := turn_all J (CN u).1 (CN u).2 hp
    refine sn_all h1 ?_ h3
    have e : mtF j j.ph.length = j.st + 1 + smN (fun q => fuF (phO j q) + 1) j.ph.length := rfl
    omega
  clear hsm hmb
  generalize mtF j j.ph.length = mt at *
  obtain ⟨N2, hN2⟩ : ∃ n : Nat, n = 2 := ⟨2, rfl⟩
  clear hn2 cc
  (refine WW ?_)
  (refine sim_cnt (N2) [6, 5] [5] [5, 6, 7] [47, 5, 6, 7] rfl (fun i T U => ⟨(47, iA i) :: T, (6, .box [slA liA (rtC j c0 M i).li, iA (rtC j c0 M i).gr, slA iA (rtC j c0 M i).nx, iA (rtC j c0 M i).wt]) :: U⟩) ?_; (conv => whnf); refine ⟨by rfl, ?_, ?_⟩)
  · intro u hu
    have hC := CN u
    have hal := hall u
    rw [show rtC j c0 M (u + 1) = stI j (rtC j c0 M u) (-1) M from rfl]
    clear CN hall aw
    generalize rtC j c0 M u = c at *
    have CV1 := fun k => stI_v J hC.1 (-1) k
    have e0 := sl_zero (fun p => snB j c p (0 + 1)) (fun p => snB j c p 0) j.ph.length (fun _ => rfl)
    (refine WW ?_)
    (refine sim_cnt (M) [6, 52, 5] [5] [5, 6, 7, 10, 47, 54] [55, 5, 6, 7, 10, 47, 54] rfl (fun i T U => ⟨(55, iA i) :: T, (6, .box [slA liA (stI j c (-1) i).li, iA (stI j c (-1) i).gr, slA iA (stI j c (-1) i).nx, iA (stI j c (-1) i).wt]) :: (52, .arr 1 (slL (fun p => snB j c p (i + 1)) (fun p => snB j c p i) j.ph.length 0) false) :: U⟩) ?_; (conv => whnf); refine ⟨by (rw [← e0, ← hlp]; rfl), ?_, ?_⟩)
    · intro k hk
      have C1 := CV1 k
      have C2 := CV1 (k + 1)
      have cs := step_c j J (stI j c (-1) k) C1 (-1)
      rw [show stF j (stI j c (-1) k) (-1) = stI j c (-1) (k + 1) from rfl] at cs
      have eE : slL (fun p => snB j c p (k + 1 + 1)) (fun p => snB j c p (k + 1)) j.ph.length 0 = slL (fun p => snB j c p (k + 1)) (fun p => snB j c p k) j.ph.length j.ph.length := by
        rw [sl_end]
        exact sl_same _ _ _ _
      rw [eE]
      clear eE e0 CV1 hal
      have hsn : ∀ p, snB j c p (k + 1) = (snB j c p k || decide ((liO (stI j c (-1) (k + 1)) p).lamp = 1)) := fun _ => rfl
      generalize stI j c (-1) (k + 1) = x at *
      generalize stI j c (-1) k = y at *
      have hxn := C2.n
      have hlx := map_len liA x.li
      (have zc1 := cs; refine WW ?_; clear zc1)
      clear cs
      rw [← hxn]
      (refine sim_cnt (x.li.length) [52, 5, 6] [5, 6] [5, 6, 7, 10, 47, 54, 55, 67, 68] [69, 5, 6, 7, 10, 47, 54, 55, 67, 68] rfl (fun i T U => ⟨(69, iA i) :: T, (52, .arr 1 (slL (fun p => snB j c p (k + 1)) (fun p => snB j c p k) x.li.length i) false) :: U⟩) ?_; (conv => whnf); refine ⟨by (rw [hxn]; rfl), ?_, ?_⟩)
      · intro i hi
        have hy := map_at liA x.li i hi
        change (x.li.map liA)[i]? = some (liA (liO x i)) at hy
        have hfl := sl_len (fun p => snB j c p (k + 1)) (fun p => snB j c p k) x.li.length i
        have hfa := sl_at (fun p => snB j c p (k + 1)) (fun p => snB j c p k) x.li.length i hi
        have hfs : (slL (fun p => snB j c p (k + 1)) (fun p => snB j c p k) x.li.length i).set i (bA (snB j c i (k + 1))) = _ := sl_set (fun p => snB j c p (k + 1)) (fun p => snB j c p k) x.li.length i hi
        rw [← hfs]
        change _ = some (bA (snB j c i k)) at hfa
        rw [hsn i]
        clear hfs hsn
        generalize slL (fun p => snB j c p (k + 1)) (fun p => snB j c p k) x.li.length i = xs at *
        generalize snB j c i k = w at *
        generalize liO x i = l at *
        cases w with
        | true =>
          rw [Bool.true_or]
          (refine WW ?_)
          rfl
        | false =>
          rw [Bool.false_or]
          by_cases h1 : l.lamp = 1
          · rw [decide_eq_true h1]
            (refine WW ?_)
            rfl
          · rw [decide_eq_false h1]
            (refine WW ?_)
            rfl
      · (refine WW ?_)
        rfl
    · have e1 : slL (fun p => snB j c p (M + 1)) (fun p => snB j c p M) j.ph.length 0 = List.replicate j.ph.length (bA true) := by
        unfold slL
        rw [List.map_congr_left (g := fun _ => bA true) (fun p hp => by rw [if_neg (by omega)]; exact congrArg bA (hal p (List.mem_range.1 hp))), List.map_const', List.length_range]
      rw [e1]
      clear e0 e1 hal CV1
      have hrl : (List.replicate j.ph.length (bA true)).length = j.ph.length := List.length_replicate
      (refine WW ?_)
      (refine sim_cnt (j.ph.length) [5, 6, 52] [5, 6, 52] [5, 6, 7, 47, 88, 89] [90, 5, 6, 7, 47, 88, 89] rfl (fun i T U => ⟨(90, iA i) :: T, U⟩) ?_; (conv => whnf); refine ⟨by rfl, ?_, ?_⟩)
      · intro i hi
        have hy : (List.replicate j.ph.length (bA true))[i]? = some (bA true) := by simp [hi]
        generalize List.replicate j.ph.length (bA true) = xs at *
        (refine WW ?_)
        rfl
      · (refine WW ?_)
        rfl
  · clear CN hall
    (have zc1 := aw; refine WW ?_; clear zc1)
    exact fin_ret [] rfl rfl rfl rfl
end Av
end Go.Proofs.Ythmnhefaeknppaa
