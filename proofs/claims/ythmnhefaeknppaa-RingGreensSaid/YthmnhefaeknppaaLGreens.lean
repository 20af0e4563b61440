/- The law RingGreens. -/
import Derived.Test.YthmnhefaeknppaaRiM
import Derived.Test.YthmnhefaeknppaaLBarrier
namespace Go.Proofs.Ythmnhefaeknppaa
namespace Av
set_option linter.unusedSimpArgs false
set_option linter.unusedVariables false
set_option maxRecDepth 4000
set_option maxHeartbeats 1000000
/-- How long each light has been as it is, those before i looked at. -/
def snM (c c2 : Ct) (s : List Int) (i : Nat) : List Int := (List.range s.length).map fun p => if p < i then snU (liO c p) (liO c2 p) (snO s p) else snO s p
theorem snM_len (c c2 : Ct) (s : List Int) (i : Nat) : (snM c c2 s i).length = s.length := by simp [snM]
theorem snM_zero (c c2 : Ct) (s : List Int) : snM c c2 s 0 = s := by
  unfold snM
  apply List.ext_getElem?
  intro p
  rw [List.getElem?_map]
  by_cases h : p < s.length
  · rw [List.getElem?_range h]; simp [snO, List.getD, h]
  · rw [List.getElem?_eq_none (by simp; omega), List.getElem?_eq_none (by omega)]; rfl
theorem snM_at (c c2 : Ct) (s : List Int) (i : Nat) (h : i < s.length) : (snM c c2 s i)[i]? = some (snO s i) := by
  unfold snM
  rw [List.getElem?_map, List.getElem?_range h]
  simp
theorem snM_end (c c2 : Ct) (s : List Int) (p : Nat) (h : p < s.length) : snO (snM c c2 s s.length) p = snU (liO c p) (liO c2 p) (snO s p) := by
  unfold snM
  show (List.map _ (List.range s.length)).getD p default = _
  simp only [List.getD_eq_getElem?_getD, List.getElem?_map, List.getElem?_range h]
  simp [h]
theorem snM_succ (c c2 : Ct) (s : List Int) (i : Nat) : snM c c2 s (i + 1) = (snM c c2 s i).set i (snU (liO c i) (liO c2 i) (snO s i)) := by
  unfold snM
  apply List.ext_getElem?
  intro p
  rw [List.getElem?_set, List.getElem?_map, List.getElem?_map]
  by_cases h : p < s.length
  · rw [List.getElem?_range h]
    by_cases hs : i = p
    · subst hs; simp [h]
    · rw [if_neg hs]
      by_cases hp : p < i
      · simp [hp, show p < i + 1 by omega]
      · simp [hp, show ¬ p < i + 1 by omega]
  · rw [List.getElem?_eq_none (by simp; omega)]
    split <;> simp; omega
def snC (j : Jn) (ts : List Int) : Nat → List Int
  | 0 => List.replicate j.ph.length 0
  | i + 1 => snM (tgC j ts i) (tgC j ts (i + 1)) (snC j ts i) (snC j ts i).length
theorem snC_len (j : Jn) (ts : List Int) : ∀ i, (snC j ts i).length = j.ph.length
  | 0 => by simp [snC]
  | i + 1 => by rw [snC, snM_len]; exact snC_len j ts i
theorem snC_v {j : Jn} (J : JV j) (ts : List Int) : ∀ i, i ≤ 150 → ∀ p, p < j.ph.length → (0 ≤ snO (snC j ts i) p ∧ snO (snC j ts i) p ≤ i) ∧ ((liO (tgC j ts i) p).lamp ≠ 0 → snO (snC j ts i) p = (liO (tgC j ts i) p).tk)
  | 0, _, p, hp => by
    have e : snO (snC j ts 0) p = 0 := by
      show (List.replicate j.ph.length 0).getD p default = 0
      simp [List.getD, hp]
    refine ⟨by omega, fun h => ?_⟩
    rw [show tgC j ts 0 = inF j from rfl, inF_li] at h
    exact absurd rfl h
  | i + 1, hi, p, hp => by
    obtain ⟨ih1, ih2⟩ := snC_v J ts i (by omega) p hp
    obtain ⟨C, _⟩ := tgC_v J ts i
    have hs := st_li J C ((ts.getD i default) % (j.ph.length + 2) - 1) p hp
    rw [show stF j (tgC j ts i) ((ts.getD i default) % (j.ph.length + 2) - 1) = tgC j ts (i + 1) from rfl] at hs
    have hg := greens (phO j p) (liO (tgC j ts i) p) (liO (tgC j ts (i + 1)) p) (snO (snC j ts i) p) _ (C.k p hp) ih2 (by omega) hs
    have e : snO (snC j ts (i + 1)) p = snU (liO (tgC j ts i) p) (liO (tgC j ts (i + 1)) p) (snO (snC j ts i) p) := by
      rw [snC]
      exact snM_end _ _ _ p (by rw [snC_len]; exact hp)
    rw [e]
    refine ⟨?_, hg.1⟩
    unfold snU
    split <;> omega
theorem greens_c (l : List Int) (hl : l.length ≤ 9223372036854775807) (ts : List Int) (hts : ts.length ≤ 9223372036854775807) : CallSim Try.prog 6 [slA iA l, slA iA ts] [] (bA true) [] := by
  have aw := awake09_c
  have hlt := map_len iA ts
  by_cases h150 : 150 < (ts.length : Int)
  · (refine callSim_of tok Try.func6 rfl (fun args w => Try.call6 args w) rfl rfl rfl (fun F hF => ?_))
    (have zc1 := aw; refine WL ?_; clear zc1)
    exact fin_ret [] rfl rfl rfl rfl
  have hn := new_c l hl
  generalize (⟨l, 0, Nat.zero_le _, hl⟩ : Dk) = d0 at *
  have cj := junction_c d0
  have J := jv_jnF d0
  generalize jnF d0 = j at *
  generalize jnD d0 = d1 at *
  have hjn := J.n
  have ci := init_c j (by omega)
  have hlp := map_len phA j.ph
  rw [show inF j = tgC j ts 0 from rfl] at ci
  have e0 : (snC j ts 0).map iA = List.replicate (j.ph.map phA).length (iA 0) := by rw [hlp]; exact List.map_replicate
  (refine callSim_of tok Try.func6 rfl (fun args w => Try.call6 args w) rfl rfl rfl (fun F hF => ?_))
  (repeat' (first | (refine is_ops ?_; first | refine x_auto tok rfl rfl ?_ | (refine is_call ?_; (first | (refine is_fn 12 ?_; first | refine x_q (stp_call (aw) rfl rfl rfl rfl rfl) rfl ?_ | refine x_w (stp_call (aw) rfl rfl rfl rfl rfl) rfl rfl rfl ?_ | refine x_d (stp_call (aw) rfl rfl rfl rfl rfl) rfl rfl rfl ?_) | (refine is_fn 13 ?_; first | refine x_q (stp_call (hn) rfl rfl rfl rfl rfl) rfl ?_ | refine x_w (stp_call (hn) rfl rfl rfl rfl rfl) rfl rfl rfl ?_ | refine x_d (stp_call (hn) rfl rfl rfl rfl rfl) rfl rfl rfl ?_) | (refine is_fn 14 ?_; first | refine x_q (stp_call (cj) rfl rfl rfl rfl rfl) rfl ?_ | refine x_w (stp_call (cj) rfl rfl rfl rfl rfl) rfl rfl rfl ?_ | refine x_d (stp_call (cj) rfl rfl rfl rfl rfl) rfl rfl rfl ?_) | (refine is_fn 22 ?_; first | refine x_q (stp_call (ci) rfl rfl rfl rfl rfl) rfl ?_ | refine x_w (stp_call (ci) rfl rfl rfl rfl rfl) rfl rfl rfl ?_ | refine x_d (stp_call (ci) rfl rfl rfl rfl rfl) rfl rfl rfl ?_))) | (refine is_grd ?_; first | refine x_on rfl rfl ?_ | refine x_off rfl rfl rfl rfl ?_ | (refine x_gsplit rfl rfl (fun hc => ?_) (fun hc => ?_) <;> (try simp only [cmpB, decide_eq_true_eq, decide_eq_false_iff_not, beq_iff_eq, bne_iff_ne, ne_eq, Bool.not_eq_true, beq_eq_false_iff_ne, bne_eq_false_iff_eq, Int.not_lt, Int.not_le, Decidable.not_not] at hc))) | (refine is_bin ?_; first | refine x_q (stp_cmp_t rfl rfl rfl (by unfold cmpP; omega)) rfl ?_ | refine x_q (stp_cmp_f rfl rfl rfl (by unfold cmpP; omega)) rfl ?_ | refine x_q (stp_cmp rfl rfl rfl) rfl ?_ | refine x_q (stp_add rfl rfl ⟨by omega, by omega⟩) rfl ?_ | refine x_q (stp_sub rfl rfl ⟨by omega, by omega⟩) rfl ?_ | refine x_q (stp_mul rfl rfl ⟨by omega, by omega⟩) rfl ?_ | refine x_q (stp_quo rfl rfl (by assumption) (by omega)) rfl ?_ | refine x_q (stp_rem rfl rfl (by omega)) rfl ?_ | refine x_q (stp_xor rfl rfl) rfl ?_ | refine x_q (stp_shlI rfl rfl (by omega)) rfl ?_ | refine x_q (stp_shrI rfl rfl (by omega)) rfl ?_ | refine x_q (stp_shift (.inl ⟨rfl, rfl⟩) rfl rfl (by omega)) rfl ?_ | refine x_q (stp_shift (.inr ⟨rfl, rfl⟩) rfl rfl (by omega)) rfl ?_ | refine x_q (stp_bool2 tok rfl rfl rfl rfl (.inl ⟨rfl, rfl⟩)) rfl ?_ | refine x_q (stp_bool2 tok rfl rfl rfl rfl (.inr ⟨rfl, rfl⟩)) rfl ?_ | refine x_q (stp_eqlNil tok (.inl ⟨rfl, rfl⟩) rfl rfl rfl) rfl ?_ | refine x_q (stp_eqlNil_not tok (.inl ⟨rfl, rfl⟩) rfl rfl rfl rfl) rfl ?_ | refine x_q (stp_andI rfl rfl) rfl ?_ | refine x_q (stp_orI rfl rfl) rfl ?_ | refine x_q (stp_bicI rfl rfl) rfl ?_ | refine x_q (stp_strEqV rfl rfl (by assumption)) rfl ?_ | refine x_q (stp_strEq rfl rfl) rfl ?_ | refine x_q (stp_strNeV rfl rfl (by assumption)) rfl ?_ | refine x_q (stp_strNe rfl rfl) rfl ?_) | (refine is_idx ?_; first | refine x_q (stp_indexAddr_sl tok rfl rfl rfl rfl rfl (by omega) (by first | rfl | assumption) rfl rfl) rfl ?_ | refine x_q (stp_indexAddr_r0 tok rfl rfl rfl rfl rfl rfl (by omega) (by omega) rfl) rfl ?_ | refine x_q (stp_indexAddr_box tok rfl rfl rfl rfl rfl rfl (by omega) (by omega)) rfl ?_) | (refine is_load ?_; first | refine x_q (stp_load_fp1 tok rfl rfl rfl (by first | rfl | assumption) rfl) rfl ?_ | refine x_q (stp_load_fpa tok rfl rfl rfl (by first | rfl | assumption) rfl) rfl ?_ | refine x_q (stp_load_arr1 tok rfl rfl rfl rfl (by first | rfl | assumption) rfl) rfl ?_ | refine x_q (stp_load_arra tok rfl rfl rfl rfl (by first | rfl | assumption) rfl) rfl ?_) | (refine is_fad ?_; first | refine x_q (stp_fieldAddr_arr tok rfl rfl rfl rfl rfl rfl rfl rfl) rfl ?_ | refine x_q (stp_fieldAddr_fp tok rfl (by first | rfl | assumption) rfl rfl rfl rfl rfl rfl) rfl ?_) | (refine is_app ?_; first | refine x_appref0 tok rfl rfl rfl rfl rfl rfl rfl (by first | (intro y hy; cases hy; rfl) | exact map_hd _ _ (fun _ => rfl)) rfl rfl rfl (by first | omega | (simp; done) | (simp; omega)) rfl ?_ | refine x_appref tok rfl rfl rfl rfl rfl rfl rfl rfl rfl rfl rfl (by first | (intro y hy; cases hy; rfl) | exact map_hd _ _ (fun _ => rfl)) (by first | omega | (simp; done) | (simp; omega)) rfl ?_) | (refine is_un ?_; first | refine x_q (stp_neg rfl ⟨by omega, by omega⟩) rfl ?_) | (refine is_conv ?_; first | refine x_q (stp_conv_in tok rfl rfl rfl rfl ⟨by omega, by omega⟩) rfl ?_ | refine x_q (stp_conv tok rfl rfl rfl rfl) rfl ?_ | refine x_q (stp_convStr tok rfl rfl rfl rfl rfl rfl rfl (by first | rfl | assumption)) rfl ?_) | (refine is_slc ?_; first | refine x_slcL tok rfl rfl rfl rfl rfl (by first | (intro y hy; cases hy; rfl) | exact map_hd _ _ (fun _ => rfl) | (simp; done)) (by omega) (by simp; omega) (by first | exact List.map_drop.symm | rfl) rfl ?_ | refine x_slcH tok rfl rfl rfl rfl rfl (by first | (intro y hy; cases hy; rfl) | exact map_hd _ _ (fun _ => rfl) | (simp; done)) (by omega) (by simp; omega) (by first | exact List.map_take.symm | rfl) rfl ?_) | (refine is_mks ?_; refine x_mks tok rfl rfl rfl rfl rfl rfl rfl rfl rfl rfl rfl rfl rfl (by omega) (by omega) rfl rfl rfl ?_) | refine x_autow tok rfl rfl rfl rfl ?_ | (refine is_sto ?_; first | refine x_autos tok rfl rfl rfl ?_ | refine x_stoa tok rfl rfl rfl (by first | rfl | assumption) rfl rfl rfl rfl rfl rfl ?_ | refine x_sto1 tok rfl rfl rfl (by first | rfl | assumption) rfl rfl rfl rfl rfl rfl rfl rfl ?_) | refine x_nil ?_ | refine x_nilD (by kernel_rfl) ?_) | (first | refine sim_seq ?_ | refine x_region ?_ | refine x_draw rfl ?_ | refine sim_cond_true rfl ?_ | refine sim_cond_false rfl ?_ | (refine sim_cond rfl (fun hc => ?_) (fun hc => ?_) <;> (try simp only [cmpB, decide_eq_true_eq, decide_eq_false_iff_not, beq_iff_eq, bne_iff_ne, ne_eq, Bool.not_eq_true, beq_eq_false_iff_ne, bne_eq_false_iff_eq, Int.not_lt, Int.not_le, Decidable.not_not] at hc)) | refine sim_skip ?_ | refine sim_ret ?_ | refine sim_exit ?_ | refine sim_block ?_)))
  (refine sim_cnt (ts.length) [6, 28, 5] [5] [5, 6, 29, 30] [31, 7, 5, 6, 29, 30] rfl (fun i T U => ⟨(31, iA i) :: (7, .ref 28 0 (j.ph.map phA).length) :: T, (6, .box [slA liA (tgC j ts i).li, iA (tgC j ts i).gr, slA iA (tgC j ts i).nx, iA (tgC j ts i).wt]) :: (28, .arr 1 ((snC j ts i).map iA) false) :: U⟩) ?_; (conv => whnf); refine ⟨by (rw [e0]; rfl), ?_, ?_⟩)
  · intro u hu
    have hy := map_at iA ts u hu
    have cm := mod_c (ts.getD u default) (j.ph.length + 2) (by omega) (by omega)
    obtain ⟨C, _⟩ := tgC_v J ts u
    obtain ⟨C2, _⟩ := tgC_v J ts (u + 1)
    have hSv := snC_v J ts u (by omega)
    have hSl := snC_len j ts u
    have eSn : snC j ts (u + 1) = snM (tgC j ts u) (tgC j ts (u + 1)) (snC j ts u) (snC j ts u).length := rfl
    have hst := fun p hp => st_li J C ((ts.getD u default) % (j.ph.length + 2) - 1) p hp
    have cs := step_c j J (tgC j ts u) C ((ts.getD u default) % (j.ph.length + 2) - 1)
    rw [show stF j (tgC j ts u) ((ts.getD u default) % (j.ph.length + 2) - 1) = tgC j ts (u + 1) from rfl] at cs hst
    have bm := Int.emod_nonneg (ts.getD u default) (show ((j.ph.length : Int) + 2) ≠ 0 by omega)
    have bm2 := Int.emod_lt_of_pos (ts.getD u default) (show 0 < ((j.ph.length : Int) + 2) by omega)
    rw [eSn]
    clear eSn
    rw [← hlp] at cm bm2 cs bm hst
    generalize (ts.getD u default) % ((j.ph.map phA).length + 2) = t at *
    generalize tgC j ts (u + 1) = c2 at *
    generalize tgC j ts u = c1 at *
    generalize snC j ts u = sn at *
    generalize ts.getD u default = t0 at *
    have hc1 := C.n
    have hc2 := C2.n
    have hl1 := map_len liA c1.li
    have hl2 := map_len liA c2.li
    clear aw hn cj ci
    (have zc1 := cm; have zc2 := cs; refine WL ?_; clear zc1 zc2)
    (refine sim_cnt (c1.li.length) [28, 5, 6, 10] [5, 6, 10] [5, 6, 7, 10, 29, 30, 31, 52, 53] [54, 5, 6, 7, 10, 29, 30, 31, 52, 53] rfl (fun i T U => ⟨(54, iA i) :: T, (28, .arr 1 ((snM c1 c2 sn i).map iA) false) :: U⟩) ?_; (conv => whnf); refine ⟨by (rw [snM_zero]; rfl), ?_, ?_⟩)
    · intro v hv
      have hyv := map_at liA c1.li v hv
      change (c1.li.map liA)[v]? = some (liA (liO c1 v)) at hyv
      have hyx := map_at liA c2.li v (by omega)
      change (c2.li.map liA)[v]? = some (liA (liO c2 v)) at hyx
      have hpv := map_at phA j.ph v (by omega)
      change (j.ph.map phA)[v]? = some (phA (phO j v)) at hpv
      have hys : ((snM c1 c2 sn v).map iA)[v]? = some (iA (snO sn v)) := by rw [List.getElem?_map, snM_at c1 c2 sn v (by omega)]; rfl
      have hls : ((snM c1 c2 sn v).map iA).length = (j.ph.map phA).length := by rw [List.length_map, snM_len, hSl, hlp]
      have em : (snM c1 c2 sn (v + 1)).map iA = ((snM c1 c2 sn v).map iA).set v (iA (snU (liO c1 v) (liO c2 v) (snO sn v))) := by rw [snM_succ, List.map_set]
      rw [em]
      obtain ⟨hs1, hs2⟩ := hSv v (by omega)
      have hti := J.ti v (by omega)
      have cn := rneed_c (phO j v) ⟨by omega, by omega, by omega, by omega⟩
      obtain ⟨_, hg⟩ := greens (phO j v) (liO c1 v) (liO c2 v) (snO sn v) _ (C.k v (by omega)) hs2 (by omega) (hst v (by omega))
      unfold snU
      have hvn : v < (j.ph.map phA).length := by omega
      have hset : ∀ x y, (((snM c1 c2 sn v).map iA).set v x).set v y = ((snM c1 c2 sn v).map iA).set v y := fun x y => List.set_set ..
      have hys2 : ∀ x, (((snM c1 c2 sn v).map iA).set v x)[v]? = some x := fun x => by rw [List.getElem?_set_self (by omega)]
      have hls2 : ∀ x, (((snM c1 c2 sn v).map iA).set v x).length = (j.ph.map phA).length := fun x => by rw [List.length_set]; exact hls
      have hyS := hys2 (iA (snO sn v + 1))
      have hlS := hls2 (iA (snO sn v + 1))
      have hsS := hset (iA (snO sn v + 1)) (iA 0)
      clear hset hys2 hls2 hst hSv hs2 C C2 em cs cm
      generalize ((snM c1 c2 sn v).map iA) = xs at *
      generalize snO sn v = s at *
      generalize lnF (phO j v) = nd at *
      generalize phO j v = p at *
      generalize liO c1 v = a at *
      generalize liO c2 v = b at *
      by_cases hab : a.lamp = b.lamp
      · rw [if_pos hab]
        (refine WL ?_)
        rfl
      rw [if_neg hab, ← hsS]
      rcases hg with h | ⟨h1, h2⟩ | ⟨h1, h2, h3⟩ | ⟨h1, h2, h3, h4⟩ | ⟨h1, h2, h3 | h3, h4⟩ | ⟨h1, h2, h3 | h3⟩
      · exact absurd h hab
      all_goals ((have zc1 := cn; refine WL ?_; clear zc1); rfl)
    · rw [show c1.li.length = sn.length by omega]
      (refine WL ?_)
      rfl
  · (have zc1 := aw; refine WL ?_; clear zc1)
    exact fin_ret [] rfl rfl rfl rfl
end Av
end Go.Proofs.Ythmnhefaeknppaa
