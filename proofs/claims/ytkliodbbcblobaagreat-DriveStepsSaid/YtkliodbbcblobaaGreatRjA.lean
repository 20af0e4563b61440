
/- Rings, the reference: lamps, sets, groups, after. -/
import Derived.Test.YtkliodbbcblobaaGreatRiN
import Derived.Test.YtkliodbbcblobaaGreatRiM
namespace Go.Proofs.YtkliodbbcblobaaGreat
namespace Av
set_option linter.unusedSimpArgs false
set_option linter.unusedVariables false
set_option maxRecDepth 4000
set_option maxHeartbeats 1000000
theorem rstep_c (p : Ph) (h : PhB p) (hy : p.yel ≤ 60) (hr : 0 ≤ p.red ∧ p.red ≤ 60) (l : Li) (hv : lvF p l = true) (lv : Bool) : CallSim Tryz.prog 68 [phA p, liA l, bA lv] [] (liA (lpF p l lv)) [] := by
  have c := rneed_c p h
  have ht := tk_bd hv hy hr.2
  unfold lvF at hv
  unfold lpF
  by_cases h0 : l.lamp = 0
  · rw [if_pos h0, decide_eq_true_eq] at hv
    rw [if_neg (by omega), if_neg (by omega), if_neg (by omega)]
    have el : liA l = .agg [iA 0, iA 0] := by unfold liA; rw [h0, hv]
    rw [el]
    cases lv <;> ((refine callSim_of tok Tryz.func68 rfl (fun args w => Tryz.call68 args w) rfl rfl rfl (fun F hF => ?_)); (refine WW ?_); exact fin_ret [] rfl rfl rfl rfl)
  rw [if_neg h0] at hv
  by_cases h1 : l.lamp = 1
  · rw [if_pos h1]
    generalize lnF p = n at *
    cases lv with
    | false =>
      rw [if_neg (fun h => by cases h.1)]
      have el : liA ⟨1, min (l.tk + 1) 1073741824⟩ = .agg [iA l.lamp, iA (min (l.tk + 1) 1073741824)] := by rw [h1]; rfl
      rw [el]
      (refine callSim_of tok Tryz.func68 rfl (fun args w => Tryz.call68 args w) rfl rfl rfl (fun F hF => ?_))
      (refine WW ?_)
      exact fin_ret [] rfl rfl rfl rfl
    | true =>
    by_cases h2 : n ≤ l.tk + 1
    · rw [if_pos ⟨rfl, h2⟩]
      (refine callSim_of tok Tryz.func68 rfl (fun args w => Tryz.call68 args w) rfl rfl rfl (fun F hF => ?_))
      (have zc1 := c; refine WW ?_; clear zc1)
      exact fin_ret [] rfl rfl rfl rfl
    · rw [if_neg (fun h => h2 h.2)]
      have el : liA ⟨1, min (l.tk + 1) 1073741824⟩ = .agg [iA l.lamp, iA (min (l.tk + 1) 1073741824)] := by rw [h1]; rfl
      rw [el]
      (refine callSim_of tok Tryz.func68 rfl (fun args w => Tryz.call68 args w) rfl rfl rfl (fun F hF => ?_))
      (have zc1 := c; refine WW ?_; clear zc1)
      exact fin_ret [] rfl rfl rfl rfl
  rw [if_neg h1] at hv ⊢
  by_cases h2 : l.lamp = 2
  · rw [if_pos h2, decide_eq_true_eq] at hv
    rw [if_pos h2]
    by_cases h3 : l.tk + 1 < p.yel
    · rw [if_pos h3]
      have el : liA ⟨2, l.tk + 1⟩ = .agg [iA l.lamp, iA (min (l.tk + 1) 1073741824)] := by rw [h2, show min (l.tk + 1) 1073741824 = l.tk + 1 by omega]; rfl
      rw [el]
      (refine callSim_of tok Tryz.func68 rfl (fun args w => Tryz.call68 args w) rfl rfl rfl (fun F hF => ?_))
      (refine WW ?_)
      exact fin_ret [] rfl rfl rfl rfl
    rw [if_neg h3]
    by_cases h4 : p.red = 0
    · rw [if_pos h4]
      (refine callSim_of tok Tryz.func68 rfl (fun args w => Tryz.call68 args w) rfl rfl rfl (fun F hF => ?_))
      (refine WW ?_)
      exact fin_ret [] rfl rfl rfl rfl
    · rw [if_neg h4]
      (refine callSim_of tok Tryz.func68 rfl (fun args w => Tryz.call68 args w) rfl rfl rfl (fun F hF => ?_))
      (refine WW ?_)
      exact fin_ret [] rfl rfl rfl rfl
  rw [if_neg h2] at hv ⊢
  by_cases h3 : l.lamp = 3
  · rw [if_pos h3, decide_eq_true_eq] at hv
    rw [if_pos h3]
    by_cases h4 : l.tk + 1 < p.red
    · rw [if_pos h4]
      have el : liA ⟨3, l.tk + 1⟩ = .agg [iA l.lamp, iA (min (l.tk + 1) 1073741824)] := by rw [h3, show min (l.tk + 1) 1073741824 = l.tk + 1 by omega]; rfl
      rw [el]
      (refine callSim_of tok Tryz.func68 rfl (fun args w => Tryz.call68 args w) rfl rfl rfl (fun F hF => ?_))
      (refine WW ?_)
      exact fin_ret [] rfl rfl rfl rfl
    · rw [if_neg h4]
      (refine callSim_of tok Tryz.func68 rfl (fun args w => Tryz.call68 args w) rfl rfl rfl (fun F hF => ?_))
      (refine WW ?_)
      exact fin_ret [] rfl rfl rfl rfl
  · rw [if_neg h3] at hv
    cases hv
theorem rset_c (c : Ct) (hn : c.li.length ≤ 25) : CallSim Tryz.prog 72 [ctA c] [] (iA (seF c)) [] := by
  have hl := map_len liA c.li
  unfold seF
  (refine callSim_of tok Tryz.func72 rfl (fun args w => Tryz.call72 args w) rfl rfl rfl (fun F hF => ?_))
  (refine WW ?_)
  (refine sim_cnt (c.li.length) [] [] [7, 8] [3, 9, 7, 8] rfl (fun i T U => ⟨(3, iA (bsF (stB c) i)) :: (9, iA i) :: T, U⟩) ?_; (conv => whnf); refine ⟨by rfl, ?_, ?_⟩)
  · intro i hi
    have hy := map_at liA c.li i hi
    change (c.li.map liA)[i]? = some (liA (liO c i)) at hy
    have hbd := bsF_bd (stB c) i (by omega)
    have hp2 := p2_bd i (by omega)
    have e : bsF (stB c) (i + 1) = if stB c i = true then bsF (stB c) i + p2 i else bsF (stB c) i := rfl
    have hsb : stB c i = ((liO c i).lamp != 0) := rfl
    rw [e, hsb]
    generalize bsF (stB c) i = b at *
    generalize liO c i = t at *
    by_cases h : t.lamp = 0
    · rw [if_neg (by simp [h])]
      (refine WW ?_)
      rfl
    · rw [if_pos (by simp [h])]
      (refine WW ?_)
      rfl
  · (refine WW ?_)
    exact fin_ret [] rfl rfl rfl rfl
theorem rgroups_c (j : Jn) (hn : j.ph.length ≤ 1000) (hg : ∀ p : Nat, p < j.ph.length → 0 ≤ (phO j p).group ∧ (phO j p).group ≤ 3) : CallSim Tryz.prog 73 [jnA j] [] (iA (grF j)) [] := by
  have hl := map_len phA j.ph
  unfold grF
  (refine callSim_of tok Tryz.func73 rfl (fun args w => Tryz.call73 args w) rfl rfl rfl (fun F hF => ?_))
  (refine WW ?_)
  (refine sim_cnt (j.ph.length) [] [] [7, 8] [3, 9, 7, 8] rfl (fun i T U => ⟨(3, iA (grN j.ph i)) :: (9, iA i) :: T, U⟩) ?_; (conv => whnf); refine ⟨by rfl, ?_, ?_⟩)
  · intro i hi
    have hy := map_at phA j.ph i hi
    have hb := hg i hi
    unfold phO at hb
    have e : grN j.ph (i + 1) = max (grN j.ph i) ((j.ph.getD i default).group + 1) := rfl
    rw [e]
    generalize grN j.ph i = g at *
    generalize j.ph.getD i default = t at *
    (refine WW ?_)
    rfl
  · (refine WW ?_)
    exact fin_ret [] rfl rfl rfl rfl
theorem rof_c (j : Jn) (hn : j.ph.length ≤ 1000) (r g : Int) : CallSim Tryz.prog 75 [jnA j, iA r, iA g] [] (slA nA (ofN j r g j.ph.length)) [] := by
  have hl := map_len phA j.ph
  (refine callSim_of tok Tryz.func75 rfl (fun args w => Tryz.call75 args w) rfl rfl rfl (fun F hF => ?_))
  (refine WW ?_)
  refine sim_virt 7 1001 1 rfl rfl rfl ?_
  (refine sim_cnt (j.ph.length) [1001] [] [1, 2, 11, 12] [7, 13, 1, 2, 11, 12] rfl (fun i T U => ⟨(7, .ref 1001 0 ((ofN j r g i).map nA).length) :: (13, iA i) :: T, (1001, .arr 1 ((ofN j r g i).map nA) true) :: U⟩) ?_; (conv => whnf); refine ⟨by rfl, ?_, ?_⟩)
  · intro i hi
    have hy := map_at phA j.ph i hi
    change (j.ph.map phA)[i]? = some (phA (phO j i)) at hy
    have es := ofN_succ j r g i
    have hlen : (ofN j r g i).length ≤ 1000 := by
      have : (ofN j r g i).length ≤ (List.range i).length := List.length_filter_le _ _
      rw [List.length_range] at this
      omega
    have hlm : ((ofN j r g i).map nA).length ≤ 1000 := by rw [List.length_map]; exact hlen
    rw [es]
    generalize ofN j r g i = o at *
    generalize phO j i = t at *
    by_cases h1 : t.ring = r
    · by_cases h2 : t.group = g
      · rw [if_pos ⟨h1, h2⟩, List.map_append]
        generalize o.map nA = xs at *
        (refine WW ?_)
        rfl
      · rw [if_neg (fun h => h2 h.2)]
        (refine WW ?_)
        rfl
    · rw [if_neg (fun h => h1 h.1)]
      (refine WW ?_)
      rfl
  · (refine WW ?_)
    exact fin_ret [] rfl rfl (wk_take _ _) rfl
theorem aft_eq (j : Jn) (r g f : Int) : flF j r g f = match (ofN j r g j.ph.length).find? (fun p : Nat => decide (f ≤ (p : Int))) with
    | some p => (p : Int)
    | none => -1 := by
  unfold flF rpF rpN ofN
  rw [List.find?_filter, List.find?_filter]
  have e : (fun a : Nat => decide (((phO j a).ring == r) = true ∧ (decide (f ≤ (a : Int)) && (phO j a).group == g) = true)) = fun a : Nat => decide (((phO j a).ring == r && (phO j a).group == g) = true ∧ decide (f ≤ (a : Int)) = true) := by
    funext a
    rw [Bool.eq_iff_iff]
    simp only [decide_eq_true_eq, Bool.and_eq_true]
    constructor
    · rintro ⟨h1, h2, h3⟩; exact ⟨⟨h1, h3⟩, h2⟩
    · rintro ⟨⟨h1, h3⟩, h2⟩; exact ⟨h1, h2, h3⟩
  rw [e]
  rfl
theorem after_c (j : Jn) (hn : j.ph.length ≤ 1000) (r g p : Int) : CallSim Tryz.prog 51 [jnA j, iA r, iA g, iA p] [] (iA (flF j r g (p + 1))) [] := by
  have co := rof_c j hn r g
  rw [aft_eq]
  have hlen : (ofN j r g j.ph.length).length ≤ 1000 := by
    have : (ofN j r g j.ph.length).length ≤ (List.range j.ph.length).length := List.length_filter_le _ _
    rw [List.length_range] at this
    omega
  generalize ofN j r g j.ph.length = o at *
  have hl := map_len nA o
  cases hf : o.find? (fun q : Nat => decide (p + 1 ≤ (q : Int))) with
  | some q =>
    dsimp only
    rw [List.find?_eq_some_iff_getElem] at hf
    obtain ⟨hq, i0, hi0, he, hb⟩ := hf
    rw [decide_eq_true_eq] at hq
    (refine callSim_of tok Tryz.func51 rfl (fun args w => Tryz.call51 args w) rfl rfl rfl (fun F hF => ?_))
    (have zc1 := co; refine WW ?_; clear zc1)
    (refine sim_cntP (o.length) [] [] [3, 14, 15] [16, 3, 14, 15] rfl (fun i T U zs => (i ≤ i0) ∧ zs = ⟨(16, iA i) :: T, U⟩) ?_; (conv => whnf); refine ⟨?_, ?_, ?_⟩)
    · exact ⟨Nat.zero_le _, rfl⟩
    · rintro u st hu ⟨hui, rfl⟩
      have hy := map_at nA o u hu
      by_cases e : u = i0
      · subst e
        have eq : o.getD u default = q := by rw [← he]; simp [List.getD, hu]
        rw [eq] at hy
        unfold nA at hy
        clear hb co
        (refine WW ?_)
        exact fin_ret [] rfl rfl rfl rfl
      · have h2 := hb u (by omega)
        have eq : o.getD u default = o[u] := by simp [List.getD, hu]
        rw [← eq] at h2
        have h3 : ¬ p + 1 ≤ ((o.getD u default : Nat) : Int) := by simpa using h2
        generalize o.getD u default = v at *
        unfold nA at hy
        clear hb co h2
        (refine WW ?_)
        exact ⟨by omega, rfl⟩
    · rintro st ⟨hui, rfl⟩
      exfalso; omega
  | none =>
    dsimp only
    rw [List.find?_eq_none] at hf
    (refine callSim_of tok Tryz.func51 rfl (fun args w => Tryz.call51 args w) rfl rfl rfl (fun F hF => ?_))
    (have zc1 := co; refine WW ?_; clear zc1)
    (refine sim_cnt (o.length) [] [] [3, 14, 15] [16, 3, 14, 15] rfl (fun i T U => ⟨(16, iA i) :: T, U⟩) ?_; (conv => whnf); refine ⟨by rfl, ?_, ?_⟩)
    · intro u hu
      have hy := map_at nA o u hu
      have h2 := hf (o.getD u default) (by simp [List.getD, hu])
      have h3 : ¬ p + 1 ≤ ((o.getD u default : Nat) : Int) := by simpa using h2
      generalize o.getD u default = v at *
      unfold nA at hy
      clear hf co h2
      (refine WW ?_)
      rfl
    · clear hf co
      (refine WW ?_)
      exact fin_ret [] rfl rfl rfl rfl
end Av
end Go.Proofs.YtkliodbbcblobaaGreat
