
/- Rings: following, dark, companion. -/
import Derived.Test.YtkliodbbcblobaaGreatRiA
namespace Go.Proofs.YtkliodbbcblobaaGreat
namespace Av
set_option linter.unusedSimpArgs false
set_option linter.unusedVariables false
set_option maxRecDepth 4000
set_option maxHeartbeats 1000000
theorem find_hit {p : Nat → Bool} : ∀ (l : List Nat) (i x : Nat), l[i]? = some x → (∀ y ∈ l.take i, p y = false) → p x = true → l.find? p = some x
  | [], i, x, h, _, _ => by simp at h
  | y :: l, 0, x, h, _, hp => by
    simp at h
    subst h
    rw [List.find?_cons, hp]
  | y :: l, i + 1, x, h, ha, hp => by
    rw [List.find?_cons, ha y (by simp)]
    exact find_hit l i x (by simpa using h) (fun z hz => ha z (by simp [hz])) hp
theorem find_no {p : Nat → Bool} {l : List Nat} (h : ∀ y ∈ l, p y = false) : l.find? p = none := List.find?_eq_none.2 fun y hy => by rw [h y hy]; decide
theorem take_snoc {l : List Nat} {i x z : Nat} (hx : l[i]? = some x) (hz : z ∈ l.take (i + 1)) : z ∈ l.take i ∨ z = x := by
  rw [List.take_add_one, hx] at hz
  simpa using hz
theorem foll_c (j : Jn) (hn : j.ph.length ≤ 1000) (r g f : Int) : CallSim Tryz.prog 105 [jnA j, iA r, iA g, iA f] [] (iA (flF j r g f)) [] := by
  have c := phs_c j r
  unfold phsH at c
  have hl := map_len phA j.ph
  (refine callSim_of tok Tryz.func105 rfl (fun args w => Tryz.call105 args w) rfl rfl rfl (fun F hF => ?_))
  (have zc1 := c; refine WW ?_; clear zc1)
  refine sim_rangeFunc hF (phs_it j hn r) rfl [4, 6, 7, 8] [4, 6, 7, 8] rfl rfl rfl rfl rfl rfl rfl rfl rfl (fun i ys h => ?_) (fun _ => [(4, .box [slA phA j.ph, slA iA j.cf, iA j.st]), (6, .box [iA g]), (7, .box [iA f]), (8, .box [iA 0])]) (fun i => ∀ x ∈ (rpF j r).take i, (decide (f ≤ (x : Int)) && (phO j x).group == g) = false) (T := [(4, .ptr 4 0 0), (6, .ptr 6 0 0), (7, .ptr 7 0 0), (8, .ptr 8 0 0)]) rfl (by simp) (fun i ys y hys hI F1 h1 h2 => ?_) (fun hI => ?_)
  · rw [List.getElem?_map, Option.map_eq_some_iff] at h
    obtain ⟨x, _, rfl⟩ := h
    rfl
  · rw [List.getElem?_map, Option.map_eq_some_iff] at hys
    obtain ⟨x, hx, rfl⟩ := hys
    show Sim _ F1 _ _ ⟨[(13, iA (x : Int)), (4, .ptr 4 0 0), (6, .ptr 6 0 0), (7, .ptr 7 0 0), (8, .ptr 8 0 0)], [(4, .box [slA phA j.ph, slA iA j.cf, iA j.st]), (6, .box [iA g]), (7, .box [iA f]), (8, .box [iA 0])]⟩ _
    have hxn := (rpF_mem.1 (List.mem_of_getElem? hx)).1
    have hy : (j.ph.map phA)[x]? = some (phA (phO j x)) := map_at phA j.ph x hxn
    have next : (decide (f ≤ (x : Int)) && (phO j x).group == g) = false → ∀ z ∈ (rpF j r).take (i + 1), (decide (f ≤ (z : Int)) && (phO j z).group == g) = false := fun hb z hz => by
      rcases take_snoc hx hz with h | rfl
      · exact hI z h
      · exact hb
    have hit : (decide (f ≤ (x : Int)) && (phO j x).group == g) = true → flF j r g f = x := fun hb => by
      unfold flF
      rw [find_hit _ i x hx hI hb]
    clear hI hx
    generalize phO j x = t at *
    (refine WW ?_)
    refine ⟨rfl, fun F2 g1 g2 => ?_⟩
    by_cases h3 : f ≤ (x : Int)
    · by_cases h4 : t.group = g
      · rw [hit (by rw [decide_eq_true h3, beq_iff_eq.2 h4]; rfl)]
        (refine WW ?_)
        exact fin_ret [] rfl rfl rfl rfl
      · have hnx := next (by rw [beq_eq_false_iff_ne.2 h4, Bool.and_false])
        (refine WW ?_)
        exact ⟨rfl, hnx⟩
    · have hnx := next (by rw [decide_eq_false h3, Bool.false_and])
      (refine WW ?_)
      exact ⟨rfl, hnx⟩
  · rw [List.length_map, List.take_length] at hI
    have hno : flF j r g f = -1 := by
      unfold flF
      rw [find_no hI]
    rw [hno]
    (refine WW ?_)
    exact fin_ret [] rfl rfl rfl rfl
theorem dark_c (j : Jn) (hn : j.ph.length ≤ 1000) (c : Ct) (hc : c.li.length = j.ph.length) (r : Int) : CallSim Tryz.prog 92 [jnA j, ctA c, iA r] [] (bA (dkF j c r)) [] := by
  have cp := phs_c j r
  unfold phsH at cp
  have hl := map_len phA j.ph
  have hl2 := map_len liA c.li
  (refine callSim_of tok Tryz.func92 rfl (fun args w => Tryz.call92 args w) rfl rfl rfl (fun F hF => ?_))
  (have zc1 := cp; refine WW ?_; clear zc1)
  refine sim_rangeFunc hF (phs_it j hn r) rfl [3, 4, 6] [3, 4, 6] rfl rfl rfl rfl rfl rfl rfl rfl rfl (fun i ys h => ?_) (fun _ => [(3, .box [slA phA j.ph, slA iA j.cf, iA j.st]), (4, .box [slA liA c.li, iA c.gr, slA iA c.nx, iA c.wt]), (6, .box [bA false])]) (fun i => ∀ x ∈ (rpF j r).take i, ((liO c x).lamp == 0) = true) (T := [(3, .ptr 3 0 0), (4, .ptr 4 0 0), (6, .ptr 6 0 0)]) rfl (by simp) (fun i ys y hys hI F1 h1 h2 => ?_) (fun hI => ?_)
  · rw [List.getElem?_map, Option.map_eq_some_iff] at h
    obtain ⟨x, _, rfl⟩ := h
    rfl
  · rw [List.getElem?_map, Option.map_eq_some_iff] at hys
    obtain ⟨x, hx, rfl⟩ := hys
    show Sim _ F1 _ _ ⟨[(11, iA (x : Int)), (3, .ptr 3 0 0), (4, .ptr 4 0 0), (6, .ptr 6 0 0)], [(3, .box [slA phA j.ph, slA iA j.cf, iA j.st]), (4, .box [slA liA c.li, iA c.gr, slA iA c.nx, iA c.wt]), (6, .box [bA false])]⟩ _
    have hmem := List.mem_of_getElem? hx
    have hxn := (rpF_mem.1 hmem).1
    have hy : (c.li.map liA)[x]? = some (liA (liO c x)) := map_at liA c.li x (by omega)
    have next : ((liO c x).lamp == 0) = true → ∀ z ∈ (rpF j r).take (i + 1), ((liO c z).lamp == 0) = true := fun hb z hz => by
      rcases take_snoc hx hz with h | rfl
      · exact hI z h
      · exact hb
    have hit : ((liO c x).lamp == 0) = false → dkF j c r = false := fun hb => by
      unfold dkF
      exact List.all_eq_false.2 ⟨x, hmem, by rw [hb]; decide⟩
    clear hI hx
    generalize liO c x = t at *
    (refine WW ?_)
    refine ⟨rfl, fun F2 g1 g2 => ?_⟩
    by_cases h4 : t.lamp = 0
    · have hnx := next (beq_iff_eq.2 h4)
      (refine WW ?_)
      exact ⟨rfl, hnx⟩
    · rw [hit (beq_eq_false_iff_ne.2 h4)]
      (refine WW ?_)
      exact fin_ret [] rfl rfl rfl rfl
  · rw [List.length_map, List.take_length] at hI
    have hd : dkF j c r = true := List.all_eq_true.2 hI
    rw [hd]
    (refine WW ?_)
    exact fin_ret [] rfl rfl rfl rfl
def lsN (j : Jn) (r t : Int) (i : Nat) : Int := match ((rpF j r).take i).find? (fun p : Nat => !cfP j.cf p t) with
  | some p => p
  | none => -1
theorem lsN_succ {j : Jn} {r t : Int} {i x : Nat} (hx : (rpF j r)[i]? = some x) : lsN j r t (i + 1) = if cfP j.cf x t = true then lsN j r t i else if lsN j r t i = -1 then (x : Int) else lsN j r t i := by
  unfold lsN
  rw [List.take_add_one, hx, List.find?_append]
  cases hf : ((rpF j r).take i).find? (fun p : Nat => !cfP j.cf p t) with
  | some p =>
    show ((p : Nat) : Int) = if cfP j.cf x t = true then (p : Int) else if (p : Int) = -1 then (x : Int) else (p : Int)
    split
    · rfl
    · rw [if_neg (by omega)]
  | none =>
    simp only [Option.none_or, Option.toList_some, List.find?_cons, List.find?_nil]
    cases cfP j.cf x t <;> rfl
theorem comp_c (j : Jn) (hn : j.ph.length ≤ 1000) (hcf : j.cf.length ≤ 40) (c : Ct) (hm : c.nx.length = 2) (r t : Int) (hr : 0 ≤ r ∧ r < 2) : CallSim Tryz.prog 93 [jnA j, ctA c, iA r, iA t] [] (iA (cmF j (c.nx.getD r.toNat default) r t)) [] := by
  have cp := phs_c j r
  unfold phsH at cp
  have hl := map_len phA j.ph
  have hl2 := map_len iA c.nx
  have hyn := map_atI iA c.nx r hr.1 (by omega)
  generalize hxe : c.nx.getD r.toNat default = xn at *
  (refine callSim_of tok Tryz.func93 rfl (fun args w => Tryz.call93 args w) rfl rfl rfl (fun F hF => ?_))
  (have zc1 := cp; refine WW ?_; clear zc1)
  refine sim_rangeFunc hF (phs_it j hn r) rfl [4, 5, 6, 7, 8, 9] [4, 5, 6, 7, 8, 9] rfl rfl rfl rfl rfl rfl rfl rfl rfl (fun i ys h => ?_) (fun i => [(4, .box [slA phA j.ph, slA iA j.cf, iA j.st]), (5, .box [slA liA c.li, iA c.gr, slA iA c.nx, iA c.wt]), (6, .box [iA r]), (7, .box [iA t]), (8, .box [iA 0]), (9, .box [iA (lsN j r t i)])]) (fun i => ∀ x ∈ (rpF j r).take i, (!cfP j.cf x t && decide (xn ≠ -1 ∧ xn ≤ (x : Int))) = false) (T := [(4, .ptr 4 0 0), (5, .ptr 5 0 0), (6, .ptr 6 0 0), (7, .ptr 7 0 0), (8, .ptr 8 0 0), (9, .ptr 9 0 0)]) rfl (by simp) (fun i ys y hys hI F1 h1 h2 => ?_) (fun hI => ?_)
  · rw [List.getElem?_map, Option.map_eq_some_iff] at h
    obtain ⟨x, _, rfl⟩ := h
    rfl
  · rw [List.getElem?_map, Option.map_eq_some_iff] at hys
    obtain ⟨x, hx, rfl⟩ := hys
    show Sim _ F1 _ _ ⟨[(14, iA (x : Int)), (4, .ptr 4 0 0), (5, .ptr 5 0 0), (6, .ptr 6 0 0), (7, .ptr 7 0 0), (8, .ptr 8 0 0), (9, .ptr 9 0 0)], [(4, .box [slA phA j.ph, slA iA j.cf, iA j.st]), (5, .box [slA liA c.li, iA c.gr, slA iA c.nx, iA c.wt]), (6, .box [iA r]), (7, .box [iA t]), (8, .box [iA 0]), (9, .box [iA (lsN j r t i)])]⟩ _
    have hxn := (rpF_mem.1 (List.mem_of_getElem? hx)).1
    have ck := conf_c j.cf hcf x t
    have es := lsN_succ (t := t) hx
    have next : (!cfP j.cf x t && decide (xn ≠ -1 ∧ xn ≤ (x : Int))) = false → ∀ z ∈ (rpF j r).take (i + 1), (!cfP j.cf z t && decide (xn ≠ -1 ∧ xn ≤ (z : Int))) = false := fun hb z hz => by
      rcases take_snoc hx hz with h | rfl
      · exact hI z h
      · exact hb
    have hit : (!cfP j.cf x t && decide (xn ≠ -1 ∧ xn ≤ (x : Int))) = true → cmF j xn r t = x := fun hb => by
      unfold cmF
      rw [find_hit _ i x hx hI hb]
    clear hI hx hxe
    generalize cfP j.cf x t = q at *
    generalize lsN j r t (i + 1) = l2 at *
    generalize lsN j r t i = l1 at *
    (refine WW ?_)
    refine ⟨rfl, fun F2 g1 g2 => ?_⟩
    cases q with
    | true =>
      rw [if_pos rfl] at es
      have hnx := next rfl
      subst es
      (have zc1 := ck; refine WW ?_; clear zc1)
      exact ⟨rfl, hnx⟩
    | false =>
    rw [if_neg (by decide)] at es
    by_cases h3 : xn = -1
    · have hnx := next (by rw [decide_eq_false (fun h => h.1 h3)]; rfl)
      by_cases h4 : l1 = -1
      · rw [if_pos h4] at es
        subst es
        (have zc1 := ck; refine WW ?_; clear zc1)
        exact ⟨rfl, hnx⟩
      · rw [if_neg h4] at es
        subst es
        (have zc1 := ck; refine WW ?_; clear zc1)
        exact ⟨rfl, hnx⟩
    by_cases h5 : xn ≤ (x : Int)
    · rw [hit (by rw [decide_eq_true ⟨h3, h5⟩]; rfl)]
      (have zc1 := ck; refine WW ?_; clear zc1)
      exact fin_ret [] rfl rfl rfl rfl
    · have hnx := next (by rw [decide_eq_false (fun h => h5 h.2)]; rfl)
      by_cases h4 : l1 = -1
      · rw [if_pos h4] at es
        subst es
        (have zc1 := ck; refine WW ?_; clear zc1)
        exact ⟨rfl, hnx⟩
      · rw [if_neg h4] at es
        subst es
        (have zc1 := ck; refine WW ?_; clear zc1)
        exact ⟨rfl, hnx⟩
  · rw [List.length_map, List.take_length] at hI
    have hno : cmF j xn r t = lsN j r t (rpF j r).length := by
      unfold cmF lsN
      rw [find_no hI, List.take_length]
      rfl
    rw [hno, List.length_map]
    generalize lsN j r t (rpF j r).length = l1 at *
    (refine WW ?_)
    exact fin_ret [] rfl rfl rfl rfl
end Av
end Go.Proofs.YtkliodbbcblobaaGreat
