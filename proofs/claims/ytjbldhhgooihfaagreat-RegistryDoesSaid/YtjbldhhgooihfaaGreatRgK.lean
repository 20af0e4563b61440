
/- law17: the references' vehicles. -/
import Derived.Test.YtjbldhhgooihfaaGreatRgJ
namespace Go.Proofs.YtjbldhhgooihfaaGreat
namespace Av
set_option linter.unusedSimpArgs false
set_option linter.unusedVariables false
set_option maxRecDepth 4000
set_option maxHeartbeats 1000000
def findV (l : List Vh) (id : Int) : Vh := (l.find? fun v => v.id == id).getD ⟨0, 0⟩
def hasV (l : List Vh) (id : Int) : Bool := l.any fun v => v.id == id
theorem findV_hit {l pre post : List Vh} {x : Vh} {id : Int} (h : l = pre ++ x :: post) (hn : ∀ y ∈ pre, y.id ≠ id) (hx : x.id = id) : findV l id = x ∧ hasV l id = true := by
  subst h
  have h1 : pre.find? (fun v => v.id == id) = none := List.find?_eq_none.2 fun y hy => by simpa using hn y hy
  refine ⟨?_, by simp [hasV, hx]⟩
  unfold findV
  rw [List.find?_append, h1]
  simp [hx]
theorem findV_none {l : List Vh} {id : Int} (hn : ∀ y ∈ l, y.id ≠ id) : findV l id = ⟨0, 0⟩ ∧ hasV l id = false := by
  have h1 : l.find? (fun v => v.id == id) = none := List.find?_eq_none.2 fun y hy => by simpa using hn y hy
  exact ⟨by unfold findV; rw [h1]; rfl, by simpa [hasV] using hn⟩
theorem find2_c (l : List Vh) (id : Int) (hn : l.length ≤ 1000000) : CallSim Tryz.prog 81 [slA vhA l, iA id] [] (.tup [vhA (findV l id), bA (hasV l id)]) [] := by
  have hl := map_len vhA l
  (refine callSim_of tok Tryz.func81 rfl (fun args w => Tryz.call81 args w) rfl rfl rfl (fun F hF => ?_))
  (refine WW ?_)
  (refine sim_rngP (l) [4] [] [1, 4, 8, 9] [10, 1, 4, 8, 9] rfl (fun i pre T U zs => (∀ y ∈ pre, y.id ≠ id) ∧ zs = ⟨(10, iA i) :: T, (4, .box [.s (.int .i64 0), .s (.int .i64 0)]) :: U⟩) ?_; (conv => whnf); refine ⟨?_, ?_, ?_⟩)
  · exact ⟨by simp, rfl⟩
  · rintro i pre x post st hx hi ⟨hp, rfl⟩
    have hy := rng_at vhA hx hi
    have hlt := rng_lt hx hi
    by_cases he : x.id = id
    · obtain ⟨e1, e2⟩ := findV_hit hx hp he
      rw [e1, e2]
      clear hx
      (refine WW ?_)
      exact fin_ret [] rfl rfl rfl rfl
    · clear hx
      (refine WW ?_)
      exact ⟨fun y hy => by simp only [List.mem_append, List.mem_singleton] at hy; rcases hy with hy | rfl; exact hp y hy; exact he, rfl⟩
  · rintro st ⟨hp, rfl⟩
    obtain ⟨e1, e2⟩ := findV_none hp
    rw [e1, e2]
    (refine WW ?_)
    exact fin_ret [] rfl rfl rfl rfl
def countV (l : List Vh) (c : Int) : Nat := (l.filter fun v => v.cls == c).length
theorem count3_c (l : List Vh) (c : Int) (hn : l.length ≤ 1000000) : CallSim Tryz.prog 82 [slA vhA l, iA c] [] (iA (countV l c)) [] := by
  have hl := map_len vhA l
  (refine callSim_of tok Tryz.func82 rfl (fun args w => Tryz.call82 args w) rfl rfl rfl (fun F hF => ?_))
  (refine WW ?_)
  (refine sim_rng (l) [] [] [1, 8, 9] [5, 10, 1, 8, 9] rfl (fun i pre T U => ⟨(5, iA (countV pre c)) :: (10, iA i) :: T, U⟩) ?_; (conv => whnf); refine ⟨by rfl, ?_, ?_⟩)
  · intro i pre x post hx hi
    have hy := rng_at vhA hx hi
    have hlt := rng_lt hx hi
    have hle : countV pre c ≤ i := by rw [← hi]; exact List.length_filter_le _ _
    have e : countV (pre ++ [x]) c = countV pre c + (if x.cls = c then 1 else 0) := by
      unfold countV
      rw [List.filter_append, List.length_append]
      by_cases h : x.cls = c
      · simp [h]
      · simp [h]
    clear hx
    by_cases h : x.cls = c
    · rw [if_pos h] at e
      rw [e]
      generalize countV pre c = m at *
      (refine WW ?_)
      rfl
    · rw [if_neg h, Nat.add_zero] at e
      rw [e]
      generalize countV pre c = m at *
      (refine WW ?_)
      rfl
  · (refine WW ?_)
    exact fin_ret [] rfl rfl rfl rfl
def vokF (l : List Vh) (i : Nat) : Bool := decide (0 ≤ (l.getD i default).id ∧ (l.getD i default).id ≤ 4294967295 ∧ 0 ≤ (l.getD i default).cls ∧ (l.getD i default).cls ≤ 3 ∧ (0 < i → (l.getD (i - 1) default).id < (l.getD i default).id))
def vvF (l : List Vh) : Bool := ((List.range l.length).all fun i => vokF l i) && decide ((l.length : Int) ≤ 8)
theorem vvF_no {l : List Vh} {i : Nat} (hi : i < l.length) (h : vokF l i = false) : vvF l = false := by
  unfold vvF
  have : ((List.range l.length).all fun i => vokF l i) = false := List.all_eq_false.2 ⟨i, List.mem_range.2 hi, by simp [h]⟩
  rw [this]; simp
theorem vvalid2_c (l : List Vh) (hn : l.length ≤ 1000000) : CallSim Tryz.prog 71 [slA vhA l] [] (bA (vvF l)) [] := by
  have hl := map_len vhA l
  (refine callSim_of tok Tryz.func71 rfl (fun args w => Tryz.call71 args w) rfl rfl rfl (fun F hF => ?_))
  (refine WW ?_)
  (refine sim_cntP (l.length) [] [] [0, 5, 6] [7, 0, 5, 6] rfl (fun i T U zs => (∀ s : Nat, s < i → vokF l s = true) ∧ zs = ⟨(7, iA i) :: T, U⟩) ?_; (conv => whnf); refine ⟨?_, ?_, ?_⟩)
  · exact ⟨fun s hs => absurd hs (Nat.not_lt_zero _), rfl⟩
  · rintro i st hi ⟨hp, rfl⟩
    have next : vokF l i = true → ∀ s : Nat, s < i + 1 → vokF l s = true := fun h s hs => by
      by_cases hsi : s = i
      · subst hsi; exact h
      · exact hp s (by omega)
    have stop := fun h => vvF_no (l := l) hi h
    have hy := map_at vhA l i hi
    have htok : vokF l i = _ := rfl
    conv at htok => rhs; unfold vokF
    by_cases hi0 : 0 < i
    · have hyp := map_atI vhA l ((i : Int) - 1) (by omega) (by omega)
      rw [show ((i : Int) - 1).toNat = i - 1 by omega] at hyp
      have hyq : (l.map vhA)[((i : Int) - 1).toNat]? = some (vhA (l.getD (i - 1) default)) := by rw [show ((i : Int) - 1).toNat = i - 1 by omega]; exact hyp
      clear hyp
      generalize l.getD i default = t at *
      generalize l.getD (i - 1) default = p at *
      generalize vokF l i = tk at *
      by_cases h1 : 0 ≤ t.id ∧ t.id ≤ 4294967295 ∧ 0 ≤ t.cls ∧ t.cls ≤ 3 ∧ p.id < t.id
      · obtain ⟨h1, h2, h3, h4, h5⟩ := h1
        rw [decide_eq_true ⟨h1, h2, h3, h4, fun _ => h5⟩] at htok
        (refine WW ?_)
        exact ⟨next htok, rfl⟩
      · rw [decide_eq_false (fun h => h1 ⟨h.1, h.2.1, h.2.2.1, h.2.2.2.1, h.2.2.2.2 hi0⟩)] at htok
        rw [stop htok]
        by_cases g1 : 0 ≤ t.id <;> by_cases g2 : t.id ≤ 4294967295 <;> by_cases g3 : 0 ≤ t.cls <;> by_cases g4 : t.cls ≤ 3 <;> by_cases g5 : p.id < t.id <;> first | (exfalso; exact h1 ⟨g1, g2, g3, g4, g5⟩) | (exfalso; omega; done) | (clear h1; ((refine WW ?_)); exact fin_ret [] rfl rfl rfl rfl)
    · obtain rfl : i = 0 := by omega
      generalize l.getD 0 default = t at *
      generalize vokF l 0 = tk at *
      by_cases h1 : 0 ≤ t.id ∧ t.id ≤ 4294967295 ∧ 0 ≤ t.cls ∧ t.cls ≤ 3
      · obtain ⟨h1, h2, h3, h4⟩ := h1
        rw [decide_eq_true ⟨h1, h2, h3, h4, fun h => absurd h hi0⟩] at htok
        (refine WW ?_)
        exact ⟨next htok, rfl⟩
      · rw [decide_eq_false (fun h => h1 ⟨h.1, h.2.1, h.2.2.1, h.2.2.2.1⟩)] at htok
        rw [stop htok]
        by_cases g1 : 0 ≤ t.id <;> by_cases g2 : t.id ≤ 4294967295 <;> by_cases g3 : 0 ≤ t.cls <;> by_cases g4 : t.cls ≤ 3 <;> first | (exfalso; exact h1 ⟨g1, g2, g3, g4⟩) | (exfalso; omega; done) | (clear h1; ((refine WW ?_)); exact fin_ret [] rfl rfl rfl rfl)
  · rintro st ⟨hp, rfl⟩
    have e : ((List.range l.length).all fun i => vokF l i) = true := List.all_eq_true.2 fun i hi => hp i (List.mem_range.1 hi)
    unfold vvF
    rw [e, Bool.true_and]
    by_cases h8 : (l.length : Int) ≤ 8
    · rw [decide_eq_true h8]
      (refine WW ?_)
      exact fin_ret [] rfl rfl rfl rfl
    · rw [decide_eq_false h8]
      (refine WW ?_)
      exact fin_ret [] rfl rfl rfl rfl
end Av
end Go.Proofs.YtjbldhhgooihfaaGreat
