
/- law17: the shapes of messages, for all kinds. -/
import Derived.Test.YtjbldhhgooihfaaGreatRhF
namespace Go.Proofs.YtjbldhhgooihfaaGreat
namespace Av
set_option linter.unusedSimpArgs false
set_option linter.unusedVariables false
set_option maxRecDepth 4000
set_option maxHeartbeats 4000000
structure Shp where
  t : Int
  f : Int
  g : Int
  lo : Int
  hi : Int
  da : Int
def spA (s : Shp) : AV := .agg [iA s.t, iA s.f, iA s.g, iA s.lo, iA s.hi, iA s.da]
structure ShB (k : Int) (s : Shp) (ok : Bool) : Prop where
  t : 0 ≤ s.t ∧ s.t ≤ 10
  f : 0 ≤ s.f ∧ s.f ≤ 4
  g : s.g = 0 ∨ s.g = 2 ∨ s.g = 3 ∨ s.g = 4
  da : -1 ≤ s.da ∧ s.da ≤ 10
  k2 : k = 2 → s = ⟨10, 3, 0, 0, 0, 0⟩ ∧ ok = true
  k3 : k = 3 → s = ⟨10, 1, 0, 0, 0, 0⟩ ∧ ok = true
  k4 : k = 4 → s = ⟨10, 2, 0, 0, 0, 0⟩ ∧ ok = true
  k5 : k = 5 → s = ⟨10, 1, 0, 0, 0, 0⟩ ∧ ok = true
theorem shape_x (k : Int) : ∃ (s : Shp) (ok : Bool), ShB k s ok ∧ CallSim Tryz.prog 93 [iA k] [] (.tup [spA s, bA ok]) [] := by
  by_cases h1 : k = 1
  · subst h1
    refine ⟨⟨10, 0, 0, 0, 0, 0⟩, true, ⟨by decide, by decide, by decide, by decide, fun h => absurd h (by omega), fun h => absurd h (by omega), fun h => absurd h (by omega), fun h => absurd h (by omega)⟩, ?_⟩
    unfold spA
    (refine callSim_of tok Tryz.func93 rfl (fun args w => Tryz.call93 args w) rfl rfl rfl (fun F hF => ?_))
    (refine WW ?_)
    exact fin_ret [] rfl rfl rfl rfl
  by_cases h2 : k = 2
  · subst h2
    refine ⟨⟨10, 3, 0, 0, 0, 0⟩, true, ⟨by decide, by decide, by decide, by decide, fun _ => ⟨rfl, rfl⟩, fun h => absurd h (by omega), fun h => absurd h (by omega), fun h => absurd h (by omega)⟩, ?_⟩
    unfold spA
    (refine callSim_of tok Tryz.func93 rfl (fun args w => Tryz.call93 args w) rfl rfl rfl (fun F hF => ?_))
    (refine WW ?_)
    exact fin_ret [] rfl rfl rfl rfl
  by_cases h3 : k = 3
  · subst h3
    refine ⟨⟨10, 1, 0, 0, 0, 0⟩, true, ⟨by decide, by decide, by decide, by decide, fun h => absurd h (by omega), fun _ => ⟨rfl, rfl⟩, fun h => absurd h (by omega), fun h => absurd h (by omega)⟩, ?_⟩
    unfold spA
    (refine callSim_of tok Tryz.func93 rfl (fun args w => Tryz.call93 args w) rfl rfl rfl (fun F hF => ?_))
    (refine WW ?_)
    exact fin_ret [] rfl rfl rfl rfl
  by_cases h4 : k = 4
  · subst h4
    refine ⟨⟨10, 2, 0, 0, 0, 0⟩, true, ⟨by decide, by decide, by decide, by decide, fun h => absurd h (by omega), fun h => absurd h (by omega), fun _ => ⟨rfl, rfl⟩, fun h => absurd h (by omega)⟩, ?_⟩
    unfold spA
    (refine callSim_of tok Tryz.func93 rfl (fun args w => Tryz.call93 args w) rfl rfl rfl (fun F hF => ?_))
    (refine WW ?_)
    exact fin_ret [] rfl rfl rfl rfl
  by_cases h5 : k = 5
  · subst h5
    refine ⟨⟨10, 1, 0, 0, 0, 0⟩, true, ⟨by decide, by decide, by decide, by decide, fun h => absurd h (by omega), fun h => absurd h (by omega), fun h => absurd h (by omega), fun _ => ⟨rfl, rfl⟩⟩, ?_⟩
    unfold spA
    (refine callSim_of tok Tryz.func93 rfl (fun args w => Tryz.call93 args w) rfl rfl rfl (fun F hF => ?_))
    (refine WW ?_)
    exact fin_ret [] rfl rfl rfl rfl
  by_cases h6 : k = 6
  · subst h6
    refine ⟨⟨10, 3, 4, 1, 3, 0⟩, true, ⟨by decide, by decide, by decide, by decide, fun h => absurd h (by omega), fun h => absurd h (by omega), fun h => absurd h (by omega), fun h => absurd h (by omega)⟩, ?_⟩
    unfold spA
    (refine callSim_of tok Tryz.func93 rfl (fun args w => Tryz.call93 args w) rfl rfl rfl (fun F hF => ?_))
    (refine WW ?_)
    exact fin_ret [] rfl rfl rfl rfl
  by_cases h7 : k = 7
  · subst h7
    refine ⟨⟨10, 1, 2, 1, 3, 0⟩, true, ⟨by decide, by decide, by decide, by decide, fun h => absurd h (by omega), fun h => absurd h (by omega), fun h => absurd h (by omega), fun h => absurd h (by omega)⟩, ?_⟩
    unfold spA
    (refine callSim_of tok Tryz.func93 rfl (fun args w => Tryz.call93 args w) rfl rfl rfl (fun F hF => ?_))
    (refine WW ?_)
    exact fin_ret [] rfl rfl rfl rfl
  by_cases h8 : k = 8
  · subst h8
    refine ⟨⟨10, 1, 0, 0, 0, 0⟩, true, ⟨by decide, by decide, by decide, by decide, fun h => absurd h (by omega), fun h => absurd h (by omega), fun h => absurd h (by omega), fun h => absurd h (by omega)⟩, ?_⟩
    unfold spA
    (refine callSim_of tok Tryz.func93 rfl (fun args w => Tryz.call93 args w) rfl rfl rfl (fun F hF => ?_))
    (refine WW ?_)
    exact fin_ret [] rfl rfl rfl rfl
  by_cases h9 : k = 9
  · subst h9
    refine ⟨⟨10, 0, 0, 0, 0, 0⟩, true, ⟨by decide, by decide, by decide, by decide, fun h => absurd h (by omega), fun h => absurd h (by omega), fun h => absurd h (by omega), fun h => absurd h (by omega)⟩, ?_⟩
    unfold spA
    (refine callSim_of tok Tryz.func93 rfl (fun args w => Tryz.call93 args w) rfl rfl rfl (fun F hF => ?_))
    (refine WW ?_)
    exact fin_ret [] rfl rfl rfl rfl
  by_cases h10 : k = 10
  · subst h10
    refine ⟨⟨10, 1, 0, 0, 0, 0⟩, true, ⟨by decide, by decide, by decide, by decide, fun h => absurd h (by omega), fun h => absurd h (by omega), fun h => absurd h (by omega), fun h => absurd h (by omega)⟩, ?_⟩
    unfold spA
    (refine callSim_of tok Tryz.func93 rfl (fun args w => Tryz.call93 args w) rfl rfl rfl (fun F hF => ?_))
    (refine WW ?_)
    exact fin_ret [] rfl rfl rfl rfl
  by_cases h11 : k = 11
  · subst h11
    refine ⟨⟨10, 1, 0, 0, 0, 0⟩, true, ⟨by decide, by decide, by decide, by decide, fun h => absurd h (by omega), fun h => absurd h (by omega), fun h => absurd h (by omega), fun h => absurd h (by omega)⟩, ?_⟩
    unfold spA
    (refine callSim_of tok Tryz.func93 rfl (fun args w => Tryz.call93 args w) rfl rfl rfl (fun F hF => ?_))
    (refine WW ?_)
    exact fin_ret [] rfl rfl rfl rfl
  by_cases h12 : k = 12
  · subst h12
    refine ⟨⟨10, 0, 0, 0, 0, 0⟩, true, ⟨by decide, by decide, by decide, by decide, fun h => absurd h (by omega), fun h => absurd h (by omega), fun h => absurd h (by omega), fun h => absurd h (by omega)⟩, ?_⟩
    unfold spA
    (refine callSim_of tok Tryz.func93 rfl (fun args w => Tryz.call93 args w) rfl rfl rfl (fun F hF => ?_))
    (refine WW ?_)
    exact fin_ret [] rfl rfl rfl rfl
  by_cases h13 : k = 13
  · subst h13
    refine ⟨⟨0, 2, 0, 0, 0, 0⟩, true, ⟨by decide, by decide, by decide, by decide, fun h => absurd h (by omega), fun h => absurd h (by omega), fun h => absurd h (by omega), fun h => absurd h (by omega)⟩, ?_⟩
    unfold spA
    (refine callSim_of tok Tryz.func93 rfl (fun args w => Tryz.call93 args w) rfl rfl rfl (fun F hF => ?_))
    (refine WW ?_)
    exact fin_ret [] rfl rfl rfl rfl
  by_cases h14 : k = 14
  · subst h14
    refine ⟨⟨0, 2, 0, 0, 0, 0⟩, true, ⟨by decide, by decide, by decide, by decide, fun h => absurd h (by omega), fun h => absurd h (by omega), fun h => absurd h (by omega), fun h => absurd h (by omega)⟩, ?_⟩
    unfold spA
    (refine callSim_of tok Tryz.func93 rfl (fun args w => Tryz.call93 args w) rfl rfl rfl (fun F hF => ?_))
    (refine WW ?_)
    exact fin_ret [] rfl rfl rfl rfl
  by_cases h15 : k = 15
  · subst h15
    refine ⟨⟨0, 2, 0, 0, 0, 0⟩, true, ⟨by decide, by decide, by decide, by decide, fun h => absurd h (by omega), fun h => absurd h (by omega), fun h => absurd h (by omega), fun h => absurd h (by omega)⟩, ?_⟩
    unfold spA
    (refine callSim_of tok Tryz.func93 rfl (fun args w => Tryz.call93 args w) rfl rfl rfl (fun F hF => ?_))
    (refine WW ?_)
    exact fin_ret [] rfl rfl rfl rfl
  by_cases h16 : k = 16
  · subst h16
    refine ⟨⟨0, 1, 0, 0, 0, 10⟩, true, ⟨by decide, by decide, by decide, by decide, fun h => absurd h (by omega), fun h => absurd h (by omega), fun h => absurd h (by omega), fun h => absurd h (by omega)⟩, ?_⟩
    unfold spA
    (refine callSim_of tok Tryz.func93 rfl (fun args w => Tryz.call93 args w) rfl rfl rfl (fun F hF => ?_))
    (refine WW ?_)
    exact fin_ret [] rfl rfl rfl rfl
  by_cases h17 : k = 17
  · subst h17
    refine ⟨⟨0, 1, 0, 0, 0, -1⟩, true, ⟨by decide, by decide, by decide, by decide, fun h => absurd h (by omega), fun h => absurd h (by omega), fun h => absurd h (by omega), fun h => absurd h (by omega)⟩, ?_⟩
    unfold spA
    (refine callSim_of tok Tryz.func93 rfl (fun args w => Tryz.call93 args w) rfl rfl rfl (fun F hF => ?_))
    (refine WW ?_)
    exact fin_ret [] rfl rfl rfl rfl
  by_cases h18 : k = 18
  · subst h18
    refine ⟨⟨0, 1, 3, 0, 16, 0⟩, true, ⟨by decide, by decide, by decide, by decide, fun h => absurd h (by omega), fun h => absurd h (by omega), fun h => absurd h (by omega), fun h => absurd h (by omega)⟩, ?_⟩
    unfold spA
    (refine callSim_of tok Tryz.func93 rfl (fun args w => Tryz.call93 args w) rfl rfl rfl (fun F hF => ?_))
    (refine WW ?_)
    exact fin_ret [] rfl rfl rfl rfl
  by_cases h19 : k = 19
  · subst h19
    refine ⟨⟨0, 0, 2, 0, 4, 0⟩, true, ⟨by decide, by decide, by decide, by decide, fun h => absurd h (by omega), fun h => absurd h (by omega), fun h => absurd h (by omega), fun h => absurd h (by omega)⟩, ?_⟩
    unfold spA
    (refine callSim_of tok Tryz.func93 rfl (fun args w => Tryz.call93 args w) rfl rfl rfl (fun F hF => ?_))
    (refine WW ?_)
    exact fin_ret [] rfl rfl rfl rfl
  by_cases h20 : k = 20
  · subst h20
    refine ⟨⟨0, 4, 0, 0, 0, 0⟩, true, ⟨by decide, by decide, by decide, by decide, fun h => absurd h (by omega), fun h => absurd h (by omega), fun h => absurd h (by omega), fun h => absurd h (by omega)⟩, ?_⟩
    unfold spA
    (refine callSim_of tok Tryz.func93 rfl (fun args w => Tryz.call93 args w) rfl rfl rfl (fun F hF => ?_))
    (refine WW ?_)
    exact fin_ret [] rfl rfl rfl rfl
  by_cases h21 : k = 21
  · subst h21
    refine ⟨⟨0, 1, 0, 0, 0, -1⟩, true, ⟨by decide, by decide, by decide, by decide, fun h => absurd h (by omega), fun h => absurd h (by omega), fun h => absurd h (by omega), fun h => absurd h (by omega)⟩, ?_⟩
    unfold spA
    (refine callSim_of tok Tryz.func93 rfl (fun args w => Tryz.call93 args w) rfl rfl rfl (fun F hF => ?_))
    (refine WW ?_)
    exact fin_ret [] rfl rfl rfl rfl
  by_cases h22 : k = 22
  · subst h22
    refine ⟨⟨0, 1, 0, 0, 0, 0⟩, true, ⟨by decide, by decide, by decide, by decide, fun h => absurd h (by omega), fun h => absurd h (by omega), fun h => absurd h (by omega), fun h => absurd h (by omega)⟩, ?_⟩
    unfold spA
    (refine callSim_of tok Tryz.func93 rfl (fun args w => Tryz.call93 args w) rfl rfl rfl (fun F hF => ?_))
    (refine WW ?_)
    exact fin_ret [] rfl rfl rfl rfl
  refine ⟨⟨0, 0, 0, 0, 0, 0⟩, false, ⟨by decide, by decide, by decide, by decide, fun h => absurd h h2, fun h => absurd h h3, fun h => absurd h h4, fun h => absurd h h5⟩, ?_⟩
  unfold spA
  (refine callSim_of tok Tryz.func93 rfl (fun args w => Tryz.call93 args w) rfl rfl rfl (fun F hF => ?_))
  (refine WW ?_)
  exact fin_ret [] rfl rfl rfl rfl
theorem groups_x (s : Shp) (hg : s.g = 0 ∨ s.g = 2 ∨ s.g = 3 ∨ s.g = 4) (hf : 0 ≤ s.f ∧ s.f ≤ 4) (n : Int) (hn : 0 ≤ n ∧ n ≤ 1000000) : ∃ (gr : Int) (ok : Bool), (-1000000 ≤ gr ∧ gr ≤ 1000000) ∧ (s.g = 0 → gr = 0 ∧ ok = decide (n = s.f)) ∧ CallSim Tryz.prog 94 [spA s, iA n] [] (.tup [iA gr, bA ok]) [] := by
  obtain ⟨t, f, g, lo, hi, da⟩ := s
  dsimp only at *
  rw [show spA ⟨t, f, g, lo, hi, da⟩ = .agg [iA t, iA f, iA g, iA lo, iA hi, iA da] from rfl]
  rcases hg with rfl | rfl | rfl | rfl
  · by_cases h : n = f
    · refine ⟨0, true, by omega, fun _ => ⟨rfl, (decide_eq_true h).symm⟩, ?_⟩
      (refine callSim_of tok Tryz.func94 rfl (fun args w => Tryz.call94 args w) rfl rfl rfl (fun F hF => ?_))
      (refine WW ?_)
      exact fin_ret [] rfl rfl rfl rfl
    · refine ⟨0, false, by omega, fun _ => ⟨rfl, (decide_eq_false h).symm⟩, ?_⟩
      (refine callSim_of tok Tryz.func94 rfl (fun args w => Tryz.call94 args w) rfl rfl rfl (fun F hF => ?_))
      (refine WW ?_)
      exact fin_ret [] rfl rfl rfl rfl
  · by_cases h1 : n - f < 0
    · refine ⟨0, false, by omega, fun h => absurd h (by decide), ?_⟩
      (refine callSim_of tok Tryz.func94 rfl (fun args w => Tryz.call94 args w) rfl rfl rfl (fun F hF => ?_))
      (refine WW ?_)
      exact fin_ret [] rfl rfl rfl rfl
    have hb : 0 ≤ (n - f).tdiv 2 ∧ (n - f).tdiv 2 ≤ 1000000 := by
      rw [Int.tdiv_eq_ediv_of_nonneg (by omega)]
      omega
    have hq : InR .i64 ((n - f).tdiv 2) := by
      unfold InR
      have e1 : IntKind.i64.min = -9223372036854775808 := by decide
      have e2 : IntKind.i64.max = 9223372036854775807 := by decide
      omega
    by_cases h2 : (n - f).tmod 2 = 0
    case neg =>
      refine ⟨0, false, by omega, fun h => absurd h (by decide), ?_⟩
      (refine callSim_of tok Tryz.func94 rfl (fun args w => Tryz.call94 args w) rfl rfl rfl (fun F hF => ?_))
      (refine WW ?_)
      exact fin_ret [] rfl rfl rfl rfl
    generalize hm : (n - f).tmod 2 = m at *
    by_cases h3 : lo ≤ (n - f).tdiv 2
    case neg =>
      refine ⟨(n - f).tdiv 2, false, by omega, fun h => absurd h (by decide), ?_⟩
      subst hm
      (refine callSim_of tok Tryz.func94 rfl (fun args w => Tryz.call94 args w) rfl rfl rfl (fun F hF => ?_))
      (refine WW ?_)
      exact fin_ret [] rfl rfl rfl rfl
    by_cases h4 : (n - f).tdiv 2 ≤ hi
    · refine ⟨(n - f).tdiv 2, true, by omega, fun h => absurd h (by decide), ?_⟩
      subst hm
      (refine callSim_of tok Tryz.func94 rfl (fun args w => Tryz.call94 args w) rfl rfl rfl (fun F hF => ?_))
      (refine WW ?_)
      exact fin_ret [] rfl rfl rfl rfl
    · refine ⟨(n - f).tdiv 2, false, by omega, fun h => absurd h (by decide), ?_⟩
      subst hm
      (refine callSim_of tok Tryz.func94 rfl (fun args w => Tryz.call94 args w) rfl rfl rfl (fun F hF => ?_))
      (refine WW ?_)
      exact fin_ret [] rfl rfl rfl rfl
  · by_cases h1 : n - f < 0
    · refine ⟨0, false, by omega, fun h => absurd h (by decide), ?_⟩
      (refine callSim_of tok Tryz.func94 rfl (fun args w => Tryz.call94 args w) rfl rfl rfl (fun F hF => ?_))
      (refine WW ?_)
      exact fin_ret [] rfl rfl rfl rfl
    have hb : 0 ≤ (n - f).tdiv 3 ∧ (n - f).tdiv 3 ≤ 1000000 := by
      rw [Int.tdiv_eq_ediv_of_nonneg (by omega)]
      omega
    have hq : InR .i64 ((n - f).tdiv 3) := by
      unfold InR
      have e1 : IntKind.i64.min = -9223372036854775808 := by decide
      have e2 : IntKind.i64.max = 9223372036854775807 := by decide
      omega
    by_cases h2 : (n - f).tmod 3 = 0
    case neg =>
      refine ⟨0, false, by omega, fun h => absurd h (by decide), ?_⟩
      (refine callSim_of tok Tryz.func94 rfl (fun args w => Tryz.call94 args w) rfl rfl rfl (fun F hF => ?_))
      (refine WW ?_)
      exact fin_ret [] rfl rfl rfl rfl
    generalize hm : (n - f).tmod 3 = m at *
    by_cases h3 : lo ≤ (n - f).tdiv 3
    case neg =>
      refine ⟨(n - f).tdiv 3, false, by omega, fun h => absurd h (by decide), ?_⟩
      subst hm
      (refine callSim_of tok Tryz.func94 rfl (fun args w => Tryz.call94 args w) rfl rfl rfl (fun F hF => ?_))
      (refine WW ?_)
      exact fin_ret [] rfl rfl rfl rfl
    by_cases h4 : (n - f).tdiv 3 ≤ hi
    · refine ⟨(n - f).tdiv 3, true, by omega, fun h => absurd h (by decide), ?_⟩
      subst hm
      (refine callSim_of tok Tryz.func94 rfl (fun args w => Tryz.call94 args w) rfl rfl rfl (fun F hF => ?_))
      (refine WW ?_)
      exact fin_ret [] rfl rfl rfl rfl
    · refine ⟨(n - f).tdiv 3, false, by omega, fun h => absurd h (by decide), ?_⟩
      subst hm
      (refine callSim_of tok Tryz.func94 rfl (fun args w => Tryz.call94 args w) rfl rfl rfl (fun F hF => ?_))
      (refine WW ?_)
      exact fin_ret [] rfl rfl rfl rfl
  · by_cases h1 : n - f < 0
    · refine ⟨0, false, by omega, fun h => absurd h (by decide), ?_⟩
      (refine callSim_of tok Tryz.func94 rfl (fun args w => Tryz.call94 args w) rfl rfl rfl (fun F hF => ?_))
      (refine WW ?_)
      exact fin_ret [] rfl rfl rfl rfl
    have hb : 0 ≤ (n - f).tdiv 4 ∧ (n - f).tdiv 4 ≤ 1000000 := by
      rw [Int.tdiv_eq_ediv_of_nonneg (by omega)]
      omega
    have hq : InR .i64 ((n - f).tdiv 4) := by
      unfold InR
      have e1 : IntKind.i64.min = -9223372036854775808 := by decide
      have e2 : IntKind.i64.max = 9223372036854775807 := by decide
      omega
    by_cases h2 : (n - f).tmod 4 = 0
    case neg =>
      refine ⟨0, false, by omega, fun h => absurd h (by decide), ?_⟩
      (refine callSim_of tok Tryz.func94 rfl (fun args w => Tryz.call94 args w) rfl rfl rfl (fun F hF => ?_))
      (refine WW ?_)
      exact fin_ret [] rfl rfl rfl rfl
    generalize hm : (n - f).tmod 4 = m at *
    by_cases h3 : lo ≤ (n - f).tdiv 4
    case neg =>
      refine ⟨(n - f).tdiv 4, false, by omega, fun h => absurd h (by decide), ?_⟩
      subst hm
      (refine callSim_of tok Tryz.func94 rfl (fun args w => Tryz.call94 args w) rfl rfl rfl (fun F hF => ?_))
      (refine WW ?_)
      exact fin_ret [] rfl rfl rfl rfl
    by_cases h4 : (n - f).tdiv 4 ≤ hi
    · refine ⟨(n - f).tdiv 4, true, by omega, fun h => absurd h (by decide), ?_⟩
      subst hm
      (refine callSim_of tok Tryz.func94 rfl (fun args w => Tryz.call94 args w) rfl rfl rfl (fun F hF => ?_))
      (refine WW ?_)
      exact fin_ret [] rfl rfl rfl rfl
    · refine ⟨(n - f).tdiv 4, false, by omega, fun h => absurd h (by decide), ?_⟩
      subst hm
      (refine callSim_of tok Tryz.func94 rfl (fun args w => Tryz.call94 args w) rfl rfl rfl (fun F hF => ?_))
      (refine WW ?_)
      exact fin_ret [] rfl rfl rfl rfl
end Av
end Go.Proofs.YtjbldhhgooihfaaGreat
