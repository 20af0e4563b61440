
/- law17: the references' Revoke and Derive. -/
import Derived.Test.YtjbldhhgooihfaaGreatRgH
namespace Go.Proofs.YtjbldhhgooihfaaGreat
namespace Av
set_option linter.unusedSimpArgs false
set_option linter.unusedVariables false
set_option maxRecDepth 4000
set_option maxHeartbeats 1000000
theorem tv2F_len {l : List Tk} (h : tv2F l = true) : l.length = 8 := by
  unfold tv2F at h
  simp only [Bool.and_eq_true, decide_eq_true_eq] at h
  omega
theorem revoke2_ex (l : List Tk) (hb : TkB l) (s : Int) : ∃ (l' : List Tk) (e : Int), CallSim Tryz.prog 38 [slA tkA l, iA s] [] (.tup [slA tkA l', iA e]) [] ∧ (e = 0 → tv2F l = true ∧ 1 ≤ s ∧ s < 8 ∧ l' = frB (fun i => ldF l 9 i s) l 8) := by
  have hll := map_len tkA l
  have cv := tvalid2_c l
  cases hv : tv2F l
  · rw [hv] at cv
    refine ⟨[], 1, ?_, fun h => by omega⟩
    (refine callSim_of tok Tryz.func38 rfl (fun args w => Tryz.call38 args w) rfl rfl rfl (fun F hF => ?_))
    (have zc1 := cv; refine WW ?_; clear zc1)
    exact fin_ret [] rfl rfl rfl rfl
  rw [hv] at cv
  have h8 := tv2F_len hv
  by_cases h1 : 1 ≤ s
  case neg =>
    refine ⟨[], 8, ?_, fun h => by omega⟩
    (refine callSim_of tok Tryz.func38 rfl (fun args w => Tryz.call38 args w) rfl rfl rfl (fun F hF => ?_))
    (have zc1 := cv; refine WW ?_; clear zc1)
    exact fin_ret [] rfl rfl rfl rfl
  by_cases h2 : s < 8
  case neg =>
    refine ⟨[], 8, ?_, fun h => by omega⟩
    (refine callSim_of tok Tryz.func38 rfl (fun args w => Tryz.call38 args w) rfl rfl rfl (fun F hF => ?_))
    (have zc1 := cv; refine WW ?_; clear zc1)
    exact fin_ret [] rfl rfl rfl rfl
  have hy := map_atI tkA l s (by omega) (by omega)
  generalize l.getD s.toNat default = t at *
  cases hu : t.used
  · rw [show tkA t = tkU false t by unfold tkA tkU; rw [hu]] at hy
    unfold tkU at hy
    refine ⟨[], 12, ?_, fun h => by omega⟩
    (refine callSim_of tok Tryz.func38 rfl (fun args w => Tryz.call38 args w) rfl rfl rfl (fun F hF => ?_))
    (have zc1 := cv; refine WW ?_; clear zc1)
    exact fin_ret [] rfl rfl rfl rfl
  · rw [show tkA t = tkU true t by unfold tkA tkU; rw [hu]] at hy
    unfold tkU at hy
    have c1 := below_c l s h8
    rw [h8] at c1
    have c2 := free2_c l hb (fun i => ldF l 9 i s) h8
    refine ⟨frB (fun i => ldF l 9 i s) l 8, 0, ?_, fun _ => ⟨rfl, h1, h2, rfl⟩⟩
    generalize frB (fun i => ldF l 9 i s) l 8 = l2 at *
    generalize bsF (fun i => ldF l 9 i s) 8 = b at *
    (refine callSim_of tok Tryz.func38 rfl (fun args w => Tryz.call38 args w) rfl rfl rfl (fun F hF => ?_))
    (have zc1 := cv; have zc2 := c1; have zc3 := c2; refine WW ?_; clear zc1 zc2 zc3)
    exact fin_ret [] rfl rfl rfl rfl
theorem first_free : ∀ l : List Tk, (∀ i, i < l.length → (l.getD i default).used = true) ∨ ∃ j, j < l.length ∧ (l.getD j default).used = false ∧ ∀ k, k < j → (l.getD k default).used = true
  | [] => .inl fun i hi => by simp at hi
  | t :: l => by
    cases hu : t.used
    · exact .inr ⟨0, by simp, hu, fun k hk => absurd hk (Nat.not_lt_zero _)⟩
    · rcases first_free l with h | ⟨j, h1, h2, h3⟩
      · refine .inl fun i hi => ?_
        cases i with
        | zero => exact hu
        | succ i => exact h i (by simpa using hi)
      · refine .inr ⟨j + 1, by simpa using h1, h2, fun k hk => ?_⟩
        cases k with
        | zero => exact hu
        | succ k => exact h3 k (by omega)
def unt (li now : Int) : Int := if 0 < li then now + li else 0
/-- What was derived. -/
structure DvOK (l : List Tk) (pa ri cl li : Int) (sec : List Int) (now : Int) (l' : List Tk) (i : Int) : Prop where
  v : tv2F l = true
  s : sec.length = 8
  n : 0 ≤ now ∧ now ≤ 1073741824
  u : usF l pa = true
  w : wiF ri (l.getD pa.toNat default).rights = true
  c : 0 ≤ cl ∧ cl ≤ (l.getD pa.toNat default).cls
  f : 0 ≤ li ∧ li ≤ 600
  la : laF (unt li now) (l.getD pa.toNat default).til = false
  j : ∃ j : Nat, i = j ∧ j < 8 ∧ (l.getD j default).used = false ∧ l' = l.set j ⟨true, sec, pa, ri, cl, unt li now⟩
theorem derive2_ex (l : List Tk) (hb : TkB l) (pa ri cl li : Int) (sec : List Int) (now : Int) (hsl : sec.length ≤ 1000000) : ∃ (l' : List Tk) (i e : Int), CallSim Tryz.prog 37 [slA tkA l, iA pa, iA ri, iA cl, iA li, slA yA sec, iA now] [] (.tup [slA tkA l', iA i, iA e]) [] ∧ (e = 0 → DvOK l pa ri cl li sec now l' i) := by
  have hll := map_len tkA l
  have hss := map_len yA sec
  have cv := tvalid2_c l
  cases hv : tv2F l
  · rw [hv] at cv
    refine ⟨[], 0, 1, ?_, fun h => by omega⟩
    (refine callSim_of tok Tryz.func37 rfl (fun args w => Tryz.call37 args w) rfl rfl rfl (fun F hF => ?_))
    (have zc1 := cv; refine WW ?_; clear zc1)
    exact fin_ret [] rfl rfl rfl rfl
  rw [hv] at cv
  have h8 := tv2F_len hv
  by_cases hs : sec.length = 8 ∧ 0 ≤ now ∧ now ≤ 1073741824
  case neg =>
    refine ⟨[], 0, 1, ?_, fun h => by omega⟩
    by_cases g1 : sec.length = 8 <;> by_cases g2 : 0 ≤ now <;> first | (exfalso; omega; done) | ((refine callSim_of tok Tryz.func37 rfl (fun args w => Tryz.call37 args w) rfl rfl rfl (fun F hF => ?_)); ((have zc1 := cv; refine WW ?_; clear zc1)); exact fin_ret [] rfl rfl rfl rfl)
  obtain ⟨g1, g2, g3⟩ := hs
  cases hu : usF l pa
  · refine ⟨[], 0, 12, ?_, fun h => by omega⟩
    unfold usF at hu
    by_cases q1 : 0 ≤ pa
    · by_cases q2 : pa < l.length
      · have hy := map_atI tkA l pa q1 q2
        rw [decide_eq_true ⟨q1, q2⟩, Bool.true_and] at hu
        generalize l.getD pa.toNat default = t at *
        rw [show tkA t = tkU false t by unfold tkA tkU; rw [hu]] at hy
        unfold tkU at hy
        (refine callSim_of tok Tryz.func37 rfl (fun args w => Tryz.call37 args w) rfl rfl rfl (fun F hF => ?_))
        (have zc1 := cv; refine WW ?_; clear zc1)
        exact fin_ret [] rfl rfl rfl rfl
      · clear hu
        (refine callSim_of tok Tryz.func37 rfl (fun args w => Tryz.call37 args w) rfl rfl rfl (fun F hF => ?_))
        (have zc1 := cv; refine WW ?_; clear zc1)
        exact fin_ret [] rfl rfl rfl rfl
    · clear hu
      (refine callSim_of tok Tryz.func37 rfl (fun args w => Tryz.call37 args w) rfl rfl rfl (fun F hF => ?_))
      (have zc1 := cv; refine WW ?_; clear zc1)
      exact fin_ret [] rfl rfl rfl rfl
  obtain ⟨q1, q2⟩ := usF_bd hu
  have hy := map_atI tkA l pa q1 q2
  have hu' := hu
  unfold usF at hu'
  rw [decide_eq_true ⟨q1, q2⟩, Bool.true_and] at hu'
  generalize hp : l.getD pa.toNat default = p at *
  rw [show tkA p = tkU true p by unfold tkA tkU; rw [hu']] at hy
  unfold tkU at hy
  have cw := within2_c ri p.rights
  cases hw : wiF ri p.rights
  · rw [hw] at cw
    refine ⟨[], 0, 8, ?_, fun h => by omega⟩
    (refine callSim_of tok Tryz.func37 rfl (fun args w => Tryz.call37 args w) rfl rfl rfl (fun F hF => ?_))
    (have zc1 := cv; have zc2 := cw; refine WW ?_; clear zc1 zc2)
    exact fin_ret [] rfl rfl rfl rfl
  rw [hw] at cw
  by_cases hc : 0 ≤ cl ∧ cl ≤ p.cls ∧ 0 ≤ li ∧ li ≤ 600
  case neg =>
    refine ⟨[], 0, 8, ?_, fun h => by omega⟩
    by_cases c1 : 0 ≤ cl <;> by_cases c2 : cl ≤ p.cls <;> by_cases c3 : 0 ≤ li <;> first | (exfalso; omega; done) | ((refine callSim_of tok Tryz.func37 rfl (fun args w => Tryz.call37 args w) rfl rfl rfl (fun F hF => ?_)); ((have zc1 := cv; have zc2 := cw; refine WW ?_; clear zc1 zc2)); exact fin_ret [] rfl rfl rfl rfl)
  obtain ⟨c1, c2, c3, c4⟩ := hc
  have cl2 := later2_c (unt li now) p.til
  have hun : unt li now = if 0 < li then now + li else 0 := rfl
  cases hla : laF (unt li now) p.til
  case true =>
    rw [hla] at cl2
    refine ⟨[], 0, 8, ?_, fun h => by omega⟩
    by_cases h0 : 0 < li
    · rw [if_pos h0] at hun
      rw [hun] at cl2
      (refine callSim_of tok Tryz.func37 rfl (fun args w => Tryz.call37 args w) rfl rfl rfl (fun F hF => ?_))
      (have zc1 := cv; have zc2 := cw; have zc3 := cl2; refine WW ?_; clear zc1 zc2 zc3)
      exact fin_ret [] rfl rfl rfl rfl
    · rw [if_neg h0] at hun
      rw [hun] at cl2
      (refine callSim_of tok Tryz.func37 rfl (fun args w => Tryz.call37 args w) rfl rfl rfl (fun F hF => ?_))
      (have zc1 := cv; have zc2 := cw; have zc3 := cl2; refine WW ?_; clear zc1 zc2 zc3)
      exact fin_ret [] rfl rfl rfl rfl
  have cc := copyT2_own l hb
  rw [hla] at cl2
  by_cases h0 : 0 < li
  · rw [if_pos h0] at hun
    rw [hun] at cl2
    rcases first_free l with hall | ⟨j, hj, huj, hbf⟩
    · refine ⟨[], 0, 10, ?_, fun h => by omega⟩
      (refine callSim_of tok Tryz.func37 rfl (fun args w => Tryz.call37 args w) rfl rfl rfl (fun F hF => ?_))
      (have zc1 := cv; have zc2 := cw; have zc3 := cl2; refine WW ?_; clear zc1 zc2 zc3)
      (refine sim_cnt ((l.map tkA).length) [] [] [0, 1, 2, 3, 5, 18, 90, 91] [92, 0, 1, 2, 3, 5, 18, 90, 91] rfl (fun i T U => ⟨(92, iA i) :: T, U⟩) ?_; (conv => whnf); refine ⟨by rfl, ?_, ?_⟩)
      · intro i hi
        have hyi := map_at tkA l i (by omega)
        have hui := hall i (by omega)
        generalize l.getD i default = x at *
        rw [show tkA x = tkU true x by unfold tkA tkU; rw [hui]] at hyi
        unfold tkU at hyi
        (refine WW ?_)
        rfl
      · (refine WW ?_)
        exact fin_ret [] rfl rfl rfl rfl
    · refine ⟨l.set j ⟨true, sec, pa, ri, cl, unt li now⟩, j, 0, ?_, fun _ => ⟨hv, g1, ⟨g2, g3⟩, hu, by rw [hp]; exact hw, ⟨c1, by rw [hp]; exact c2⟩, ⟨c3, c4⟩, by rw [hp]; exact hla, j, rfl, by omega, huj, rfl⟩⟩
      have hyj := map_at tkA l j hj
      have e : ((l.map tkA).set j (tkA ⟨true, sec, pa, ri, cl, unt li now⟩)).take (l.map tkA).length = (l.set j ⟨true, sec, pa, ri, cl, unt li now⟩).map tkA := by
        rw [List.take_of_length_le (by simp), List.map_set]
      rw [hun] at e
      rw [hun]
      (refine callSim_of tok Tryz.func37 rfl (fun args w => Tryz.call37 args w) rfl rfl rfl (fun F hF => ?_))
      (have zc1 := cv; have zc2 := cw; have zc3 := cl2; refine WW ?_; clear zc1 zc2 zc3)
      (refine sim_cntP ((l.map tkA).length) [] [] [0, 1, 2, 3, 5, 18, 90, 91] [92, 0, 1, 2, 3, 5, 18, 90, 91] rfl (fun i T U zs => (i ≤ j) ∧ zs = ⟨(92, iA i) :: T, U⟩) ?_; (conv => whnf); refine ⟨?_, ?_, ?_⟩)
      · exact ⟨Nat.zero_le _, rfl⟩
      · rintro i st hi ⟨hij, rfl⟩
        by_cases hlt : i < j
        · have hyi := map_at tkA l i (by omega)
          have hui := hbf i hlt
          generalize l.getD i default = x at *
          rw [show tkA x = tkU true x by unfold tkA tkU; rw [hui]] at hyi
          unfold tkU at hyi
          (refine WW ?_)
          exact ⟨by omega, rfl⟩
        · obtain rfl : i = j := by omega
          generalize l.getD i default = x at *
          rw [show tkA x = tkU false x by unfold tkA tkU; rw [huj]] at hyj
          unfold tkU at hyj
          (have zc1 := cc; refine WL ?_; clear zc1)
          exact fin_ret [] rfl rfl (congrArg (fun z => AV.tup [AV.sl false z, iA i, iA 0]) e) rfl
      · rintro st ⟨hij, rfl⟩
        exfalso; omega
  · rw [if_neg h0] at hun
    rw [hun] at cl2
    rcases first_free l with hall | ⟨j, hj, huj, hbf⟩
    · refine ⟨[], 0, 10, ?_, fun h => by omega⟩
      (refine callSim_of tok Tryz.func37 rfl (fun args w => Tryz.call37 args w) rfl rfl rfl (fun F hF => ?_))
      (have zc1 := cv; have zc2 := cw; have zc3 := cl2; refine WW ?_; clear zc1 zc2 zc3)
      (refine sim_cnt ((l.map tkA).length) [] [] [0, 1, 2, 3, 5, 18, 90, 91] [92, 0, 1, 2, 3, 5, 18, 90, 91] rfl (fun i T U => ⟨(92, iA i) :: T, U⟩) ?_; (conv => whnf); refine ⟨by rfl, ?_, ?_⟩)
      · intro i hi
        have hyi := map_at tkA l i (by omega)
        have hui := hall i (by omega)
        generalize l.getD i default = x at *
        rw [show tkA x = tkU true x by unfold tkA tkU; rw [hui]] at hyi
        unfold tkU at hyi
        (refine WW ?_)
        rfl
      · (refine WW ?_)
        exact fin_ret [] rfl rfl rfl rfl
    · refine ⟨l.set j ⟨true, sec, pa, ri, cl, unt li now⟩, j, 0, ?_, fun _ => ⟨hv, g1, ⟨g2, g3⟩, hu, by rw [hp]; exact hw, ⟨c1, by rw [hp]; exact c2⟩, ⟨c3, c4⟩, by rw [hp]; exact hla, j, rfl, by omega, huj, rfl⟩⟩
      have hyj := map_at tkA l j hj
      have e : ((l.map tkA).set j (tkA ⟨true, sec, pa, ri, cl, unt li now⟩)).take (l.map tkA).length = (l.set j ⟨true, sec, pa, ri, cl, unt li now⟩).map tkA := by
        rw [List.take_of_length_le (by simp), List.map_set]
      rw [hun] at e
      rw [hun]
      (refine callSim_of tok Tryz.func37 rfl (fun args w => Tryz.call37 args w) rfl rfl rfl (fun F hF => ?_))
      (have zc1 := cv; have zc2 := cw; have zc3 := cl2; refine WW ?_; clear zc1 zc2 zc3)
      (refine sim_cntP ((l.map tkA).length) [] [] [0, 1, 2, 3, 5, 18, 90, 91] [92, 0, 1, 2, 3, 5, 18, 90, 91] rfl (fun i T U zs => (i ≤ j) ∧ zs = ⟨(92, iA i) :: T, U⟩) ?_; (conv => whnf); refine ⟨?_, ?_, ?_⟩)
      · exact ⟨Nat.zero_le _, rfl⟩
      · rintro i st hi ⟨hij, rfl⟩
        by_cases hlt : i < j
        · have hyi := map_at tkA l i (by omega)
          have hui := hbf i hlt
          generalize l.getD i default = x at *
          rw [show tkA x = tkU true x by unfold tkA tkU; rw [hui]] at hyi
          unfold tkU at hyi
          (refine WW ?_)
          exact ⟨by omega, rfl⟩
        · obtain rfl : i = j := by omega
          generalize l.getD i default = x at *
          rw [show tkA x = tkU false x by unfold tkA tkU; rw [huj]] at hyj
          unfold tkU at hyj
          (have zc1 := cc; refine WL ?_; clear zc1)
          exact fin_ret [] rfl rfl (congrArg (fun z => AV.tup [AV.sl false z, iA i, iA 0]) e) rfl
      · rintro st ⟨hij, rfl⟩
        exfalso; omega
end Av
end Go.Proofs.YtjbldhhgooihfaaGreat
