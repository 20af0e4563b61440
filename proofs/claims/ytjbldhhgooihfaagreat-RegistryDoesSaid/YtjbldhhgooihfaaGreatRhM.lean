
/- law17: registry.Do and the reference's, for all arguments. -/
import Derived.Test.YtjbldhhgooihfaaGreatRhJ
import Derived.Test.YtjbldhhgooihfaaGreatRhL
import Derived.Test.YtjbldhhgooihfaaGreatRhD
import Derived.Test.YtjbldhhgooihfaaGreatRhE
import Derived.Test.YtjbldhhgooihfaaGreatRhC
namespace Go.Proofs.YtjbldhhgooihfaaGreat
namespace Av
set_option linter.unusedSimpArgs false
set_option linter.unusedVariables false
set_option maxRecDepth 4000
set_option maxHeartbeats 4000000
theorem tv_tkB {l : List Tk} (h : tvF l = true) : TkB l ∧ l.length = 8 := by
  rw [tv_eq] at h
  have T := (tv_iff l).1 h
  refine ⟨⟨by have := T.n; omega, fun t ht => ?_⟩, T.n⟩
  obtain ⟨i, hi, rfl⟩ := List.getElem_of_mem ht
  have hi8 : i < 8 := by have := T.n; omega
  have e : l.getD i default = l[i] := by simp [List.getD, hi]
  cases hu : (l.getD i default).used with
  | false =>
    have := T.f i hi8 hu
    unfold if2F at this
    rw [decide_eq_true_eq] at this
    rw [← e]; omega
  | true =>
    have := (T.s i hi8 hu).1
    unfold soF so2F at this
    simp only [Bool.and_eq_true, decide_eq_true_eq] at this
    rw [← e]; omega
theorem tkB_dv {l : List Tk} (hb : TkB l) (k : Nat) (e : Int) (t : Tk) (ht : t.sec.length ≤ 1000000) : TkB (dvO l k e t) := by
  unfold dvO
  split
  · refine ⟨by rw [List.length_set]; exact hb.n, fun x hx => ?_⟩
    rcases List.mem_or_eq_of_mem_set hx with h | rfl
    · exact hb.s x h
    · exact ht
  · exact tkB_nil
structure GvB (r : Rg) : Prop where
  num : 0 ≤ r.num ∧ r.num < 4
  b : RgB r
  tv : tvF r.tk = true
  n8 : r.tk.length = 8
  lim : (r.ag.lim.length : Int) = 4
  cls : 0 ≤ r.ag.cls ∧ r.ag.cls ≤ 3
  vl : r.vh.length ≤ 8
theorem gv_b {r : Rg} (h : gvF r = true) : GvB r := by
  unfold gvF at h
  simp only [Bool.and_eq_true, decide_eq_true_eq] at h
  obtain ⟨h1, h2, h3, h4, h5, h6⟩ := h
  obtain ⟨t1, t2⟩ := tv_tkB h3
  have hv := (vv_at.1 h4).1
  unfold avF at h2
  simp only [Bool.and_eq_true, decide_eq_true_eq] at h2
  obtain ⟨⟨a1, a2⟩, a3, a4, a5, a6⟩ := h2
  unfold inF at a5
  rw [decide_eq_true_eq] at a5
  exact ⟨h1, ⟨t1, by omega, by omega, by omega⟩, h3, t2, a2, a5, hv⟩
def rg0 : Rg := ⟨0, ⟨[], 0, 0, [], 0, 0, 0, 0⟩, [], [], ⟨0, 0, 0⟩⟩
def ms0 : Ms := ⟨0, [], [], []⟩
def doR (e : Int) : AV := .tup [rgA rg0, msA ms0, bA false, iA e]
theorem rg0_b : RgB rg0 := ⟨tkB_nil, Nat.zero_le _, Nat.zero_le _, Nat.zero_le _⟩
theorem doR_eq (e : Int) : doR e = .tup [.agg [iA 0, .sl false [], iA 0, iA 0, .sl false [], iA 0, iA 0, iA 0, iA 0, .sl false [], .sl false [], iA 0, iA 0, iA 0], .agg [iA 0, .sl false [], .sl false [], .sl false []], bA false, iA e] := rfl
theorem do_bad (r : Rg) (m : Ms) (s now : Int) (sec : List Int) (gv b us : Bool) (c1 : CallSim Tryz.prog 19 [rgA r] [] (bA gv) []) (c2 : CallSim Tryz.prog 25 [msA m] [] (bA b) []) (c3 : CallSim Tryz.prog 26 [slA tkA r.tk, iA s] [] (bA us) []) (h : gv = false ∨ b = false ∨ us = false ∨ (¬ (sec.length : Int) = 0 ∧ ¬ (sec.length : Int) = 8)) (hsl : sec.length ≤ 1000) :
    CallSim Tryz.prog 12 [rgA r, msA m, iA s, iA now, slA yA sec] [] (doR 1) [] := by
  rw [doR_eq]
  have hls := map_len yA sec
  cases gv
  · (refine callSim_of tok Tryz.func12 rfl (fun args w => Tryz.call12 args w) rfl rfl rfl (fun F hF => ?_))
    (have zc1 := c1; refine WW ?_; clear zc1)
    exact fin_ret [] rfl rfl rfl rfl
  cases b
  · (refine callSim_of tok Tryz.func12 rfl (fun args w => Tryz.call12 args w) rfl rfl rfl (fun F hF => ?_))
    (have zc1 := c1; have zc2 := c2; refine WW ?_; clear zc1 zc2)
    exact fin_ret [] rfl rfl rfl rfl
  cases us
  · (refine callSim_of tok Tryz.func12 rfl (fun args w => Tryz.call12 args w) rfl rfl rfl (fun F hF => ?_))
    (have zc1 := c1; have zc2 := c2; have zc3 := c3; refine WW ?_; clear zc1 zc2 zc3)
    exact fin_ret [] rfl rfl rfl rfl
  · rcases h with h | h | h | ⟨h1, h2⟩
    · cases h
    · cases h
    · cases h
    · (refine callSim_of tok Tryz.func12 rfl (fun args w => Tryz.call12 args w) rfl rfl rfl (fun F hF => ?_))
      (have zc1 := c1; have zc2 := c2; have zc3 := c3; refine WW ?_; clear zc1 zc2 zc3)
      exact fin_ret [] rfl rfl rfl rfl
theorem rdo_bad1 (r : Rg) (m : Ms) (s now : Int) (sec : List Int) (c1 : CallSim Tryz.prog 33 [rgA r] [] (bA false) []) :
    CallSim Tryz.prog 13 [rgA r, msA m, iA s, iA now, slA yA sec] [] (doR 1) [] := by
  rw [doR_eq]
  by_cases h2 : m.kind = 2
  · (refine callSim_of tok Tryz.func13 rfl (fun args w => Tryz.call13 args w) rfl rfl rfl (fun F hF => ?_))
    (have zc1 := c1; refine WW ?_; clear zc1)
    exact fin_ret [] rfl rfl rfl rfl
  by_cases h3 : m.kind = 3
  · (refine callSim_of tok Tryz.func13 rfl (fun args w => Tryz.call13 args w) rfl rfl rfl (fun F hF => ?_))
    (have zc1 := c1; refine WW ?_; clear zc1)
    exact fin_ret [] rfl rfl rfl rfl
  by_cases h4 : m.kind = 4
  · (refine callSim_of tok Tryz.func13 rfl (fun args w => Tryz.call13 args w) rfl rfl rfl (fun F hF => ?_))
    (have zc1 := c1; refine WW ?_; clear zc1)
    exact fin_ret [] rfl rfl rfl rfl
  by_cases h5 : m.kind = 5
  · (refine callSim_of tok Tryz.func13 rfl (fun args w => Tryz.call13 args w) rfl rfl rfl (fun F hF => ?_))
    (have zc1 := c1; refine WW ?_; clear zc1)
    exact fin_ret [] rfl rfl rfl rfl
  · (refine callSim_of tok Tryz.func13 rfl (fun args w => Tryz.call13 args w) rfl rfl rfl (fun F hF => ?_))
    (have zc1 := c1; refine WW ?_; clear zc1)
    exact fin_ret [] rfl rfl rfl rfl
theorem rdo_bad2 (r : Rg) (m : Ms) (s now : Int) (sec : List Int) (c1 : CallSim Tryz.prog 33 [rgA r] [] (bA true) []) (h2 : ¬ m.kind = 2) (h3 : ¬ m.kind = 3) (h4 : ¬ m.kind = 4) (h5 : ¬ m.kind = 5) :
    CallSim Tryz.prog 13 [rgA r, msA m, iA s, iA now, slA yA sec] [] (doR 1) [] := by
  rw [doR_eq]
  (refine callSim_of tok Tryz.func13 rfl (fun args w => Tryz.call13 args w) rfl rfl rfl (fun F hF => ?_))
  (have zc1 := c1; refine WW ?_; clear zc1)
  exact fin_ret [] rfl rfl rfl rfl
theorem rdo_bad3 (r : Rg) (m : Ms) (s now : Int) (sec : List Int) (n8 : r.tk.length = 8) (b : Bool) (c1 : CallSim Tryz.prog 33 [rgA r] [] (bA true) []) (c2 : CallSim Tryz.prog 34 [msA m] [] (bA b) []) (hk : m.kind = 2 ∨ m.kind = 3 ∨ m.kind = 4 ∨ m.kind = 5)
    (h : b = false ∨ usF r.tk s = false ∨ (¬ (sec.length : Int) = 0 ∧ ¬ (sec.length : Int) = 8)) (hsl : sec.length ≤ 1000) : CallSim Tryz.prog 13 [rgA r, msA m, iA s, iA now, slA yA sec] [] (doR 1) [] := by
  rw [doR_eq]
  have hls := map_len yA sec
  have hlt := map_len tkA r.tk
  cases b
  · clear h
    rcases hk with hk | hk | hk | hk
    all_goals
      (refine callSim_of tok Tryz.func13 rfl (fun args w => Tryz.call13 args w) rfl rfl rfl (fun F hF => ?_))
      (have zc1 := c1; have zc2 := c2; refine WW ?_; clear zc1 zc2)
      exact fin_ret [] rfl rfl rfl rfl
  by_cases h0 : 0 ≤ s
  case neg =>
    clear h
    rcases hk with hk | hk | hk | hk
    all_goals
      (refine callSim_of tok Tryz.func13 rfl (fun args w => Tryz.call13 args w) rfl rfl rfl (fun F hF => ?_))
      (have zc1 := c1; have zc2 := c2; refine WW ?_; clear zc1 zc2)
      exact fin_ret [] rfl rfl rfl rfl
  by_cases h8 : s < 8
  case neg =>
    clear h
    rcases hk with hk | hk | hk | hk
    all_goals
      (refine callSim_of tok Tryz.func13 rfl (fun args w => Tryz.call13 args w) rfl rfl rfl (fun F hF => ?_))
      (have zc1 := c1; have zc2 := c2; refine WW ?_; clear zc1 zc2)
      exact fin_ret [] rfl rfl rfl rfl
  have hy := map_atI tkA r.tk s h0 (by omega)
  have hU : usF r.tk s = (r.tk.getD s.toNat default).used := by unfold usF; rw [decide_eq_true ⟨h0, by omega⟩, Bool.true_and]
  rw [hU] at h
  clear hU
  generalize r.tk.getD s.toNat default = x at *
  obtain ⟨xu, x1, x2, x3, x4, x5⟩ := x
  dsimp only at h
  rw [show tkA ⟨xu, x1, x2, x3, x4, x5⟩ = .agg [bA xu, slA yA x1, iA x2, iA x3, iA x4, iA x5] from rfl] at hy
  cases xu
  · clear h
    rcases hk with hk | hk | hk | hk
    all_goals
      (refine callSim_of tok Tryz.func13 rfl (fun args w => Tryz.call13 args w) rfl rfl rfl (fun F hF => ?_))
      (have zc1 := c1; have zc2 := c2; refine WW ?_; clear zc1 zc2)
      exact fin_ret [] rfl rfl rfl rfl
  · rcases h with h | h | ⟨g1, g2⟩
    · cases h
    · cases h
    · rcases hk with hk | hk | hk | hk
      all_goals
        (refine callSim_of tok Tryz.func13 rfl (fun args w => Tryz.call13 args w) rfl rfl rfl (fun F hF => ?_))
        (have zc1 := c1; have zc2 := c2; refine WW ?_; clear zc1 zc2)
        exact fin_ret [] rfl rfl rfl rfl
theorem rack_c (k a : Int) : CallSim Tryz.prog 36 [iA k, iA a] [] (msA ⟨14, [], [k, a], []⟩) [] := by
  (refine callSim_of tok Tryz.func36 rfl (fun args w => Tryz.call36 args w) rfl rfl rfl (fun F hF => ?_))
  (refine WL ?_)
  exact fin_ret [] rfl rfl rfl rfl
/-- What Do comes to, as the program does it and as the reference does it. -/
def DoBoth (r : Rg) (m : Ms) (s now : Int) (sec : List Int) : Prop := ∃ (r' : Rg) (p : Ms) (u : Bool) (e : Int), RgB r' ∧ MsB p ∧
  CallSim Tryz.prog 12 [rgA r, msA m, iA s, iA now, slA yA sec] [] (.tup [rgA r', msA p, bA u, iA e]) [] ∧
  CallSim Tryz.prog 13 [rgA r, msA m, iA s, iA now, slA yA sec] [] (.tup [rgA r', msA p, bA u, iA e]) []
theorem ms0_b : MsB ms0 := ⟨Nat.zero_le _, Nat.zero_le _, Nat.zero_le _⟩
theorem DoBoth.bad {r : Rg} {m : Ms} {s now : Int} {sec : List Int} (e : Int) (h1 : CallSim Tryz.prog 12 [rgA r, msA m, iA s, iA now, slA yA sec] [] (doR e) []) (h2 : CallSim Tryz.prog 13 [rgA r, msA m, iA s, iA now, slA yA sec] [] (doR e) []) : DoBoth r m s now sec :=
  ⟨rg0, ms0, false, e, rg0_b, ms0_b, h1, h2⟩
theorem do3 (r : Rg) (hgv : gvF r = true) (tkn : List Int) (a s now : Int) (sec : List Int) (hu : usF r.tk s = true) (hs : (sec.length : Int) = 0 ∨ (sec.length : Int) = 8)
    (m1 : CallSim Tryz.prog 25 [msA ⟨3, tkn, [a], []⟩] [] (bA true) []) (m2 : CallSim Tryz.prog 34 [msA ⟨3, tkn, [a], []⟩] [] (bA true) []) : DoBoth r ⟨3, tkn, [a], []⟩ s now sec := by
  have H := gv_b hgv
  have c1 := gvalid_x r (by have := H.vl; omega)
  have k1 := gvalid2_c r (by have := H.vl; omega)
  rw [hgv] at c1 k1
  have c3 := gused_c r.tk s
  rw [hu] at c3
  have c4 := rclone_c r H.b
  have k4 := copyG_c r H.b
  have c6 := ack_c ⟨3, tkn, [a], []⟩ a rfl
  have k6 := rack_c 3 a
  rw [show msA ⟨14, [], [(⟨3, tkn, [a], []⟩ : Ms).kind, a], []⟩ = .agg [iA 14, .sl false [], .sl false [iA 3, iA a], .sl false []] from rfl] at c6
  rw [show msA ⟨14, [], [3, a], []⟩ = .agg [iA 14, .sl false [], .sl false [iA 3, iA a], .sl false []] from rfl] at k6
  obtain ⟨o, e, _, ho, c5, k5⟩ := revoke_both r.tk H.b.tk a
  have hls := map_len yA sec
  have hlt := map_len tkA r.tk
  have hl1 : ([a].map iA).length = 1 := rfl
  have hU : (r.tk.getD s.toNat default).used = true ∧ 0 ≤ s ∧ s < 8 := by
    unfold usF at hu
    rw [Bool.and_eq_true, decide_eq_true_eq] at hu
    exact ⟨hu.2, hu.1.1, by have := H.n8; omega⟩
  have hn8 := H.n8
  have hy := map_atI tkA r.tk s hU.2.1 (by omega)
  have hbR : RgB (rgT r o) := ⟨ho, H.b.s, H.b.l, H.b.v⟩
  obtain ⟨hU, hs0, hs8⟩ := hU
  clear hu H hgv
  generalize r.tk.getD s.toNat default = x at *
  obtain ⟨xu, x1, x2, x3, x4, x5⟩ := x
  dsimp only at hU
  subst hU
  rw [show tkA ⟨true, x1, x2, x3, x4, x5⟩ = .agg [bA true, slA yA x1, iA x2, iA x3, iA x4, iA x5] from rfl] at hy
  by_cases he : e = 0
  · subst he
    refine ⟨rgT r o, ⟨14, [], [3, a], []⟩, false, 0, hbR, ⟨Nat.zero_le _, by simp, Nat.zero_le _⟩, ?_, ?_⟩
    · rw [show msA ⟨14, [], [3, a], []⟩ = .agg [iA 14, .sl false [], .sl false [iA 3, iA a], .sl false []] from rfl]
      rcases hs with hs | hs
      all_goals
        (refine callSim_of tok Tryz.func12 rfl (fun args w => Tryz.call12 args w) rfl rfl rfl (fun F hF => ?_))
        (have zc1 := c1; have zc2 := m1; have zc3 := c3; have zc4 := c4; have zc5 := c5; have zc6 := c6; refine WW ?_; clear zc1 zc2 zc3 zc4 zc5 zc6)
        exact fin_ret [] rfl rfl rfl rfl
    · rw [show msA ⟨14, [], [3, a], []⟩ = .agg [iA 14, .sl false [], .sl false [iA 3, iA a], .sl false []] from rfl]
      rcases hs with hs | hs
      all_goals
        (refine callSim_of tok Tryz.func13 rfl (fun args w => Tryz.call13 args w) rfl rfl rfl (fun F hF => ?_))
        (have zc1 := k1; have zc2 := m2; have zc3 := k4; have zc4 := k6; have zc5 := k5; refine WW ?_; clear zc1 zc2 zc3 zc4 zc5)
        exact fin_ret [] rfl rfl rfl rfl
  · refine .bad e ?_ ?_
    · rw [doR_eq]
      rcases hs with hs | hs
      all_goals
        (refine callSim_of tok Tryz.func12 rfl (fun args w => Tryz.call12 args w) rfl rfl rfl (fun F hF => ?_))
        (have zc1 := c1; have zc2 := m1; have zc3 := c3; have zc4 := c4; have zc5 := c5; have zc6 := c6; refine WW ?_; clear zc1 zc2 zc3 zc4 zc5 zc6)
        exact fin_ret [] rfl rfl rfl rfl
    · rw [doR_eq]
      rcases hs with hs | hs
      all_goals
        (refine callSim_of tok Tryz.func13 rfl (fun args w => Tryz.call13 args w) rfl rfl rfl (fun F hF => ?_))
        (have zc1 := k1; have zc2 := m2; have zc3 := k4; have zc4 := k6; have zc5 := k5; refine WW ?_; clear zc1 zc2 zc3 zc4 zc5)
        exact fin_ret [] rfl rfl rfl rfl
end Av
end Go.Proofs.YtjbldhhgooihfaaGreat
