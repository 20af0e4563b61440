
/- law17: registry.Do and the reference's, Register and Remove. -/
import Derived.Test.YtjbldhhgooihfaaGreatRhM
namespace Go.Proofs.YtjbldhhgooihfaaGreat
namespace Av
set_option linter.unusedSimpArgs false
set_option linter.unusedVariables false
set_option maxRecDepth 4000
set_option maxHeartbeats 4000000
def rgV (r : Rg) (l : List Vh) : Rg := ⟨r.num, r.ag, r.tk, l, r.bk⟩
theorem do5 (r : Rg) (hgv : gvF r = true) (tkn : List Int) (a s now : Int) (sec : List Int) (hu : usF r.tk s = true) (hs : (sec.length : Int) = 0 ∨ (sec.length : Int) = 8)
    (m1 : CallSim Tryz.prog 25 [msA ⟨5, tkn, [a], []⟩] [] (bA true) []) (m2 : CallSim Tryz.prog 34 [msA ⟨5, tkn, [a], []⟩] [] (bA true) []) : DoBoth r ⟨5, tkn, [a], []⟩ s now sec := by
  have H := gv_b hgv
  have c1 := gvalid_x r (by have := H.vl; omega)
  have k1 := gvalid2_c r (by have := H.vl; omega)
  rw [hgv] at c1 k1
  have c3 := gused_c r.tk s
  rw [hu] at c3
  have c4 := rclone_c r H.b
  have k4 := copyG_c r H.b
  have c6 := ack_c ⟨5, tkn, [a], []⟩ a rfl
  have k6 := rack_c 5 a
  rw [show msA ⟨14, [], [(⟨5, tkn, [a], []⟩ : Ms).kind, a], []⟩ = .agg [iA 14, .sl false [], .sl false [iA 5, iA a], .sl false []] from rfl] at c6
  rw [show msA ⟨14, [], [5, a], []⟩ = .agg [iA 14, .sl false [], .sl false [iA 5, iA a], .sl false []] from rfl] at k6
  obtain ⟨o, e, _, ho, c5, k5⟩ := remove_both r.vh (by have := H.vl; omega) a
  have hls := map_len yA sec
  have hlt := map_len tkA r.tk
  have hl1 : ([a].map iA).length = 1 := rfl
  have hU : (r.tk.getD s.toNat default).used = true ∧ 0 ≤ s ∧ s < 8 := by
    unfold usF at hu
    rw [Bool.and_eq_true, decide_eq_true_eq] at hu
    exact ⟨hu.2, hu.1.1, by have := H.n8; omega⟩
  have hn8 := H.n8
  have hy := map_atI tkA r.tk s hU.2.1 (by omega)
  have hbR : RgB (rgV r o) := ⟨H.b.tk, H.b.s, H.b.l, by have := H.vl; show o.length ≤ _; omega⟩
  obtain ⟨hU, hs0, hs8⟩ := hU
  clear hu H hgv
  generalize r.tk.getD s.toNat default = x at *
  obtain ⟨xu, x1, x2, x3, x4, x5⟩ := x
  dsimp only at hU
  subst hU
  rw [show tkA ⟨true, x1, x2, x3, x4, x5⟩ = .agg [bA true, slA yA x1, iA x2, iA x3, iA x4, iA x5] from rfl] at hy
  by_cases he : e = 0
  · subst he
    refine ⟨rgV r o, ⟨14, [], [5, a], []⟩, false, 0, hbR, ⟨Nat.zero_le _, by simp, Nat.zero_le _⟩, ?_, ?_⟩
    · rw [show msA ⟨14, [], [5, a], []⟩ = .agg [iA 14, .sl false [], .sl false [iA 5, iA a], .sl false []] from rfl]
      rcases hs with hs | hs
      all_goals
        (refine callSim_of tok Tryz.func12 rfl (fun args w => Tryz.call12 args w) rfl rfl rfl (fun F hF => ?_))
        (have zc1 := c1; have zc2 := m1; have zc3 := c3; have zc4 := c4; have zc5 := c5; have zc6 := c6; refine WW ?_; clear zc1 zc2 zc3 zc4 zc5 zc6)
        exact fin_ret [] rfl rfl rfl rfl
    · rw [show msA ⟨14, [], [5, a], []⟩ = .agg [iA 14, .sl false [], .sl false [iA 5, iA a], .sl false []] from rfl]
      rcases hs with hs | hs
      all_goals
        (refine callSim_of tok Tryz.func13 rfl (fun args w => Tryz.call13 args w) rfl rfl rfl (fun F hF => ?_))
        (have zc1 := k1; have zc2 := m2; have zc3 := k4; have zc4 := k6; have zc5 := k5; refine WW ?_; clear zc1 zc2 zc3 zc4 zc5)
        exact fin_ret [] rfl rfl rfl rfl
  · refine .bad e ?_ ?_
    · rw [doR_eq]
      rcases hs with hs | hs
      all_goals
        (refine callSim_of tok Tryz.func12 rfl (fun args w => Tryz.call12 args w) rfl rfl rfl (fun F hF => ?_))
        (have zc1 := c1; have zc2 := m1; have zc3 := c3; have zc4 := c4; have zc5 := c5; have zc6 := c6; refine WW ?_; clear zc1 zc2 zc3 zc4 zc5 zc6)
        exact fin_ret [] rfl rfl rfl rfl
    · rw [doR_eq]
      rcases hs with hs | hs
      all_goals
        (refine callSim_of tok Tryz.func13 rfl (fun args w => Tryz.call13 args w) rfl rfl rfl (fun F hF => ?_))
        (have zc1 := k1; have zc2 := m2; have zc3 := k4; have zc4 := k6; have zc5 := k5; refine WW ?_; clear zc1 zc2 zc3 zc4 zc5)
        exact fin_ret [] rfl rfl rfl rfl
theorem gregister_c (r : Rg) (a b s : Int) (n8 : r.tk.length = 8) (h0 : 0 ≤ s) (h8 : s < 8) (o : List Vh) (e : Int) (c : CallSim Tryz.prog 66 [slA vhA r.vh, agA (agC r.ag (min r.ag.cls (r.tk.getD s.toNat default).cls)), vhA ⟨a, b⟩] [] (.tup [slA vhA o, iA e]) []) :
    CallSim Tryz.prog 31 [rgA r, slA iA [a, b], iA s] [] (.tup [slA vhA o, iA e]) [] := by
  have hlt := map_len tkA r.tk
  have hl1 : ([a, b].map iA).length = 2 := rfl
  have hy := map_atI tkA r.tk s h0 (by omega)
  generalize r.tk.getD s.toNat default = x at *
  obtain ⟨xu, x1, x2, x3, x4, x5⟩ := x
  rw [show tkA ⟨xu, x1, x2, x3, x4, x5⟩ = .agg [bA xu, slA yA x1, iA x2, iA x3, iA x4, iA x5] from rfl] at hy
  rw [show (⟨xu, x1, x2, x3, x4, x5⟩ : Tk).cls = x4 from rfl] at c
  have hAG : agA (agC r.ag (min r.ag.cls x4)) = .agg [slA yA r.ag.sec, iA r.ag.rights, iA (min r.ag.cls x4), slA iA r.ag.lim, iA r.ag.req, iA r.ag.ses, iA r.ag.rate, iA r.ag.burst] := rfl
  rw [hAG] at c
  rw [show vhA ⟨a, b⟩ = .agg [iA a, iA b] from rfl] at c
  (refine callSim_of tok Tryz.func31 rfl (fun args w => Tryz.call31 args w) rfl rfl rfl (fun F hF => ?_))
  (have zc1 := c; refine WW ?_; clear zc1)
  exact fin_ret [] rfl rfl rfl rfl
theorem do4 (r : Rg) (hgv : gvF r = true) (tkn : List Int) (a b s now : Int) (sec : List Int) (hu : usF r.tk s = true) (hs : (sec.length : Int) = 0 ∨ (sec.length : Int) = 8)
    (m1 : CallSim Tryz.prog 25 [msA ⟨4, tkn, [a, b], []⟩] [] (bA true) []) (m2 : CallSim Tryz.prog 34 [msA ⟨4, tkn, [a, b], []⟩] [] (bA true) []) : DoBoth r ⟨4, tkn, [a, b], []⟩ s now sec := by
  have H := gv_b hgv
  have c1 := gvalid_x r (by have := H.vl; omega)
  have k1 := gvalid2_c r (by have := H.vl; omega)
  rw [hgv] at c1 k1
  have c3 := gused_c r.tk s
  rw [hu] at c3
  have c4 := rclone_c r H.b
  have k4 := copyG_c r H.b
  have c6 : CallSim Tryz.prog 30 [msA ⟨4, tkn, [a, b], []⟩] [] (msA ⟨14, [], [4, a], []⟩) [] := by
    have hl1 : ([a, b].map iA).length = 2 := rfl
    (refine callSim_of tok Tryz.func30 rfl (fun args w => Tryz.call30 args w) rfl rfl rfl (fun F hF => ?_))
    (refine WL ?_)
    exact fin_ret [] rfl rfl rfl rfl
  have k6 := rack_c 4 a
  rw [show msA ⟨14, [], [4, a], []⟩ = .agg [iA 14, .sl false [], .sl false [iA 4, iA a], .sl false []] from rfl] at c6 k6
  obtain ⟨o, e, _, ho, cv, k5⟩ := register_both r.vh (by have := H.vl; omega) r.ag (r.tk.getD s.toNat default).cls H.lim H.cls.2 ⟨a, b⟩
  have hls := map_len yA sec
  have hlt := map_len tkA r.tk
  have hl1 : ([a, b].map iA).length = 2 := rfl
  have hU : (r.tk.getD s.toNat default).used = true ∧ 0 ≤ s ∧ s < 8 := by
    unfold usF at hu
    rw [Bool.and_eq_true, decide_eq_true_eq] at hu
    exact ⟨hu.2, hu.1.1, by have := H.n8; omega⟩
  have hn8 := H.n8
  have hy := map_atI tkA r.tk s hU.2.1 (by omega)
  have hbR : RgB (rgV r o) := ⟨H.b.tk, H.b.s, H.b.l, by have := H.vl; show o.length ≤ _; omega⟩
  obtain ⟨hU, hs0, hs8⟩ := hU
  have c5 := gregister_c r a b s hn8 hs0 hs8 o e cv
  clear hu H hgv cv
  generalize r.tk.getD s.toNat default = x at *
  obtain ⟨xu, x1, x2, x3, x4, x5⟩ := x
  dsimp only at hU
  subst hU
  rw [show tkA ⟨true, x1, x2, x3, x4, x5⟩ = .agg [bA true, slA yA x1, iA x2, iA x3, iA x4, iA x5] from rfl] at hy
  rw [show (⟨true, x1, x2, x3, x4, x5⟩ : Tk).cls = x4 from rfl, show vhA ⟨a, b⟩ = .agg [iA a, iA b] from rfl, show agA r.ag = .agg [slA yA r.ag.sec, iA r.ag.rights, iA r.ag.cls, slA iA r.ag.lim, iA r.ag.req, iA r.ag.ses, iA r.ag.rate, iA r.ag.burst] from rfl] at k5
  by_cases he : e = 0
  · subst he
    refine ⟨rgV r o, ⟨14, [], [4, a], []⟩, false, 0, hbR, ⟨Nat.zero_le _, by simp, Nat.zero_le _⟩, ?_, ?_⟩
    · rw [show msA ⟨14, [], [4, a], []⟩ = .agg [iA 14, .sl false [], .sl false [iA 4, iA a], .sl false []] from rfl]
      rcases hs with hs | hs
      all_goals
        (refine callSim_of tok Tryz.func12 rfl (fun args w => Tryz.call12 args w) rfl rfl rfl (fun F hF => ?_))
        (have zc1 := c1; have zc2 := m1; have zc3 := c3; have zc4 := c4; have zc5 := c5; have zc6 := c6; refine WW ?_; clear zc1 zc2 zc3 zc4 zc5 zc6)
        exact fin_ret [] rfl rfl rfl rfl
    · rw [show msA ⟨14, [], [4, a], []⟩ = .agg [iA 14, .sl false [], .sl false [iA 4, iA a], .sl false []] from rfl]
      rcases hs with hs | hs
      all_goals
        (refine callSim_of tok Tryz.func13 rfl (fun args w => Tryz.call13 args w) rfl rfl rfl (fun F hF => ?_))
        (have zc1 := k1; have zc2 := m2; have zc3 := k4; have zc4 := k6; have zc5 := k5; refine WW ?_; clear zc1 zc2 zc3 zc4 zc5)
        exact fin_ret [] rfl rfl rfl rfl
  · refine .bad e ?_ ?_
    · rw [doR_eq]
      rcases hs with hs | hs
      all_goals
        (refine callSim_of tok Tryz.func12 rfl (fun args w => Tryz.call12 args w) rfl rfl rfl (fun F hF => ?_))
        (have zc1 := c1; have zc2 := m1; have zc3 := c3; have zc4 := c4; have zc5 := c5; have zc6 := c6; refine WW ?_; clear zc1 zc2 zc3 zc4 zc5 zc6)
        exact fin_ret [] rfl rfl rfl rfl
    · rw [doR_eq]
      rcases hs with hs | hs
      all_goals
        (refine callSim_of tok Tryz.func13 rfl (fun args w => Tryz.call13 args w) rfl rfl rfl (fun F hF => ?_))
        (have zc1 := k1; have zc2 := m2; have zc3 := k4; have zc4 := k6; have zc5 := k5; refine WW ?_; clear zc1 zc2 zc3 zc4 zc5)
        exact fin_ret [] rfl rfl rfl rfl
end Av
end Go.Proofs.YtjbldhhgooihfaaGreat
