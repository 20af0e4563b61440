
/- A junction's signal: the program and the reference's layer 11. -/
import Derived.Test.YtkliodbbcblobaaGreatJuA
import Derived.Test.YtkliodbbcblobaaGreatRjF
namespace Go.Proofs.YtkliodbbcblobaaGreat
namespace Av
set_option linter.unusedSimpArgs false
set_option linter.unusedVariables false
set_option maxRecDepth 4000
set_option maxHeartbeats 1000000
structure Sg where
  c : Ct
  lat : Bool
def sgA (s : Sg) : AV := .agg [slA liA s.c.li, iA s.c.gr, slA iA s.c.nx, iA s.c.wt, bA s.lat]
def newS (j : Jn) : Sg := ⟨inF j, false⟩
def sjF (j : Jn) (s : Sg) (t k : Int) : Sg := if s.lat = true then s else ⟨stF j s.c t, fbF j.cf (seenF (stF j s.c t).li k)⟩
def srF (j : Jn) (s : Sg) : Sg := if s.lat = true then newS j else s
def laO (lat : Bool) (l : Li) : Int := if lat = true then 4 else l.lamp
def laF (s : Sg) : List Int := s.c.li.map (laO s.lat)
theorem wk_take' {α : Type} (f : α → AV) (l : List α) : AV.sl false ((l.map f).take (l.map f).length) = slA f l := by rw [List.take_length]; rfl
theorem cloneIs_c (l : List Int) (hl : l.length ≤ 1073741824) : CallSim Tryz.prog 36 [slA iA l] [] (slA iA l) [] := by
  have hll := map_len iA l
  (refine callSim_of tok Tryz.func36 rfl (fun args w => Tryz.call36 args w) rfl rfl rfl (fun F hF => ?_))
  refine sim_nsplit 0 rfl (fun cap hx => ?_) ?_
  · have : l = [] := by simpa using hx
    subst this
    (refine WW ?_)
    exact fin_ret [] rfl rfl rfl rfl
  · (refine WW ?_)
    refine fin_ret [] rfl rfl (wk_take' _ _) rfl
theorem cloneLs_c (l : List Li) (hl : l.length ≤ 1073741824) : CallSim Tryz.prog 35 [slA liA l] [] (slA liA l) [] := by
  have hll := map_len liA l
  (refine callSim_of tok Tryz.func35 rfl (fun args w => Tryz.call35 args w) rfl rfl rfl (fun F hF => ?_))
  refine sim_nsplit 0 rfl (fun cap hx => ?_) ?_
  · have : l = [] := by simpa using hx
    subst this
    (refine WW ?_)
    exact fin_ret [] rfl rfl rfl rfl
  · (refine WW ?_)
    refine fin_ret [] rfl rfl (wk_take' _ _) rfl
theorem sclone_c (s : Sg) (h1 : s.c.li.length ≤ 1073741824) (h2 : s.c.nx.length ≤ 1073741824) : CallSim Tryz.prog 40 [sgA s] [] (sgA s) [] := by
  have c1 := cloneLs_c s.c.li h1
  have c2 := cloneIs_c s.c.nx h2
  (refine callSim_of tok Tryz.func40 rfl (fun args w => Tryz.call40 args w) rfl rfl rfl (fun F hF => ?_))
  (have zc1 := c1; have zc2 := c2; refine WW ?_; clear zc1 zc2)
  exact fin_ret [] rfl rfl rfl rfl
theorem rcopyS_c (c : Ct) (h1 : c.li.length ≤ 1000) (h2 : c.nx.length ≤ 1000) : CallSim Tryz.prog 44 [ctA c] [] (ctA c) [] := by
  have hl := map_len liA c.li
  have hl2 := map_len iA c.nx
  (refine callSim_of tok Tryz.func44 rfl (fun args w => Tryz.call44 args w) rfl rfl rfl (fun F hF => ?_))
  (refine WL ?_)
  exact fin_ret [] rfl rfl rfl rfl
theorem scopy_c (s : Sg) (h1 : s.c.li.length ≤ 1000) (h2 : s.c.nx.length ≤ 1000) : CallSim Tryz.prog 27 [sgA s] [] (sgA s) [] := by
  have c1 := rcopyS_c s.c h1 h2
  (refine callSim_of tok Tryz.func27 rfl (fun args w => Tryz.call27 args w) rfl rfl rfl (fun F hF => ?_))
  (have zc1 := c1; refine WW ?_; clear zc1)
  exact fin_ret [] rfl rfl rfl rfl
theorem rsnew_c (j : Jn) (J : JV j) : CallSim Tryz.prog 8 [jnA j] [] (sgA (newS j)) [] := by
  have c1 := rinit_c j (by have := J.n; omega)
  unfold newS
  generalize inF j = c at *
  (refine callSim_of tok Tryz.func8 rfl (fun args w => Tryz.call8 args w) rfl rfl rfl (fun F hF => ?_))
  (have zc1 := c1; refine WW ?_; clear zc1)
  exact fin_ret [] rfl rfl rfl rfl
theorem sstep_c (j : Jn) (J : JV j) (s : Sg) (C : CV j s.c) (t k : Int) : CallSim Tryz.prog 25 [jnA j, sgA s, iA t, iA k] [] (sgA (sjF j s t k)) [] := by
  have hJ := J.n
  have hc := J.c
  have hn := C.n
  have hm := C.m
  have c0 := sclone_c s (by omega) (by omega)
  have c1 := step_c j J s.c C t
  have C1 := cv_st J C t
  have c2 := seen_c (stF j s.c t).li (by have := C1.n; omega) k
  have c3 := forb_c j.cf (seenF (stF j s.c t).li k) (by omega) (by rw [seen_len]; have := C1.n; omega)
  unfold sjF
  generalize fbF j.cf (seenF (stF j s.c t).li k) = f at *
  generalize seenF (stF j s.c t).li k = ls at *
  generalize stF j s.c t = c at *
  obtain ⟨sc, lat⟩ := s
  cases lat with
  | true =>
    rw [if_pos rfl]
    (refine callSim_of tok Tryz.func25 rfl (fun args w => Tryz.call25 args w) rfl rfl rfl (fun F hF => ?_))
    (have zc1 := c0; refine WW ?_; clear zc1)
    exact fin_ret [] rfl rfl rfl rfl
  | false =>
    rw [if_neg Bool.false_ne_true]
    (refine callSim_of tok Tryz.func25 rfl (fun args w => Tryz.call25 args w) rfl rfl rfl (fun F hF => ?_))
    (have zc1 := c1; have zc2 := c2; have zc3 := c3; refine WW ?_; clear zc1 zc2 zc3)
    exact fin_ret [] rfl rfl rfl rfl
theorem rsstep_c (j : Jn) (J : JV j) (s : Sg) (C : CV j s.c) (t k : Int) : CallSim Tryz.prog 30 [jnA j, sgA s, iA t, iA k] [] (sgA (sjF j s t k)) [] := by
  have hJ := J.n
  have hc := J.c
  have hn := C.n
  have hm := C.m
  have c0 := scopy_c s (by omega) (by omega)
  have c1 := rstepC_c j J s.c C t
  have C1 := cv_st J C t
  have c2 := rseen_c (stF j s.c t).li (by have := C1.n; omega) k
  have c3 := rforb_c j.cf (seenF (stF j s.c t).li k) (by omega) (by rw [seen_len]; have := C1.n; omega)
  unfold sjF
  generalize fbF j.cf (seenF (stF j s.c t).li k) = f at *
  generalize seenF (stF j s.c t).li k = ls at *
  generalize stF j s.c t = c at *
  obtain ⟨sc, lat⟩ := s
  cases lat with
  | true =>
    rw [if_pos rfl]
    (refine callSim_of tok Tryz.func30 rfl (fun args w => Tryz.call30 args w) rfl rfl rfl (fun F hF => ?_))
    (have zc1 := c0; refine WW ?_; clear zc1)
    exact fin_ret [] rfl rfl rfl rfl
  | false =>
    rw [if_neg Bool.false_ne_true]
    (refine callSim_of tok Tryz.func30 rfl (fun args w => Tryz.call30 args w) rfl rfl rfl (fun F hF => ?_))
    (have zc1 := c1; have zc2 := c2; have zc3 := c3; refine WW ?_; clear zc1 zc2 zc3)
    exact fin_ret [] rfl rfl rfl rfl
theorem rsreset_c (j : Jn) (J : JV j) (s : Sg) (h1 : s.c.li.length ≤ 1000) (h2 : s.c.nx.length ≤ 1000) : CallSim Tryz.prog 17 [jnA j, sgA s] [] (.tup [sgA (srF j s), bA s.lat]) [] := by
  have c0 := scopy_c s h1 h2
  have c1 := rsnew_c j J
  unfold srF
  generalize newS j = z at *
  obtain ⟨sc, lat⟩ := s
  cases lat with
  | true =>
    rw [if_pos rfl]
    (refine callSim_of tok Tryz.func17 rfl (fun args w => Tryz.call17 args w) rfl rfl rfl (fun F hF => ?_))
    (have zc1 := c1; refine WW ?_; clear zc1)
    exact fin_ret [] rfl rfl rfl rfl
  | false =>
    rw [if_neg Bool.false_ne_true]
    (refine callSim_of tok Tryz.func17 rfl (fun args w => Tryz.call17 args w) rfl rfl rfl (fun F hF => ?_))
    (have zc1 := c0; refine WW ?_; clear zc1)
    exact fin_ret [] rfl rfl rfl rfl
theorem ssame_c (s : Sg) (h1 : s.c.li.length ≤ 1000000) (h2 : s.c.nx.length ≤ 1000000) : CallSim Tryz.prog 15 [sgA s, sgA s] [] (bA true) [] := by
  have c1 := csame_c s.c h1 h2
  obtain ⟨sc, lat⟩ := s
  cases lat with
  | true =>
    (refine callSim_of tok Tryz.func15 rfl (fun args w => Tryz.call15 args w) rfl rfl rfl (fun F hF => ?_))
    (have zc1 := c1; refine WW ?_; clear zc1)
    exact fin_ret [] rfl rfl rfl rfl
  | false =>
    (refine callSim_of tok Tryz.func15 rfl (fun args w => Tryz.call15 args w) rfl rfl rfl (fun F hF => ?_))
    (have zc1 := c1; refine WW ?_; clear zc1)
    exact fin_ret [] rfl rfl rfl rfl
end Av
end Go.Proofs.YtkliodbbcblobaaGreat
