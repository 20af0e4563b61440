/- A junction's signal: the program and the reference's layer 11. -/
import Derived.Test.YtkliodbbcblobaaJuA
import Derived.Test.YtkliodbbcblobaaRjF
namespace Go.Proofs.Ytkliodbbcblobaa
namespace Av
set_option linter.unusedSimpArgs false
set_option linter.unusedVariables false
set_option maxRecDepth 4000
set_option maxHeartbeats 1000000
structure Sg where
  c : Ct
  lat : Bool
def sgA (s : Sg) : AV := .agg [slA liA s.c.li, iA s.c.gr, slA iA s.c.nx, iA s.c.wt, bA s.lat]
def newS (j : Jn) : Sg := ⟨inF j, false⟩
def sjF (j : Jn) (s : Sg) (t k : Int) : Sg := if s.lat = true then s else ⟨stF j s.c t, fbF j.cf (seenF (stF j s.c t).li k)⟩
def srF (j : Jn) (s : Sg) : Sg := if s.lat = true then newS j else s
def laO (lat : Bool) (l : Li) : Int := if lat = true then 4 else l.lamp
def laF (s : Sg) : List Int := s.c.li.map (laO s.lat)
theorem wk_take' {α : Type} (f : α → AV) (l : List α) : AV.sl false ((l.map f).take (l.map f).length) = slA f l := by rw [List.take_length]; rfl
theorem cloneIs_c (l : List Int) (hl : l.length ≤ 1073741824) : CallSim Try.prog 87 [slA iA l] [] (slA iA l) [] := by
  have hll := map_len iA l
  (refine callSim_of tok Try.func87 rfl (fun args w => Try.call87 args w) rfl rfl rfl (fun F hF => ?_))
  refine sim_nsplit 0 rfl (fun cap hx => ?_) ?_
  · have : l = [] := by simpa using hx
    subst this
    (refine WW ?_)
    exact fin_ret [] rfl rfl rfl rfl
  · (refine WW ?_)
    refine fin_ret [] rfl rfl (wk_take' _ _) rfl
theorem cloneLs_c (l : List Li) (hl : l.length ≤ 1073741824) : CallSim Try.prog 86 [slA liA l] [] (slA liA l) [] := by
  have hll := map_len liA l
  (refine callSim_of tok Try.func86 rfl (fun args w => Try.call86 args w) rfl rfl rfl (fun F hF => ?_))
  refine sim_nsplit 0 rfl (fun cap hx => ?_) ?_
  · have : l = [] := by simpa using hx
    subst this
    (refine WW ?_)
    exact fin_ret [] rfl rfl rfl rfl
  · (refine WW ?_)
    refine fin_ret [] rfl rfl (wk_take' _ _) rfl
theorem sclone_c (s : Sg) (h1 : s.c.li.length ≤ 1073741824) (h2 : s.c.nx.length ≤ 1073741824) : CallSim Try.prog 53 [sgA s] [] (sgA s) [] := by
  have c1 := cloneLs_c s.c.li h1
  have c2 := cloneIs_c s.c.nx h2
  (refine callSim_of tok Try.func53 rfl (fun args w => Try.call53 args w) rfl rfl rfl (fun F hF => ?_))
  (have zc1 := c1; have zc2 := c2; refine WW ?_; clear zc1 zc2)
  exact fin_ret [] rfl rfl rfl rfl
theorem rcopyS_c (c : Ct) (h1 : c.li.length ≤ 1000) (h2 : c.nx.length ≤ 1000) : CallSim Try.prog 63 [ctA c] [] (ctA c) [] := by
  have hl := map_len liA c.li
  have hl2 := map_len iA c.nx
  (refine callSim_of tok Try.func63 rfl (fun args w => Try.call63 args w) rfl rfl rfl (fun F hF => ?_))
  (refine WL ?_)
  exact fin_ret [] rfl rfl rfl rfl
theorem scopy_c (s : Sg) (h1 : s.c.li.length ≤ 1000) (h2 : s.c.nx.length ≤ 1000) : CallSim Try.prog 57 [sgA s] [] (sgA s) [] := by
  have c1 := rcopyS_c s.c h1 h2
  (refine callSim_of tok Try.func57 rfl (fun args w => Try.call57 args w) rfl rfl rfl (fun F hF => ?_))
  (have zc1 := c1; refine WW ?_; clear zc1)
  exact fin_ret [] rfl rfl rfl rfl
theorem snew_c (j : Jn) (J : JV j) : CallSim Try.prog 23 [jnA j] [] (sgA (newS j)) [] := by
  have c1 := init_c j (by have := J.n; omega)
  unfold newS
  generalize inF j = c at *
  (refine callSim_of tok Try.func23 rfl (fun args w => Try.call23 args w) rfl rfl rfl (fun F hF => ?_))
  (have zc1 := c1; refine WW ?_; clear zc1)
  exact fin_ret [] rfl rfl rfl rfl
theorem rsnew_c (j : Jn) (J : JV j) : CallSim Try.prog 24 [jnA j] [] (sgA (newS j)) [] := by
  have c1 := rinit_c j (by have := J.n; omega)
  unfold newS
  generalize inF j = c at *
  (refine callSim_of tok Try.func24 rfl (fun args w => Try.call24 args w) rfl rfl rfl (fun F hF => ?_))
  (have zc1 := c1; refine WW ?_; clear zc1)
  exact fin_ret [] rfl rfl rfl rfl
theorem svalid_c (j : Jn) (J : JV j) (s : Sg) : CallSim Try.prog 17 [jnA j, sgA s] [] (bA (vcF j s.c)) [] := by
  have c1 := vring_c j J.b s.c
  generalize vcF j s.c = b at *
  (refine callSim_of tok Try.func17 rfl (fun args w => Try.call17 args w) rfl rfl rfl (fun F hF => ?_))
  (have zc1 := c1; refine WW ?_; clear zc1)
  exact fin_ret [] rfl rfl rfl rfl
theorem rsvalid_c (j : Jn) (J : JV j) (s : Sg) : CallSim Try.prog 18 [jnA j, sgA s] [] (bA (vcF j s.c)) [] := by
  have c1 := rvalid_c j J s.c
  generalize vcF j s.c = b at *
  (refine callSim_of tok Try.func18 rfl (fun args w => Try.call18 args w) rfl rfl rfl (fun F hF => ?_))
  (have zc1 := c1; refine WW ?_; clear zc1)
  exact fin_ret [] rfl rfl rfl rfl
theorem sstep_c (j : Jn) (J : JV j) (s : Sg) (C : CV j s.c) (t k : Int) : CallSim Try.prog 26 [jnA j, sgA s, iA t, iA k] [] (sgA (sjF j s t k)) [] := by
  have hJ := J.n
  have hc := J.c
  have hn := C.n
  have hm := C.m
  have c0 := sclone_c s (by omega) (by omega)
  have c1 := step_c j J s.c C t
  have C1 := cv_st J C t
  have c2 := seen_c (stF j s.c t).li (by have := C1.n; omega) k
  have c3 := forb_c j.cf (seenF (stF j s.c t).li k) (by omega) (by rw [seen_len]; have := C1.n; omega)
  unfold sjF
  generalize fbF j.cf (seenF (stF j s.c t).li k) = f at *
  generalize seenF (stF j s.c t).li k = ls at *
  generalize stF j s.c t = c at *
  obtain ⟨sc, lat⟩ := s
  cases lat with
  | true =>
    rw [if_pos rfl]
    (refine callSim_of tok Try.func26 rfl (fun args w => Try.call26 args w) rfl rfl rfl (fun F hF => ?_))
    (have zc1 := c0; refine WW ?_; clear zc1)
    exact fin_ret [] rfl rfl rfl rfl
  | false =>
    rw [if_neg Bool.false_ne_true]
    (refine callSim_of tok Try.func26 rfl (fun args w => Try.call26 args w) rfl rfl rfl (fun F hF => ?_))
    (have zc1 := c1; have zc2 := c2; have zc3 := c3; refine WW ?_; clear zc1 zc2 zc3)
    exact fin_ret [] rfl rfl rfl rfl
theorem rsstep_c (j : Jn) (J : JV j) (s : Sg) (C : CV j s.c) (t k : Int) : CallSim Try.prog 27 [jnA j, sgA s, iA t, iA k] [] (sgA (sjF j s t k)) [] := by
  have hJ := J.n
  have hc := J.c
  have hn := C.n
  have hm := C.m
  have c0 := scopy_c s (by omega) (by omega)
  have c1 := rstepC_c j J s.c C t
  have C1 := cv_st J C t
  have c2 := rseen_c (stF j s.c t).li (by have := C1.n; omega) k
  have c3 := rforb_c j.cf (seenF (stF j s.c t).li k) (by omega) (by rw [seen_len]; have := C1.n; omega)
  unfold sjF
  generalize fbF j.cf (seenF (stF j s.c t).li k) = f at *
  generalize seenF (stF j s.c t).li k = ls at *
  generalize stF j s.c t = c at *
  obtain ⟨sc, lat⟩ := s
  cases lat with
  | true =>
    rw [if_pos rfl]
    (refine callSim_of tok Try.func27 rfl (fun args w => Try.call27 args w) rfl rfl rfl (fun F hF => ?_))
    (have zc1 := c0; refine WW ?_; clear zc1)
    exact fin_ret [] rfl rfl rfl rfl
  | false =>
    rw [if_neg Bool.false_ne_true]
    (refine callSim_of tok Try.func27 rfl (fun args w => Try.call27 args w) rfl rfl rfl (fun F hF => ?_))
    (have zc1 := c1; have zc2 := c2; have zc3 := c3; refine WW ?_; clear zc1 zc2 zc3)
    exact fin_ret [] rfl rfl rfl rfl
theorem sreset_c (j : Jn) (J : JV j) (s : Sg) (h1 : s.c.li.length ≤ 1073741824) (h2 : s.c.nx.length ≤ 1073741824) : CallSim Try.prog 28 [jnA j, sgA s] [] (.tup [sgA (srF j s), bA s.lat]) [] := by
  have c0 := sclone_c s h1 h2
  have c1 := snew_c j J
  unfold srF
  generalize newS j = z at *
  obtain ⟨sc, lat⟩ := s
  cases lat with
  | true =>
    rw [if_pos rfl]
    (refine callSim_of tok Try.func28 rfl (fun args w => Try.call28 args w) rfl rfl rfl (fun F hF => ?_))
    (have zc1 := c1; refine WW ?_; clear zc1)
    exact fin_ret [] rfl rfl rfl rfl
  | false =>
    rw [if_neg Bool.false_ne_true]
    (refine callSim_of tok Try.func28 rfl (fun args w => Try.call28 args w) rfl rfl rfl (fun F hF => ?_))
    (have zc1 := c0; refine WW ?_; clear zc1)
    exact fin_ret [] rfl rfl rfl rfl
theorem rsreset_c (j : Jn) (J : JV j) (s : Sg) (h1 : s.c.li.length ≤ 1000) (h2 : s.c.nx.length ≤ 1000) : CallSim Try.prog 29 [jnA j, sgA s] [] (.tup [sgA (srF j s), bA s.lat]) [] := by
  have c0 := scopy_c s h1 h2
  have c1 := rsnew_c j J
  unfold srF
  generalize newS j = z at *
  obtain ⟨sc, lat⟩ := s
  cases lat with
  | true =>
    rw [if_pos rfl]
    (refine callSim_of tok Try.func29 rfl (fun args w => Try.call29 args w) rfl rfl rfl (fun F hF => ?_))
    (have zc1 := c1; refine WW ?_; clear zc1)
    exact fin_ret [] rfl rfl rfl rfl
  | false =>
    rw [if_neg Bool.false_ne_true]
    (refine callSim_of tok Try.func29 rfl (fun args w => Try.call29 args w) rfl rfl rfl (fun F hF => ?_))
    (have zc1 := c0; refine WW ?_; clear zc1)
    exact fin_ret [] rfl rfl rfl rfl
theorem ssame_c (s : Sg) (h1 : s.c.li.length ≤ 1000000) (h2 : s.c.nx.length ≤ 1000000) : CallSim Try.prog 22 [sgA s, sgA s] [] (bA true) [] := by
  have c1 := csame_c s.c h1 h2
  obtain ⟨sc, lat⟩ := s
  cases lat with
  | true =>
    (refine callSim_of tok Try.func22 rfl (fun args w => Try.call22 args w) rfl rfl rfl (fun F hF => ?_))
    (have zc1 := c1; refine WW ?_; clear zc1)
    exact fin_ret [] rfl rfl rfl rfl
  | false =>
    (refine callSim_of tok Try.func22 rfl (fun args w => Try.call22 args w) rfl rfl rfl (fun F hF => ?_))
    (have zc1 := c1; refine WW ?_; clear zc1)
    exact fin_ret [] rfl rfl rfl rfl
theorem lamps_c (s : Sg) (hn : s.c.li.length ≤ 1000) : CallSim Try.prog 20 [sgA s] [] (slA iA (laF s)) [] := by
  have hl := map_len liA s.c.li
  obtain ⟨f, hf⟩ : ∃ f : Nat → Int, f = fun p => laO s.lat (s.c.li.getD p default) := ⟨_, rfl⟩
  have e0 : List.replicate s.c.li.length (AV.s (.int .i64 0)) = ((List.range 0).map f ++ List.replicate (s.c.li.length - 0) 0).map iA := by simp [iA]
  have eE : laF s = (List.range s.c.li.length).map f := by
    rw [hf]
    unfold laF
    apply List.ext_getElem?
    intro i
    by_cases h : i < s.c.li.length
    · simp [List.getElem?_range h, List.getD_eq_getElem?_getD, h]
    · rw [List.getElem?_eq_none (by simp; omega), List.getElem?_eq_none (by simp; omega)]
  rw [eE]
  have hfi : ∀ i, f i = laO s.lat (s.c.li.getD i default) := fun i => by rw [hf]
  clear hf eE
  obtain ⟨⟨li, gr, nx, wt⟩, lat⟩ := s
  dsimp only at *
  rw [show sgA ⟨⟨li, gr, nx, wt⟩, lat⟩ = .agg [slA liA li, iA gr, slA iA nx, iA wt, bA lat] from rfl]
  (refine callSim_of tok Try.func20 rfl (fun args w => Try.call20 args w) rfl rfl rfl (fun F hF => ?_))
  (refine WW ?_)
  (refine sim_cnt (li.length) [10, 1] [1] [1, 3, 13, 14] [15, 1, 3, 13, 14] rfl (fun i T U => ⟨(15, iA i) :: T, (10, .arr 1 (((List.range i).map f ++ List.replicate (li.length - i) 0).map iA) false) :: U⟩) ?_; (conv => whnf); refine ⟨by (rw [← e0, ← hl]; rfl), ?_, ?_⟩)
  · intro i hi
    have hy := map_at liA li i hi
    have hfl := fill_len f li.length i (by omega)
    have hfa := fill_at f li.length i hi
    have hs := fill_set f li.length i hi (f i) rfl
    have hsd := hfi i
    generalize ((List.range i).map f ++ List.replicate (li.length - i) 0).map iA = xs at *
    generalize ((List.range (i + 1)).map f ++ List.replicate (li.length - (i + 1)) 0).map iA = ys at *
    generalize f i = v at *
    generalize li.getD i default = t at *
    rw [← hs]
    clear hs e0 hfi
    unfold laO at hsd
    subst hsd
    cases lat with
    | true =>
      rw [if_pos rfl]
      (refine WW ?_)
      rfl
    | false =>
      rw [if_neg Bool.false_ne_true]
      (refine WW ?_)
      rfl
  · have hfl := fill_len f li.length li.length (Nat.le_refl _)
    have e : slA iA ((List.range li.length).map f) = .sl false ((((List.range li.length).map f ++ List.replicate (li.length - li.length) 0).map iA).take (li.map liA).length) := by
      rw [List.take_of_length_le (by omega), Nat.sub_self, List.replicate_zero, List.append_nil]
      rfl
    rw [e]
    clear e e0
    generalize ((List.range li.length).map f ++ List.replicate (li.length - li.length) 0).map iA = xs at *
    (refine WW ?_)
    exact fin_ret [] rfl rfl rfl rfl
theorem rlamps_c (s : Sg) (hn : s.c.li.length ≤ 1000) : CallSim Try.prog 21 [sgA s] [] (slA iA (laF s)) [] := by
  have hl := map_len liA s.c.li
  have hls : ∀ i, i < s.c.li.length → (laF s).take (i + 1) = (laF s).take i ++ [laO s.lat (s.c.li.getD i default)] := fun i hi => by
    unfold laF
    rw [← List.take_append_getElem (by simpa using hi)]
    simp [List.getD, hi]
  have hln : (laF s).length = s.c.li.length := by simp [laF]
  generalize laF s = ys at *
  obtain ⟨⟨li, gr, nx, wt⟩, lat⟩ := s
  dsimp only at *
  rw [show sgA ⟨⟨li, gr, nx, wt⟩, lat⟩ = .agg [slA liA li, iA gr, slA iA nx, iA wt, bA lat] from rfl]
  (refine callSim_of tok Try.func21 rfl (fun args w => Try.call21 args w) rfl rfl rfl (fun F hF => ?_))
  (refine WW ?_)
  refine sim_virt 3 1001 1 rfl rfl rfl ?_
  (refine sim_cnt (li.length) [1001, 1] [1] [1, 8, 9] [3, 10, 1, 8, 9] rfl (fun i T U => ⟨(3, .ref 1001 0 ((ys.take i).map iA).length) :: (10, iA i) :: T, (1001, .arr 1 ((ys.take i).map iA) true) :: U⟩) ?_; (conv => whnf); refine ⟨by rfl, ?_, ?_⟩)
  · intro i hi
    have hy := map_at liA li i hi
    have hll : ((ys.take i).map iA).length = i := by simp; omega
    have e : (ys.take (i + 1)).map iA = (ys.take i).map iA ++ [iA (laO lat (li.getD i default))] := by rw [hls i hi]; simp
    rw [e]
    clear e hls
    generalize (ys.take i).map iA = xs at *
    generalize li.getD i default = t at *
    unfold laO
    cases lat with
    | true =>
      rw [if_pos rfl]
      (refine WW ?_)
      rfl
    | false =>
      rw [if_neg Bool.false_ne_true]
      (refine WW ?_)
      rfl
  · have hll : ((ys.take li.length).map iA).length = li.length := by simp; omega
    have e : slA iA ys = .sl false (((ys.take li.length).map iA).take ((ys.take li.length).map iA).length) := by
      rw [List.take_length, ← hln, List.take_length]; rfl
    rw [e]
    clear e hls
    generalize (ys.take li.length).map iA = xs at *
    (refine WW ?_)
    exact fin_ret [] rfl rfl rfl rfl
end Av
end Go.Proofs.Ytkliodbbcblobaa
