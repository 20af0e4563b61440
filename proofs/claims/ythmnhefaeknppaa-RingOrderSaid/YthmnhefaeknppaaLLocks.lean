/- The law RingLocks. -/
import Derived.Test.YthmnhefaeknppaaRiL
import Derived.Test.YthmnhefaeknppaaAvq
namespace Go.Proofs.Ythmnhefaeknppaa
namespace Av
set_option linter.unusedSimpArgs false
set_option linter.unusedVariables false
set_option maxRecDepth 4000
set_option maxHeartbeats 1000000
theorem rin_c (s p : Int) (hs : 0 ≤ s ∧ s < 256) (hp : 0 ≤ p ∧ p < 8) : CallSim Try.prog 57 [iA s, iA p] [] (bA (inS s p)) [] := by
  unfold inS
  by_cases h5 : andI (shrI s p) 1 = 1
  · rw [show (andI (shrI s p) 1 == 1) = true by rw [beq_iff_eq]; exact h5]
    (refine callSim_of tok Try.func57 rfl (fun args w => Try.call57 args w) rfl rfl rfl (fun F hF => ?_))
    (refine WW ?_)
    exact fin_ret [] rfl rfl rfl rfl
  · rw [show (andI (shrI s p) 1 == 1) = false by rw [beq_eq_false_iff_ne]; exact h5]
    (refine callSim_of tok Try.func57 rfl (fun args w => Try.call57 args w) rfl rfl rfl (fun F hF => ?_))
    (refine WW ?_)
    exact fin_ret [] rfl rfl rfl rfl
theorem rconf_c (rows : List Int) (hn : rows.length ≤ 40) (p q : Int) : CallSim Try.prog 29 [slA iA rows, iA p, iA q] [] (bA (cfP rows p q)) [] := by
  have hl := map_len iA rows
  unfold cfP
  by_cases h1 : 0 ≤ p
  case neg =>
    rw [decide_eq_false (fun h => h1 h.1)]
    (refine callSim_of tok Try.func29 rfl (fun args w => Try.call29 args w) rfl rfl rfl (fun F hF => ?_))
    (refine WW ?_)
    exact fin_ret [] rfl rfl rfl rfl
  by_cases h3 : p < rows.length
  case neg =>
    rw [decide_eq_false (fun h => h3 h.2.2.1)]
    (refine callSim_of tok Try.func29 rfl (fun args w => Try.call29 args w) rfl rfl rfl (fun F hF => ?_))
    (refine WW ?_)
    exact fin_ret [] rfl rfl rfl rfl
  by_cases h2 : 0 ≤ q
  case neg =>
    rw [decide_eq_false (fun h => h2 h.2.1)]
    (refine callSim_of tok Try.func29 rfl (fun args w => Try.call29 args w) rfl rfl rfl (fun F hF => ?_))
    (refine WW ?_)
    exact fin_ret [] rfl rfl rfl rfl
  by_cases h4 : q < rows.length
  case neg =>
    rw [decide_eq_false (fun h => h4 h.2.2.2)]
    (refine callSim_of tok Try.func29 rfl (fun args w => Try.call29 args w) rfl rfl rfl (fun F hF => ?_))
    (refine WW ?_)
    exact fin_ret [] rfl rfl rfl rfl
  rw [decide_eq_true ⟨h1, h2, h3, h4⟩, Bool.true_and]
  have hy := map_atI iA rows p h1 h3
  generalize rows.getD p.toNat default = x at *
  by_cases h5 : andI (shrI x q) 1 = 1
  · rw [show (andI (shrI x q) 1 == 1) = true by rw [beq_iff_eq]; exact h5]
    (refine callSim_of tok Try.func29 rfl (fun args w => Try.call29 args w) rfl rfl rfl (fun F hF => ?_))
    (refine WW ?_)
    exact fin_ret [] rfl rfl rfl rfl
  · rw [show (andI (shrI x q) 1 == 1) = false by rw [beq_eq_false_iff_ne]; exact h5]
    (refine callSim_of tok Try.func29 rfl (fun args w => Try.call29 args w) rfl rfl rfl (fun F hF => ?_))
    (refine WW ?_)
    exact fin_ret [] rfl rfl rfl rfl
theorem rclash_c (rows : List Int) (hn : rows.length ≤ 8) (s : Int) (hs : 0 ≤ s ∧ s < 256) (hno : ∀ a b : Nat, a < rows.length → b < rows.length → (inS s a && (inS s b && cfP rows a b)) = false) : CallSim Try.prog 27 [slA iA rows, iA s] [] (.tup [iA (-1), iA (-1)]) [] := by
  have hl := map_len iA rows
  (refine callSim_of tok Try.func27 rfl (fun args w => Try.call27 args w) rfl rfl rfl (fun F hF => ?_))
  (refine WW ?_)
  (refine sim_cnt (rows.length) [] [] [0, 1, 9] [10, 0, 1, 9] rfl (fun i T U => ⟨(10, iA i) :: T, U⟩) ?_; (conv => whnf); refine ⟨by rfl, ?_, ?_⟩)
  · intro u hu
    have ci := rin_c s u hs (by omega)
    (refine WW ?_)
    (refine sim_cnt (rows.length) [] [] [0, 1, 6, 9, 10, 14] [15, 0, 1, 6, 9, 10, 14] rfl (fun i T U => ⟨(15, iA i) :: T, U⟩) ?_; (conv => whnf); refine ⟨by rfl, ?_, ?_⟩)
    · intro v hv
      have cj := rin_c s v hs (by omega)
      have ck := rconf_c rows (by omega) u v
      have h := hno u v hu hv
      cases h3 : inS s u with
      | false =>
        rw [h3] at ci
        (have zc1 := ci; refine WW ?_; clear zc1)
        rfl
      | true =>
      rw [h3] at ci
      rw [h3, Bool.true_and] at h
      cases h2 : inS s v with
      | false =>
        rw [h2] at cj
        (have zc1 := ci; have zc2 := cj; refine WW ?_; clear zc1 zc2)
        rfl
      | true =>
        rw [h2] at cj
        rw [h2, Bool.true_and] at h
        rw [h] at ck
        (have zc1 := ci; have zc2 := cj; have zc3 := ck; refine WW ?_; clear zc1 zc2 zc3)
        rfl
    · clear hno
      (refine WW ?_)
      rfl
  · clear hno
    (refine WW ?_)
    exact fin_ret [] rfl rfl rfl rfl
/-- k steps with one target. -/
def stI (j : Jn) (c : Ct) (t : Int) : Nat → Ct
  | 0 => c
  | k + 1 => stF j (stI j c t k) t
theorem stI_v {j : Jn} (J : JV j) {c : Ct} (C : CV j c) (t : Int) : ∀ k, CV j (stI j c t k)
  | 0 => C
  | k + 1 => cv_st J (stI_v J C t k) t
def lkC (j : Jn) (ts : List Int) : Nat → Ct
  | 0 => inF j
  | i + 1 => stI j (lkC j ts i) ((ts.getD i default) % (j.ph.length + 2) - 1) (1 + ((ts.getD i default).tdiv 16 % 3).toNat)
theorem lkC_v {j : Jn} (J : JV j) (ts : List Int) : ∀ i, CV j (lkC j ts i)
  | 0 => cv_in J
  | i + 1 => stI_v J (lkC_v J ts i) _ _
theorem cv_set {j : Jn} (J : JV j) {c : Ct} (C : CV j c) : ∀ a b : Nat, a < j.cf.length → b < j.cf.length → (inS (seF c) a && (inS (seF c) b && cfP j.cf a b)) = false := fun a b ha hb => by
  have hn := C.n
  have hJ := J.n
  rw [J.c] at ha hb
  have hin : ∀ p : Nat, p < j.ph.length → inS (seF c) p = stB c p := fun p hp => by
    unfold seF
    exact inS_n _ (by omega) (by omega)
  rw [hin a ha, hin b hb]
  cases hsa : stB c a with
  | false => rfl
  | true =>
    cases hsb : stB c b with
    | false => rfl
    | true =>
      by_cases hab : a = b
      · subst hab; rw [J.ir a ha]; rfl
      · rw [C.x a b ha hb hab (by simpa [stB] using hsa) (by simpa [stB] using hsb)]; rfl
theorem ir_row {w : World} {a : Option Addr} {len cap : Nat} {zs : List Int}
    (h : (a = none ∧ len = 0 ∧ cap = 0 ∧ zs = []) ∨ ∃ x, a = some x ∧ len ≤ cap ∧ cap ≤ maxLen ∧ zs.length = cap ∧ (∀ i, i < zs.length → w.cell? (x.add i) = some (.int .i64 (zs.getD i 0))) ∧ ∀ n ∈ zs, (Lit.int .i64 n).wf = true) : ∀ x ∈ zs.take len, InR .i64 x := by
  rcases h with ⟨rfl, rfl, rfl, rfl⟩ | ⟨x, rfl, _, _, _, _, h5⟩
  · intro y hy; simp at hy
  · intro y hy
    have h6 := h5 y (List.mem_of_mem_take hy)
    unfold Lit.wf at h6
    rw [Bool.and_eq_true, decide_eq_true_eq, decide_eq_true_eq] at h6
    have e1 : IntKind.i64.min = -9223372036854775808 := by decide
    have e2 : IntKind.i64.max = 9223372036854775807 := by decide
    unfold InR
    omega
theorem locks_c (l : List Int) (hl : l.length ≤ 9223372036854775807) (ts : List Int) (hts : ts.length ≤ 9223372036854775807) (hir : ∀ x ∈ ts, InR .i64 x) : CallSim Try.prog 5 [slA iA l, slA iA ts] [] (bA true) [] := by
  have aw := awake09_c
  have hlt := map_len iA ts
  by_cases h150 : 150 < (ts.length : Int)
  · (refine callSim_of tok Try.func5 rfl (fun args w => Try.call5 args w) rfl rfl rfl (fun F hF => ?_))
    (have zc1 := aw; refine WL ?_; clear zc1)
    exact fin_ret [] rfl rfl rfl rfl
  have hn := new_c l hl
  generalize (⟨l, 0, Nat.zero_le _, hl⟩ : Dk) = d0 at *
  have cj := junction_c d0
  have J := jv_jnF d0
  generalize jnF d0 = j at *
  generalize jnD d0 = d1 at *
  have hjn := J.n
  have hjc := J.c
  have ci := init_c j (by omega)
  have hlp := map_len phA j.ph
  rw [show inF j = lkC j ts 0 from rfl] at ci
  (refine callSim_of tok Try.func5 rfl (fun args w => Try.call5 args w) rfl rfl rfl (fun F hF => ?_))
  (have zc1 := aw; have zc2 := hn; have zc3 := cj; have zc4 := ci; refine WL ?_; clear zc1 zc2 zc3 zc4)
  (refine sim_cnt (ts.length) [6, 5] [5] [5, 6, 23, 24] [25, 5, 6, 23, 24] rfl (fun i T U => ⟨(25, iA i) :: T, (6, .box [slA liA (lkC j ts i).li, iA (lkC j ts i).gr, slA iA (lkC j ts i).nx, iA (lkC j ts i).wt]) :: U⟩) ?_; (conv => whnf); refine ⟨by rfl, ?_, ?_⟩)
  · intro u hu
    have hy := map_at iA ts u hu
    have hri : InR .i64 (ts.getD u default) := hir _ (by simp [List.getD, hu])
    have cm := mod_c (ts.getD u default) (j.ph.length + 2) (by omega) (by omega)
    have C0 := lkC_v J ts u
    have bm := Int.emod_nonneg (ts.getD u default) (show ((j.ph.length : Int) + 2) ≠ 0 by omega)
    have bm2 := Int.emod_lt_of_pos (ts.getD u default) (show 0 < ((j.ph.length : Int) + 2) by omega)
    have cq := mod_c ((ts.getD u default).tdiv 16) 3 (by omega) (by omega)
    have bq : 0 ≤ (ts.getD u default).tdiv 16 % 3 ∧ (ts.getD u default).tdiv 16 % 3 < 3 := by omega
    have hdv : InR .i64 ((ts.getD u default).tdiv 16) := by
      unfold InR at hri ⊢
      have h1 := Int.tmod_add_mul_tdiv (ts.getD u default) 16
      have h2 := Int.tmod_lt_of_pos (ts.getD u default) (show (0 : Int) < 16 by omega)
      have h3 := Int.lt_tmod_of_pos (ts.getD u default) (show (0 : Int) < 16 by omega)
      generalize (ts.getD u default).tdiv 16 = a at *
      generalize (ts.getD u default).tmod 16 = b at *
      omega
    have eL : lkC j ts (u + 1) = stI j (lkC j ts u) ((ts.getD u default) % (j.ph.length + 2) - 1) (1 + ((ts.getD u default).tdiv 16 % 3).toNat) := rfl
    rw [eL]
    clear eL
    have CV1 := fun k => stI_v J C0 ((ts.getD u default) % (j.ph.length + 2) - 1) k
    rw [← hlp] at cm bm2 bm CV1
    rw [← hlp]
    generalize (ts.getD u default) % ((j.ph.map phA).length + 2) = t at *
    generalize (ts.getD u default).tdiv 16 % 3 = q at *
    generalize lkC j ts u = c0 at *
    generalize ts.getD u default = t0 at *
    obtain ⟨N, hN⟩ : ∃ N : Nat, 1 + q.toNat = N := ⟨_, rfl⟩
    have hN2 : 1 + q = (N : Int) := by omega
    rw [hN]
    clear aw hn cj ci hir
    (have zc1 := cq; refine WL ?_; clear zc1)
    (refine sim_cnt (N) [6, 5] [5] [5, 6, 8, 23, 24, 25, 32] [33, 5, 6, 8, 23, 24, 25, 32] rfl (fun i T U => ⟨(33, iA i) :: T, (6, .box [slA liA (stI j c0 (t - 1) i).li, iA (stI j c0 (t - 1) i).gr, slA iA (stI j c0 (t - 1) i).nx, iA (stI j c0 (t - 1) i).wt]) :: U⟩) ?_; (conv => whnf); refine ⟨by rfl, ?_, ?_⟩)
    · intro k hk
      have C1 := CV1 k
      have C2 := CV1 (k + 1)
      have cs := step_c j J (stI j c0 (t - 1) k) C1 (t - 1)
      rw [show stF j (stI j c0 (t - 1) k) (t - 1) = stI j c0 (t - 1) (k + 1) from rfl] at cs
      generalize stI j c0 (t - 1) (k + 1) = c2 at *
      generalize stI j c0 (t - 1) k = c1 at *
      have cv := vring_c j J.b c2
      rw [vcF_CV J C2] at cv
      have hc2 := C2.n
      have hl2 := map_len liA c2.li
      have cse := set_c c2 (by omega)
      have hsb := bsF_bd (stB c2) c2.li.length (by omega)
      have hp8 := p2_8 (n := c2.li.length) (by omega)
      change 0 ≤ seF c2 ∧ seF c2 < p2 c2.li.length at hsb
      have ccl := rclash_c j.cf (by omega) (seF c2) (by omega) (cv_set J C2)
      clear CV1 cq
      (have zc1 := cm; have zc2 := cs; have zc3 := cv; refine WL ?_; clear zc1 zc2 zc3)
      (refine sim_cnt (c2.li.length) [5, 6] [5, 6] [5, 6, 8, 23, 24, 25, 32, 33, 59, 60] [9, 61, 5, 6, 8, 23, 24, 25, 32, 33, 59, 60] rfl (fun i T U => ⟨(9, iA (bsF (stB c2) i)) :: (61, iA i) :: T, U⟩) ?_; (conv => whnf); refine ⟨by rfl, ?_, ?_⟩)
      · intro i hi
        have hyl := map_at liA c2.li i hi
        change (c2.li.map liA)[i]? = some (liA (liO c2 i)) at hyl
        have ho := bsF_or (stB c2) i (by omega)
        have e : bsF (stB c2) (i + 1) = if stB c2 i = true then bsF (stB c2) i + p2 i else bsF (stB c2) i := rfl
        rw [← ho] at e
        have hsb : stB c2 i = ((liO c2 i).lamp != 0) := rfl
        rw [e, hsb]
        clear cs cv cse ccl cm
        generalize bsF (stB c2) i = b at *
        generalize liO c2 i = a at *
        by_cases h : a.lamp = 0
        · rw [if_neg (by simp [h])]
          (refine WL ?_)
          rfl
        · rw [if_pos (by simp [h])]
          (refine WL ?_)
          rfl
      · rw [show bsF (stB c2) c2.li.length = seF c2 from rfl]
        generalize seF c2 = se at *
        (have zc1 := ccl; have zc2 := cse; refine WL ?_; clear zc1 zc2)
        rfl
    · clear CV1
      (refine WL ?_)
      rfl
  · (have zc1 := aw; refine WL ?_; clear zc1)
    exact fin_ret [] rfl rfl rfl rfl
end Av
end Go.Proofs.Ythmnhefaeknppaa
