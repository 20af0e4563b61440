/- Conflicts, the reference; steps with one target; integers of a slice. -/
import Derived.Test.YtkliodbbcblobaaRiV
import Derived.Test.YtkliodbbcblobaaAvq
namespace Go.Proofs.Ytkliodbbcblobaa
namespace Av
set_option linter.unusedSimpArgs false
set_option linter.unusedVariables false
set_option maxRecDepth 4000
set_option maxHeartbeats 1000000
theorem rin_c (s p : Int) (hs : 0 ≤ s ∧ s < 256) (hp : 0 ≤ p ∧ p < 8) : CallSim Try.prog 60 [iA s, iA p] [] (bA (inS s p)) [] := by
  unfold inS
  by_cases h5 : andI (shrI s p) 1 = 1
  · rw [show (andI (shrI s p) 1 == 1) = true by rw [beq_iff_eq]; exact h5]
    (refine callSim_of tok Try.func60 rfl (fun args w => Try.call60 args w) rfl rfl rfl (fun F hF => ?_))
    (refine WW ?_)
    exact fin_ret [] rfl rfl rfl rfl
  · rw [show (andI (shrI s p) 1 == 1) = false by rw [beq_eq_false_iff_ne]; exact h5]
    (refine callSim_of tok Try.func60 rfl (fun args w => Try.call60 args w) rfl rfl rfl (fun F hF => ?_))
    (refine WW ?_)
    exact fin_ret [] rfl rfl rfl rfl
theorem rconf_c (rows : List Int) (hn : rows.length ≤ 40) (p q : Int) : CallSim Try.prog 61 [slA iA rows, iA p, iA q] [] (bA (cfP rows p q)) [] := by
  have hl := map_len iA rows
  unfold cfP
  by_cases h1 : 0 ≤ p
  case neg =>
    rw [decide_eq_false (fun h => h1 h.1)]
    (refine callSim_of tok Try.func61 rfl (fun args w => Try.call61 args w) rfl rfl rfl (fun F hF => ?_))
    (refine WW ?_)
    exact fin_ret [] rfl rfl rfl rfl
  by_cases h3 : p < rows.length
  case neg =>
    rw [decide_eq_false (fun h => h3 h.2.2.1)]
    (refine callSim_of tok Try.func61 rfl (fun args w => Try.call61 args w) rfl rfl rfl (fun F hF => ?_))
    (refine WW ?_)
    exact fin_ret [] rfl rfl rfl rfl
  by_cases h2 : 0 ≤ q
  case neg =>
    rw [decide_eq_false (fun h => h2 h.2.1)]
    (refine callSim_of tok Try.func61 rfl (fun args w => Try.call61 args w) rfl rfl rfl (fun F hF => ?_))
    (refine WW ?_)
    exact fin_ret [] rfl rfl rfl rfl
  by_cases h4 : q < rows.length
  case neg =>
    rw [decide_eq_false (fun h => h4 h.2.2.2)]
    (refine callSim_of tok Try.func61 rfl (fun args w => Try.call61 args w) rfl rfl rfl (fun F hF => ?_))
    (refine WW ?_)
    exact fin_ret [] rfl rfl rfl rfl
  rw [decide_eq_true ⟨h1, h2, h3, h4⟩, Bool.true_and]
  have hy := map_atI iA rows p h1 h3
  generalize rows.getD p.toNat default = x at *
  by_cases h5 : andI (shrI x q) 1 = 1
  · rw [show (andI (shrI x q) 1 == 1) = true by rw [beq_iff_eq]; exact h5]
    (refine callSim_of tok Try.func61 rfl (fun args w => Try.call61 args w) rfl rfl rfl (fun F hF => ?_))
    (refine WW ?_)
    exact fin_ret [] rfl rfl rfl rfl
  · rw [show (andI (shrI x q) 1 == 1) = false by rw [beq_eq_false_iff_ne]; exact h5]
    (refine callSim_of tok Try.func61 rfl (fun args w => Try.call61 args w) rfl rfl rfl (fun F hF => ?_))
    (refine WW ?_)
    exact fin_ret [] rfl rfl rfl rfl
theorem rclash_c (rows : List Int) (hn : rows.length ≤ 8) (s : Int) (hs : 0 ≤ s ∧ s < 256) (hno : ∀ a b : Nat, a < rows.length → b < rows.length → (inS s a && (inS s b && cfP rows a b)) = false) : CallSim Try.prog 30 [slA iA rows, iA s] [] (.tup [iA (-1), iA (-1)]) [] := by
  have hl := map_len iA rows
  (refine callSim_of tok Try.func30 rfl (fun args w => Try.call30 args w) rfl rfl rfl (fun F hF => ?_))
  (refine WW ?_)
  (refine sim_cnt (rows.length) [] [] [0, 1, 9] [10, 0, 1, 9] rfl (fun i T U => ⟨(10, iA i) :: T, U⟩) ?_; (conv => whnf); refine ⟨by rfl, ?_, ?_⟩)
  · intro u hu
    have ci := rin_c s u hs (by omega)
    (refine WW ?_)
    (refine sim_cnt (rows.length) [] [] [0, 1, 6, 9, 10, 14] [15, 0, 1, 6, 9, 10, 14] rfl (fun i T U => ⟨(15, iA i) :: T, U⟩) ?_; (conv => whnf); refine ⟨by rfl, ?_, ?_⟩)
    · intro v hv
      have cj := rin_c s v hs (by omega)
      have ck := rconf_c rows (by omega) u v
      have h := hno u v hu hv
      cases h3 : inS s u with
      | false =>
        rw [h3] at ci
        (have zc1 := ci; refine WW ?_; clear zc1)
        rfl
      | true =>
      rw [h3] at ci
      rw [h3, Bool.true_and] at h
      cases h2 : inS s v with
      | false =>
        rw [h2] at cj
        (have zc1 := ci; have zc2 := cj; refine WW ?_; clear zc1 zc2)
        rfl
      | true =>
        rw [h2] at cj
        rw [h2, Bool.true_and] at h
        rw [h] at ck
        (have zc1 := ci; have zc2 := cj; have zc3 := ck; refine WW ?_; clear zc1 zc2 zc3)
        rfl
    · clear hno
      (refine WW ?_)
      rfl
  · clear hno
    (refine WW ?_)
    exact fin_ret [] rfl rfl rfl rfl
/-- k steps with one target. -/
def stI (j : Jn) (c : Ct) (t : Int) : Nat → Ct
  | 0 => c
  | k + 1 => stF j (stI j c t k) t
theorem stI_v {j : Jn} (J : JV j) {c : Ct} (C : CV j c) (t : Int) : ∀ k, CV j (stI j c t k)
  | 0 => C
  | k + 1 => cv_st J (stI_v J C t k) t
theorem cv_set {j : Jn} (J : JV j) {c : Ct} (C : CV j c) : ∀ a b : Nat, a < j.cf.length → b < j.cf.length → (inS (seF c) a && (inS (seF c) b && cfP j.cf a b)) = false := fun a b ha hb => by
  have hn := C.n
  have hJ := J.n
  rw [J.c] at ha hb
  have hin : ∀ p : Nat, p < j.ph.length → inS (seF c) p = stB c p := fun p hp => by
    unfold seF
    exact inS_n _ (by omega) (by omega)
  rw [hin a ha, hin b hb]
  cases hsa : stB c a with
  | false => rfl
  | true =>
    cases hsb : stB c b with
    | false => rfl
    | true =>
      by_cases hab : a = b
      · subst hab; rw [J.ir a ha]; rfl
      · rw [C.x a b ha hb hab (by simpa [stB] using hsa) (by simpa [stB] using hsb)]; rfl
theorem ir_row {w : World} {a : Option Addr} {len cap : Nat} {zs : List Int}
    (h : (a = none ∧ len = 0 ∧ cap = 0 ∧ zs = []) ∨ ∃ x, a = some x ∧ len ≤ cap ∧ cap ≤ maxLen ∧ zs.length = cap ∧ (∀ i, i < zs.length → w.cell? (x.add i) = some (.int .i64 (zs.getD i 0))) ∧ ∀ n ∈ zs, (Lit.int .i64 n).wf = true) : ∀ x ∈ zs.take len, InR .i64 x := by
  rcases h with ⟨rfl, rfl, rfl, rfl⟩ | ⟨x, rfl, _, _, _, _, h5⟩
  · intro y hy; simp at hy
  · intro y hy
    have h6 := h5 y (List.mem_of_mem_take hy)
    unfold Lit.wf at h6
    rw [Bool.and_eq_true, decide_eq_true_eq, decide_eq_true_eq] at h6
    have e1 : IntKind.i64.min = -9223372036854775808 := by decide
    have e2 : IntKind.i64.max = 9223372036854775807 := by decide
    unfold InR
    omega
end Av
end Go.Proofs.Ytkliodbbcblobaa
