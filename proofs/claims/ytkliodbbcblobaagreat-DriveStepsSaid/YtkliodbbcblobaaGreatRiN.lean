
/- Conflicts, the reference; steps with one target; integers of a slice. -/
import Derived.Test.YtkliodbbcblobaaGreatRiV
import Derived.Test.YtkliodbbcblobaaGreatAvq
namespace Go.Proofs.YtkliodbbcblobaaGreat
namespace Av
set_option linter.unusedSimpArgs false
set_option linter.unusedVariables false
set_option maxRecDepth 4000
set_option maxHeartbeats 1000000
theorem rconf_c (rows : List Int) (hn : rows.length ≤ 40) (p q : Int) : CallSim Tryz.prog 67 [slA iA rows, iA p, iA q] [] (bA (cfP rows p q)) [] := by
  have hl := map_len iA rows
  unfold cfP
  by_cases h1 : 0 ≤ p
  case neg =>
    rw [decide_eq_false (fun h => h1 h.1)]
    (refine callSim_of tok Tryz.func67 rfl (fun args w => Tryz.call67 args w) rfl rfl rfl (fun F hF => ?_))
    (refine WW ?_)
    exact fin_ret [] rfl rfl rfl rfl
  by_cases h3 : p < rows.length
  case neg =>
    rw [decide_eq_false (fun h => h3 h.2.2.1)]
    (refine callSim_of tok Tryz.func67 rfl (fun args w => Tryz.call67 args w) rfl rfl rfl (fun F hF => ?_))
    (refine WW ?_)
    exact fin_ret [] rfl rfl rfl rfl
  by_cases h2 : 0 ≤ q
  case neg =>
    rw [decide_eq_false (fun h => h2 h.2.1)]
    (refine callSim_of tok Tryz.func67 rfl (fun args w => Tryz.call67 args w) rfl rfl rfl (fun F hF => ?_))
    (refine WW ?_)
    exact fin_ret [] rfl rfl rfl rfl
  by_cases h4 : q < rows.length
  case neg =>
    rw [decide_eq_false (fun h => h4 h.2.2.2)]
    (refine callSim_of tok Tryz.func67 rfl (fun args w => Tryz.call67 args w) rfl rfl rfl (fun F hF => ?_))
    (refine WW ?_)
    exact fin_ret [] rfl rfl rfl rfl
  rw [decide_eq_true ⟨h1, h2, h3, h4⟩, Bool.true_and]
  have hy := map_atI iA rows p h1 h3
  generalize rows.getD p.toNat default = x at *
  by_cases h5 : andI (shrI x q) 1 = 1
  · rw [show (andI (shrI x q) 1 == 1) = true by rw [beq_iff_eq]; exact h5]
    (refine callSim_of tok Tryz.func67 rfl (fun args w => Tryz.call67 args w) rfl rfl rfl (fun F hF => ?_))
    (refine WW ?_)
    exact fin_ret [] rfl rfl rfl rfl
  · rw [show (andI (shrI x q) 1 == 1) = false by rw [beq_eq_false_iff_ne]; exact h5]
    (refine callSim_of tok Tryz.func67 rfl (fun args w => Tryz.call67 args w) rfl rfl rfl (fun F hF => ?_))
    (refine WW ?_)
    exact fin_ret [] rfl rfl rfl rfl
/-- k steps with one target. -/
def stI (j : Jn) (c : Ct) (t : Int) : Nat → Ct
  | 0 => c
  | k + 1 => stF j (stI j c t k) t
theorem stI_v {j : Jn} (J : JV j) {c : Ct} (C : CV j c) (t : Int) : ∀ k, CV j (stI j c t k)
  | 0 => C
  | k + 1 => cv_st J (stI_v J C t k) t
theorem cv_set {j : Jn} (J : JV j) {c : Ct} (C : CV j c) : ∀ a b : Nat, a < j.cf.length → b < j.cf.length → (inS (seF c) a && (inS (seF c) b && cfP j.cf a b)) = false := fun a b ha hb => by
  have hn := C.n
  have hJ := J.n
  rw [J.c] at ha hb
  have hin : ∀ p : Nat, p < j.ph.length → inS (seF c) p = stB c p := fun p hp => by
    unfold seF
    exact inS_n _ (by omega) (by omega)
  rw [hin a ha, hin b hb]
  cases hsa : stB c a with
  | false => rfl
  | true =>
    cases hsb : stB c b with
    | false => rfl
    | true =>
      by_cases hab : a = b
      · subst hab; rw [J.ir a ha]; rfl
      · rw [C.x a b ha hb hab (by simpa [stB] using hsa) (by simpa [stB] using hsb)]; rfl
theorem ir_row {w : World} {a : Option Addr} {len cap : Nat} {zs : List Int}
    (h : (a = none ∧ len = 0 ∧ cap = 0 ∧ zs = []) ∨ ∃ x, a = some x ∧ len ≤ cap ∧ cap ≤ maxLen ∧ zs.length = cap ∧ (∀ i, i < zs.length → w.cell? (x.add i) = some (.int .i64 (zs.getD i 0))) ∧ ∀ n ∈ zs, (Lit.int .i64 n).wf = true) : ∀ x ∈ zs.take len, InR .i64 x := by
  rcases h with ⟨rfl, rfl, rfl, rfl⟩ | ⟨x, rfl, _, _, _, _, h5⟩
  · intro y hy; simp at hy
  · intro y hy
    have h6 := h5 y (List.mem_of_mem_take hy)
    unfold Lit.wf at h6
    rw [Bool.and_eq_true, decide_eq_true_eq, decide_eq_true_eq] at h6
    have e1 : IntKind.i64.min = -9223372036854775808 := by decide
    have e2 : IntKind.i64.max = 9223372036854775807 := by decide
    unfold InR
    omega
end Av
end Go.Proofs.YtkliodbbcblobaaGreat
