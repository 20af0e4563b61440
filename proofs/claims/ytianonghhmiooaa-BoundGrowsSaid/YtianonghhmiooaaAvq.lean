/- Abstract values: from a contract to what a law's row asks for. -/
import Derived.Test.YtianonghhmiooaaLibC
import Derived.WalkKit
import Derived.ProofKit
namespace Go.Proofs.Ytianonghhmiooaa
namespace Av
set_option linter.unusedSimpArgs false
set_option linter.unusedVariables false
open Go.RowKit
/-- The list that came in. -/
def LIn (k : IntKind) (w : World) (A : Option Addr) (n c : Nat) (xs : List Int) : Prop :=
  xs.length = n ∧ n ≤ c ∧ c ≤ 9223372036854775807 ∧ (0 < n → ∃ b o, A = some ⟨b, o, none⟩ ∧ b < w.heap.size ∧ ∀ j, j < n → w.cell? ⟨b, o + j, none⟩ = some (.int k (xs.getD j 0)))
theorem LIn.of_row {k : IntKind} {w : World} {a : Option Addr} {len cap : Nat} {zs : List Int}
    (h : (a = none ∧ len = 0 ∧ cap = 0 ∧ zs = []) ∨ ∃ x, a = some x ∧ len ≤ cap ∧ cap ≤ maxLen ∧ zs.length = cap ∧ (∀ i, i < zs.length → w.cell? (x.add i) = some (.int k (zs.getD i 0))) ∧ ∀ n ∈ zs, (Lit.int k n).wf = true) :
    LIn k w a len cap (zs.take len) := by
  rcases h with ⟨rfl, rfl, rfl, rfl⟩ | ⟨x, rfl, h1, h2, h3, h4, _⟩
  · exact ⟨rfl, Nat.le_refl _, by omega, fun h => absurd h (by omega)⟩
  · refine ⟨by simp; omega, h1, by unfold maxLen at h2; omega, fun hn => ?_⟩
    obtain ⟨b, off, spot⟩ := x
    have hc := h4 0 (by omega)
    have hspot : spot = none := by simpa [Addr.add] using World.cell?_spot hc
    subst hspot
    have hc0 : w.cell? ⟨b, off, none⟩ = some (.int k (zs.getD 0 0)) := by simpa [Addr.add] using hc
    refine ⟨b, off, rfl, World.block_lt_of_cell? w _ hc0, fun j hj => ?_⟩
    have hcj := h4 j (by omega)
    have e : (⟨b, off, none⟩ : Addr).add j = ⟨b, off + j, none⟩ := by unfold Addr.add; split <;> simp_all
    rw [e] at hcj
    rw [hcj]
    have hjz : j < zs.length := by omega
    simp [List.getD, hj, hjz]
theorem LIn.repf {k : IntKind} {w : World} {A : Option Addr} {n c : Nat} {xs : List Int} (h : LIn k w A n c xs) {D : Nat → Prop} (hD : ∀ b, ¬ D b) : RepF w D (.sl false (xs.map fun n => .s (.int k n))) (.slice A n c) := by
  obtain ⟨rfl, h2, h3, h4⟩ := h
  cases hx : xs with
  | nil => exact .nil A c
  | cons x r =>
    rw [← hx]
    obtain ⟨b, o, rfl, hb, hc⟩ := h4 (by rw [hx]; simp)
    have := RepF.sl (w := w) (D := D) false (xs.map fun n => AV.s (.int k n)) b o 1 c (fun i _ => .int k (xs.getD i 0)) (by rw [hx]; simp)
      ⟨hb, hD b, Nat.le_refl _, by simp [maxN]; omega, fun i y hy => by
        rw [List.getElem?_map, Option.map_eq_some_iff] at hy
        obtain ⟨z, _, rfl⟩ := hy
        rfl, fun i j hi hj => by
        obtain rfl : j = 0 := by omega
        rw [Nat.mul_one, Nat.add_zero]
        exact hc i (by simpa using hi), fun _ _ _ _ => rfl⟩ (by simpa using h2) (fun i y j v hy hv => by
        rw [List.getElem?_map, Option.map_eq_some_iff] at hy
        obtain ⟨z, hz, rfl⟩ := hy
        cases j with
        | zero =>
          simp [AV.cells] at hv
          subst hv
          have : xs.getD i 0 = z := by simp [List.getD, hz]
          rw [this]
          exact .s _
        | succ j => simp [AV.cells] at hv)
    simpa using this
/-- A law: the call returns true and writes nothing that was there. -/
theorem CallSim.law {P : Program} {f : Nat} {args : List AV} (h : CallSim P f args [] (.s (.bool true)) []) {cargs : Array Value} {w : World} (hl : cargs.size = args.length)
    (hr : ∀ (i : Nat) v, args[i]? = some v → RepF w (Dom (fun _ => False) fun _ => []) v (cargs.getD i undef)) : Calls P f cargs w fun e w' => e = .returned (.bool true) ∧ Below w.heap.size w w' := by
  have H : HOK (fun _ => False) (lookE []) (fun _ => []) w := ⟨fun k e he => by simp [lookE] at he, fun _ _ => rfl, fun k k' b n n' h1 _ => by simp at h1, fun k b n h1 => by simp at h1, fun b hd => by
    rcases hd with hd | ⟨_, _, hd⟩
    · exact hd.elim
    · simp at hd⟩
  refine Calls.mono (h.sim (fun _ => False) w (fun _ => []) cargs hl H fun i v hv => .fz _ _ (hr i v hv)) ?_
  rintro e w' ⟨c, β', rfl, G, hc⟩
  have : c = .bool true := hc.s_inv
  subst this
  exact ⟨rfl, G.os, G.tape, G.output, G.size, fun k hk => G.keep k hk fun _ _ hm => by simp at hm⟩
theorem dom0 : ∀ b, ¬ Dom (fun _ => False) (fun _ => []) b := fun b hd => by
  rcases hd with hd | ⟨_, _, hd⟩
  · exact hd
  · simp at hd
def RepAll (w : World) : List AV → List Value → Prop
  | [], [] => True
  | a :: r, c :: s => RepF w (Dom (fun _ => False) fun _ => []) a c ∧ RepAll w r s
  | _, _ => False
theorem RepAll.len {w : World} : ∀ {l : List AV} {s : List Value}, RepAll w l s → s.length = l.length
  | [], [], _ => rfl
  | _ :: _, _ :: _, h => by simp [RepAll.len h.2]
  | [], _ :: _, h => h.elim
  | _ :: _, [], h => h.elim
theorem RepAll.at {w : World} : ∀ {l : List AV} {s : List Value}, RepAll w l s → ∀ (i : Nat) v, l[i]? = some v → RepF w (Dom (fun _ => False) fun _ => []) v (s.getD i undef)
  | [], [], _, i, v, hv => by simp at hv
  | a :: _, c :: _, h, 0, v, hv => by simp at hv; subst hv; exact h.1
  | _ :: _, _ :: _, h, i + 1, v, hv => by simpa using RepAll.at h.2 i v (by simpa using hv)
  | [], _ :: _, h, _, _, _ => h.elim
  | _ :: _, [], h, _, _, _ => h.elim
theorem CallSim.lawL {P : Program} {f : Nat} {args : List AV} (h : CallSim P f args [] (.s (.bool true)) []) {cs : List Value} {w : World} (hr : RepAll w args cs) : Calls P f cs.toArray w fun e w' => e = .returned (.bool true) ∧ Below w.heap.size w w' :=
  h.law (by simpa using hr.len) fun i v hv => by simpa [Array.getD_eq_getD_getElem?, List.getD] using hr.at i v hv
theorem LIn.le {k : IntKind} {w : World} {A : Option Addr} {n c : Nat} {xs : List Int} (h : LIn k w A n c xs) : xs.length ≤ 9223372036854775807 := by
  obtain ⟨h1, h2, h3, _⟩ := h
  omega
end Av
end Go.Proofs.Ytianonghhmiooaa
