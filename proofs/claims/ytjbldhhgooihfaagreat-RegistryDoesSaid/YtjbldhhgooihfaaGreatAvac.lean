/- Abstract values: labels and scopes. -/
import Derived.Test.YtjbldhhgooihfaaGreatLibD
import Derived.Scope
namespace Go.Proofs.YtjbldhhgooihfaaGreat
namespace Av
set_option linter.unusedSimpArgs false
set_option linter.unusedVariables false
section
variable {b : Frame} {a : Act} {k : List Item} {cs : List Frame} {w : World} {P : Program}
theorem stepR_scope {c : Code} : step P (lone (b.atR a (.code (.scope c) :: k)) cs w) = .next (lone (b.atR a (.code c :: .inScope c :: k)) cs w) :=
  step_lone_go (by simp [stepG, stepG.exec, Frame.atR])
theorem stepR_inScope {c : Code} : step P (lone (b.atR a (.inScope c :: k)) cs w) = .next (lone (b.atR a k) cs w) :=
  step_lone_go (by simp [stepG, stepG.exec, Frame.atR])
end
section
variable {F : Fence} {n : Nat} {P : Program} {Q : Exit → Act → World → Prop} {a : Act} {w : World}
theorem wpIn_scope {c : Code} (h : c.wpIn F n P (Exit.noGoto Q) a w) : (Code.scope c).wpIn F n P Q a w := by
  intro b k cs hro hb hr
  have h0 : (lone (b.atR a (.code (.scope c) :: k)) cs w).fenced P F := fenced_calm hb hr rfl
  obtain ⟨e, a₁, w₁, hq, harr⟩ := h b (.inScope c :: k) cs hro hb hr
  cases e with
  | normal => exact ⟨.normal, a₁, w₁, hq, .head h0 stepR_scope (StepsIn.trans harr (.one (fenced_calm hb hr rfl) stepR_inScope))⟩
  | exit id =>
    have hx : exitTo id (.inScope c :: k) = exitTo id k := by simp [exitTo]
    exact ⟨.exit id, a₁, w₁, hq, fun k' hk => .head h0 stepR_scope (harr.1 k' (by rw [hx]; exact hk)),
      fun hr' hk => let ⟨k₁, h1, h2⟩ := harr.2 hr' (by rw [hx]; exact hk); ⟨k₁, h1, .head h0 stepR_scope h2⟩⟩
  | goto l => exact hq.elim
  | ret => exact ⟨_, a₁, w₁, hq, .of_steps (.one h0 stepR_scope) harr⟩
  | panic ch => exact ⟨_, a₁, w₁, hq, .of_steps (.one h0 stepR_scope) harr⟩
  | outgrown => exact ⟨_, a₁, w₁, hq, .of_steps (.one h0 stepR_scope) harr⟩
end
section
variable {P : Program} {K0 : List Nat} {F : Fr K0} {m : Nat} {Q : Exit → St → Prop} {st : St}
def noG (Q : Exit → St → Prop) : Exit → St → Prop
  | .goto _, _ => False
  | e, s => Q e s
/-- A scope, without a jump in it. -/
theorem sim_scope {c : Code} (h : Sim P F m c st (noG Q)) : Sim P F m (.scope c) st Q := ⟨fun a w H =>
  wpIn_scope (Code.wpIn_mono (fun e a' w' ⟨s, h1, h2⟩ => by
    cases e with
    | goto l => exact h1.elim
    | _ => exact ⟨s, h1, h2⟩) (h.run a w H))⟩
/-- A loop of two rounds, the states at its head given. -/
theorem sim_two {c : Code} (K ts : List Nat) (st0 st1 st2 : St) (hK : K0.all (K.contains ·) = true) (he : restr K ts st = st0)
    (h0 : Sim P F m c st0 (fun e s => match e with | .normal => restr K ts s = st1 | e => Q e s))
    (h1 : Sim P F m c st1 (fun e s => match e with | .normal => restr K ts s = st2 | e => Q e s))
    (h2 : Sim P F m c st2 (fun e s => match e with | .normal => False | e => Q e s)) : Sim P F m (.loop c) st Q := by
  refine sim_loop_r (fun n s => (n = 2 ∧ s = st0) ∨ (n = 1 ∧ s = st1) ∨ (n = 0 ∧ s = st2)) 2 K ts hK (.inl ⟨rfl, he⟩) ?_
  rintro n s (⟨rfl, rfl⟩ | ⟨rfl, rfl⟩ | ⟨rfl, rfl⟩)
  · refine ⟨fun a w H => Code.wpIn_mono (fun e a' w' ⟨s, q1, q2⟩ => ?_) (h0.run a w H)⟩
    cases e with
    | normal => exact ⟨s, ⟨1, by omega, .inr (.inl ⟨rfl, q1⟩)⟩, q2⟩
    | _ => exact ⟨s, q1, q2⟩
  · refine ⟨fun a w H => Code.wpIn_mono (fun e a' w' ⟨s, q1, q2⟩ => ?_) (h1.run a w H)⟩
    cases e with
    | normal => exact ⟨s, ⟨0, by omega, .inr (.inr ⟨rfl, q1⟩)⟩, q2⟩
    | _ => exact ⟨s, q1, q2⟩
  · refine ⟨fun a w H => Code.wpIn_mono (fun e a' w' ⟨s, q1, q2⟩ => ?_) (h2.run a w H)⟩
    cases e with
    | normal => exact q1.elim
    | _ => exact ⟨s, q1, q2⟩
theorem sim_label {l : Nat} (h : Q .normal st) : Sim P F m (.label l) st Q := ⟨fun _ _ H => wpIn_label ⟨st, h, H⟩⟩
end
end Av
end Go.Proofs.YtjbldhhgooihfaaGreat
