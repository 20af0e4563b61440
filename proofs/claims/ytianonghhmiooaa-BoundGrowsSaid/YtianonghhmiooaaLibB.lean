/- Library: abstract values. -/
import Derived.Test.YtianonghhmiooaaLibA
import Derived.Tactics
import Derived.Deep.LoopGhost
import Derived.TacticsIn
import Derived.OrdersIn
import Derived.RangeFuncCalls
import Derived.RangeFuncRecord
import Derived.LoopIn
import Derived.RangeFuncLeaves
import Derived.Orders
/- Abstract values: code over abstract states. -/
namespace Go.Proofs.Ytianonghhmiooaa
namespace Av
set_option linter.unusedSimpArgs false
set_option linter.unusedVariables false

/-- The blocks that are owned. -/
def Own (β : Map) (b : Nat) : Prop := ∃ k n, (b, n) ∈ β k
/-- The slot that says how many rounds have been asked for. -/
abbrev GS : Nat := 1000000
/-- The fence of a walk: any function; in a round of a loop, or in none. -/
def fen (ro : Option Nat) : Fence := { Fence.wide with round := ro }
/-- Of a running call: blocks that others keep, the world when it began, the blocks that were handed to it; the round that it runs in; what others ask of the world (J) where it is an iterator (it). -/
structure Fr (K0 : List Nat) where
  X : Nat → Prop
  w0 : World
  β0 : Map
  h0 : Heap
  hK : ∀ k b n, (b, n) ∈ β0 k → k ∈ K0
  hh : ∀ k e, h0 k = some e → k ∈ K0
  ro : Option Nat
  it : Bool
  V : Nat → Prop
  J : Nat → (Nat → Prop) → (Nat → Prop) → World → Prop
  Jst : ∀ i O X w w' O', J i O X w → w.heap.size ≤ w'.heap.size → (∀ b, b < w.heap.size → ¬ O b → w'.heap[b]? = w.heap[b]?) → (∀ b, O' b → O b ∨ w.heap.size ≤ b) → (∀ b, O' b → b < w'.heap.size) → w'.os = w.os → w'.tape = w.tape → w'.output = w.output → J i O' X w'
/-- What was handed over is still of its kind. -/
def Kind (h : Heap) (k : Nat) : Ent → Prop
  | .box _ => ∃ cs, h k = some (.box cs)
  | .arr sz xs _ => ∃ xs' st, h k = some (.arr sz xs' st) ∧ xs.length ≤ xs'.length
  | .dead => False
variable {K0 : List Nat}
structure Keep (F : Fr K0) (h : Heap) (β : Map) (w : World) : Prop where
  knd : ∀ k e, F.h0 k = some e → Kind h k e
  size : F.w0.heap.size ≤ w.heap.size
  keep : ∀ b, b < F.w0.heap.size → ¬ F.V b → (∀ k n, (b, n) ∉ F.β0 k) → w.heap[b]? = F.w0.heap[b]?
  own : ∀ k b n, (b, n) ∈ β k → (∃ k' n', (b, n') ∈ F.β0 k') ∨ F.w0.heap.size ≤ b
  pas : ∀ k b n, (b, n) ∈ F.β0 k → ∃ n', n ≤ n' ∧ (b, n') ∈ β k
  bs : ∀ k b n, (b, n) ∈ F.β0 k → bsize w b = bsize F.w0 b
  os : w.os = F.w0.os
  tape : w.tape = F.w0.tape
  output : w.output = F.w0.output
def noDead : List (Nat × Ent) → Bool
  | [] => true
  | (_, .dead) :: _ => false
  | _ :: r => noDead r
theorem noDead_at : ∀ {d : List (Nat × Ent)} {k : Nat}, noDead d = true → lookE d k ≠ some .dead
  | [], k, _ => by simp [lookE]
  | (j, e) :: r, k, h => by
    unfold lookE
    cases e with
    | dead => simp [noDead] at h
    | box cs => cases Nat.beq k j <;> simp; exact noDead_at (by simpa [noDead] using h)
    | arr a b c => cases Nat.beq k j <;> simp; exact noDead_at (by simpa [noDead] using h)
/-- Keys whose blocks live on. -/
def Lives (β β' : Map) : Prop := ∀ k b n, (b, n) ∈ β k → ∃ n', n ≤ n' ∧ (b, n') ∈ β' k
theorem Goes.lives {X : Nat → Prop} {w w' : World} {h h' : Heap} {β β' : Map} (H : HOK X h β w) (G : Goes X w h β w' h' β') (hd : ∀ k, h' k ≠ some .dead) : Lives β β' := by
  intro k b n hm
  cases he : h k with
  | none => rw [H.off k he] at hm; simp at hm
  | some e =>
    rcases G.key k e he with h1 | h1
    · exact absurd h1 (hd k)
    · cases e with
      | dead => exact h1.elim
      | box cs => exact ⟨n, Nat.le_refl _, h1.2 b n hm⟩
      | arr sz xs st => exact h1.2 b n hm
theorem Keep.goes {F : Fr K0} {X : Nat → Prop} {β β' : Map} {w w' : World} {h h' : Heap} (K : Keep F h β w) (G : Goes X w h β w' h' β') (nd : ∀ k, h' k ≠ some .dead) (hl : Lives β β') : Keep F h' β' w' where
  knd k e he := by
    have h1 := K.knd k e he
    cases e with
    | dead => exact h1
    | box cs =>
      obtain ⟨cs', h2⟩ := h1
      exact ((G.key k _ h2).resolve_left (nd k)).1
    | arr sz xs st =>
      obtain ⟨xs', st', h2, h3⟩ := h1
      obtain ⟨xs'', st'', h4, h5⟩ := ((G.key k _ h2).resolve_left (nd k)).1
      exact ⟨xs'', st'', h4, Nat.le_trans h3 h5⟩
  size := Nat.le_trans K.size G.size
  keep b hb hi hn := by
    rw [G.keep b (Nat.lt_of_lt_of_le hb K.size), K.keep b hb hi hn]
    intro k n hm
    rcases K.own k b n hm with ⟨k', n', h1⟩ | h1
    · exact hn _ _ h1
    · omega
  own k b n hm := by
    rcases G.own k b n hm with ⟨k', n', h1⟩ | h1
    · exact K.own k' b n' h1
    · exact .inr (Nat.le_trans K.size h1)
  pas k b n hm := by
    obtain ⟨n', h1, h2⟩ := K.pas k b n hm
    obtain ⟨n'', h3, h4⟩ := hl k b n' h2
    exact ⟨n'', Nat.le_trans h1 h3, h4⟩
  bs k b n hm := by
    obtain ⟨n', _, h2⟩ := K.pas k b n hm
    rw [G.bs k b n' h2, K.bs k b n hm]
  os := G.os.trans K.os
  tape := G.tape.trans K.tape
  output := G.output.trans K.output

/-- The marks of loops over functions that have been: each names a block in which no call waits. -/
def DOK (X : Nat → Prop) (F : Fr K0) (ds : List Deferred) (w : World) : Prop :=
  ∃ bs : List Nat, ds = bs.map (fun b => { target := .collected b, args := #[] }) ∧ (F.it = true → bs = []) ∧ bs.Nodup ∧ ∀ b, b ∈ bs → X b ∧ F.w0.heap.size ≤ b ∧ w.heap[b]? = some (.deferred (some []))
theorem DOK.goes {X : Nat → Prop} {F : Fr K0} {ds : List Deferred} {w w' : World} {h h' : Heap} {β β' : Map} (H : HOK X h β w) (D : DOK X F ds w) (G : Goes X w h β w' h' β') : DOK X F ds w' := by
  obtain ⟨bs, h1, h0, h2, h3⟩ := D
  refine ⟨bs, h1, h0, h2, fun b hb => ?_⟩
  obtain ⟨q1, q2, q3⟩ := h3 b hb
  exact ⟨q1, q2, by rw [G.keep b (H.lt b (.inl q1)) fun k n hm => H.free k b n hm q1]; exact q3⟩
theorem Fr.go {F : Fr K0} {X : Nat → Prop} {w w' : World} {h h' : Heap} {β β' : Map} {i : Nat} (G : Goes X w h β w' h' β') (hj : F.J i (Own β) X w) : F.J i (Own β') X w' :=
  F.Jst i _ X w w' _ hj G.size (fun b hb hn => G.keep b hb fun k n hm => hn ⟨k, n, hm⟩) (fun b ⟨k, n, hm⟩ => (G.own k b n hm).imp (fun ⟨k', n', h⟩ => ⟨k', n', h⟩) id) (fun b ⟨k, n, hm⟩ => G.hok.lt b (.inr ⟨k, n, hm⟩)) G.os G.tape G.output
/-- The blocks that others keep: those of the beginning, and new ones. -/
def XOK (F : Fr K0) (X : Nat → Prop) : Prop := (∀ b, F.X b → X b) ∧ ∀ b, X b → F.X b ∨ F.w0.heap.size ≤ b
structure Rel (F : Fr K0) (m : Nat) (tm : Nat → AV) (h : Heap) (a : Act) (w : World) : Prop where
  ex : ∃ X β, XOK F X ∧ HOK X h β w ∧ (∀ t, RepV w (Dom X β) h β (tm t) (a.eval (.tmp t))) ∧ Keep F h β w ∧ (∀ i, tm GS = .gh i → F.J i (Own β) X w) ∧ DOK X F a.defers w
  nd : ∀ k, h k ≠ some .dead
  gs : m ≤ GS
  len : a.tmps.size = m
def RelS (F : Fr K0) (m : Nat) (st : St) : Act → World → Prop := Rel F m (look st.tm) (lookE st.h)

theorem look_cons (t : Nat) (v : AV) (tm : List (Nat × AV)) (j : Nat) : look ((t, v) :: tm) j = if j = t then v else look tm j := by
  conv => lhs; unfold look
  by_cases h : j = t
  · subst h; simp
  · rw [if_neg h, beq_other h]; rfl
theorem lookE_cons (t : Nat) (v : Ent) (tm : List (Nat × Ent)) (j : Nat) : lookE ((t, v) :: tm) j = if j = t then some v else lookE tm j := by
  conv => lhs; unfold lookE
  by_cases h : j = t
  · subst h; simp
  · rw [if_neg h, beq_other h]; rfl
theorem lookE_append : ∀ (d h : List (Nat × Ent)), lookE (d ++ h) = over d (lookE h)
  | [], _ => rfl
  | (k, e) :: r, h => by
    funext j
    have ih := congrFun (lookE_append r h) j
    simp only [List.cons_append, over, lookE_cons] at *
    split
    · rfl
    · exact ih

/-- One operation. -/
theorem OpDone.wp {P : Program} {ro : Option Nat} {o : Oper} {a : Act} {w : World} {K : Act → World → Prop} {Q : Exit → Act → World → Prop} {N : Value → World → Prop} (hd : OpDone P N ((execOp a.eval o).run P w)) (h : ∀ c w', N c w' → K (a.put o.dst c) w') : o.wpIn (fen ro) 0 P a w K Q := by
  have hs : (o.semAt (fen ro).round a.eval).run P w = (execOp a.eval o).run P w := by
    show (o.semAt ro a.eval).run P w = _
    cases ro with
    | none => rfl
    | some l =>
      by_cases hdf : ∃ c, o.op = .defer c
      · exfalso
        obtain ⟨c, hc⟩ := hdf
        revert hd
        unfold execOp
        rw [hc]
        simp only [Sem.run_bind]
        cases (resolve a.eval c o.type).run P w <;> simp [Result.andThen, OpDone]
      · rw [Oper.semAt_some l _ _ fun c hc => hdf ⟨c, hc⟩]
  refine ⟨fun _ _ => trivial, ?_⟩
  rw [hs]
  generalize (execOp a.eval o).run P w = r at hd
  cases r with
  | halt x w' => exact hd.elim
  | ok n w' =>
    cases n with
    | value c => exact h _ _ hd
    | skip => exact h _ _ hd
    | enter f args =>
      refine ⟨fun hx => by simp [fen, Fence.wide] at hx, ?_⟩
      exact callsIn_wide.2 (Calls.mono hd fun e w'' ⟨c, he, hn⟩ => by subst he; exact h _ _ hn)
    | _ => exact hd.elim
theorem Rel.put {F : Fr K0} {X : Nat → Prop} {m : Nat} {tm : Nat → AV} {h h' : Heap} {a : Act} {w w' : World} {β β' : Map} (hX : XOK F X) (H : HOK X h β w) (hv : ∀ t, RepV w (Dom X β) h β (tm t) (a.eval (.tmp t))) (K : Keep F h β w) (hJ : ∀ i, tm GS = .gh i → F.J i (Own β) X w) (hd : DOK X F a.defers w) (gs : m ≤ GS) (hl : a.tmps.size = m)
    (G : Goes X w h β w' h' β') (nd : ∀ k, h' k ≠ some .dead) {v : AV} {c : Value} (hc : RepV w' (Dom X β') h' β' v c) (dst : Option Nat) (hm : ∀ d, dst = some d → d < m) :
    Rel F m (fun t => if dst = some t then v else tm t) h' (a.put dst c) w' := by
  refine ⟨⟨X, β', hX, G.hok, fun t => ?_, K.goes G nd (G.lives H nd), fun i hi => ?_, by have := hd.goes H G; cases dst <;> exact this⟩, nd, gs, by cases dst <;> simp [Act.put, hl]⟩
  · split
    · rename_i ht
      subst ht
      have : t < a.tmps.size := by rw [hl]; exact hm t rfl
      have e : (a.put (some t) c).eval (.tmp t) = c := by simp [Act.put, Act.eval, this]
      rw [e]; exact hc
    · rename_i ht
      rw [Act.eval_put (fun d hd e => ht (by rw [hd]; injection e with e; rw [e]))]
      exact (hv t).evo G.evo
  · rw [if_neg (fun e => by have := hm GS e; omega)] at hi
    exact F.go G (hJ i hi)
theorem Stp.rel {P : Program} {st : St} {o : Oper} {v : AV} {d : List (Nat × Ent)} {r nw : List Nat} (hs : Stp P st o.op v d r nw) {F : Fr K0} {m : Nat} {tm : Nat → AV} {h : Heap} {a : Act} {w : World} (H : Rel F m tm h a w)
    (h1 : ∀ t, t ∈ tmpsOf o.op → tm t = look st.tm t) (h2 : ∀ k, k ∈ r → h k = lookE st.h k) (h3 : ∀ k, k ∈ nw → h k = none) (hd : noDead d = true) (hm : ∀ t, o.dst = some t → t < m) {K : Act → World → Prop} {Q : Exit → Act → World → Prop}
    (hK : ∀ a' w', Rel F m (fun t => if o.dst = some t then v else tm t) (over d h) a' w' → K a' w') : o.wpIn (fen F.ro) 0 P a w K Q := by
  obtain ⟨⟨X, β, hX, HH, Ht, KK, hJ, hD⟩, nd, gs, hl⟩ := H
  refine OpDone.wp (hs.run X tm h h1 h2 h3 o a w β rfl HH Ht) ?_
  rintro c w' ⟨β', G, hc⟩
  have nd' : ∀ k, over d h k ≠ some .dead := fun k => by
    unfold over
    split
    · rename_i e he
      intro h4
      cases h4
      exact noDead_at hd he
    · exact nd k
  exact hK _ _ (Rel.put hX HH Ht KK hJ hD gs hl G nd' hc o.dst hm)
/-- A loop whose measure no one can read off the world. -/
theorem wpIn_loop_ghost {F : Fence} {n : Nat} {P : Program} {Q : Exit → Act → World → Prop} {a : Act} {w : World} {c : Code} (I : Nat → Act → World → Prop) (n₀ : Nat) (h₀ : I n₀ a w)
    (round : ∀ k a w, I k a w → c.wpIn F n P (Exit.then (fun a' w' => ∃ k', k' < k ∧ I k' a' w') Q) a w) : (Code.loop c).wpIn F n P Q a w := by
  refine wpIn_loop (fun a w => ∃ k, I k a w) (fun a w => leastOf (fun k => I k a w)) ⟨n₀, h₀⟩ ?_
  intro a w hI
  refine wpIn_mono (round _ a w (leastOf_spec hI).1) ?_
  intro e a' w' hq
  cases e with
  | normal =>
    obtain ⟨n', hlt, hI'⟩ := hq
    exact show (∃ n, I n a' w') ∧ leastOf (fun n => I n a' w') < leastOf (fun n => I n a w) from ⟨⟨n', hI'⟩, Nat.lt_of_le_of_lt ((leastOf_spec ⟨n', hI'⟩).2 n' hI') hlt⟩
  | _ => exact hq

/-- Code, in an abstract state. -/
structure Sim (P : Program) (F : Fr K0) (m : Nat) (c : Code) (st : St) (Q : Exit → St → Prop) : Prop where
  run : ∀ a w, RelS F m st a w → c.wpIn (fen F.ro) 0 P (fun e a' w' => ∃ st', Q e st' ∧ RelS F m st' a' w') a w
/-- Operations, one after the other. -/
def Ops (P : Program) (F : Fr K0) (m : Nat) (ops : Array Oper) (l : List Oper) (st : St) (Q : St → Prop) : Prop :=
  ∀ a w, RelS F m st a w → wpListIn (fen F.ro) 0 P ops (fun e a' w' => e = .normal ∧ ∃ st', Q st' ∧ RelS F m st' a' w') l a w

section
variable {P : Program} {F : Fr K0} {m : Nat} {Q : Exit → St → Prop} {st : St}
theorem Sim.mono {c : Code} {Q' : Exit → St → Prop} (h : Sim P F m c st Q) (hq : ∀ e s, Q e s → Q' e s) : Sim P F m c st Q' :=
  ⟨fun a w H => Code.wpIn_mono (fun _ _ _ ⟨s, h1, h2⟩ => ⟨s, hq _ _ h1, h2⟩) (h.run a w H)⟩
theorem sim_skip (h : Q .normal st) : Sim P F m .skip st Q := ⟨fun _ _ H => wpIn_skip ⟨st, h, H⟩⟩
theorem sim_ret (h : Q .ret st) : Sim P F m .ret st Q := ⟨fun _ _ H => wpIn_ret ⟨st, h, H⟩⟩
theorem sim_exit {id : Nat} (h : Q (.exit id) st) : Sim P F m (.exit id) st Q := ⟨fun _ _ H => wpIn_exit ⟨st, h, H⟩⟩
def thenS (P : Program) (F : Fr K0) (m : Nat) (y : Code) (Q : Exit → St → Prop) : Exit → St → Prop
  | .normal, s => Sim P F m y s Q
  | e, s => Q e s
theorem sim_seq {x y : Code} (h : Sim P F m x st (thenS P F m y Q)) : Sim P F m (.seq x y) st Q := ⟨fun a w H =>
  wpIn_seq (Code.wpIn_mono (fun e a' w' ⟨s, h1, h2⟩ => by
    cases e with
    | normal => exact Sim.run h1 a' w' h2
    | _ => exact ⟨s, h1, h2⟩) (h.run a w H))⟩
theorem sim_cond {c : Operand} {x y : Code} {t : Bool} (hc : opv (look st.tm) c = .s (.bool t)) (h1 : t = true → Sim P F m x st Q) (h2 : t = false → Sim P F m y st Q) : Sim P F m (.cond c x y) st Q := ⟨fun a w H => by
  have hv : a.eval c = .bool t := by
    obtain ⟨⟨_, β, _, _, Ht, _⟩, _⟩ := H
    have := opv_rep Ht c
    rw [hc] at this
    exact this.s_inv
  exact wpIn_cond_split hv (fun h => (h1 h).run a w H) (fun h => (h2 h).run a w H)⟩
theorem sim_cond_true {c : Operand} {x y : Code} (hc : opv (look st.tm) c = .s (.bool true)) (h : Sim P F m x st Q) : Sim P F m (.cond c x y) st Q := sim_cond hc (fun _ => h) (fun h => by cases h)
theorem sim_cond_false {c : Operand} {x y : Code} (hc : opv (look st.tm) c = .s (.bool false)) (h : Sim P F m y st Q) : Sim P F m (.cond c x y) st Q := sim_cond hc (fun h => by cases h) (fun _ => h)
def inB (id : Nat) (Q : Exit → St → Prop) : Exit → St → Prop
  | .exit id', s => bif Nat.beq id' id then Q .normal s else Q (.exit id') s
  | e, s => Q e s
theorem sim_block {id : Nat} {c : Code} (h : Sim P F m c st (inB id Q)) : Sim P F m (.block id c) st Q := ⟨fun a w H =>
  wpIn_block (Code.wpIn_mono (fun e a' w' ⟨s, h1, h2⟩ => by
    cases e with
    | exit id' =>
      simp only [Exit.inBlock]
      split
      · rename_i he; subst he; simp only [inB, beq_self', cond_true] at h1; exact ⟨s, h1, h2⟩
      · rename_i he; simp only [inB, beq_other he, cond_false] at h1; exact ⟨s, h1, h2⟩
    | _ => exact ⟨s, h1, h2⟩) (h.run a w H))⟩
/-- A loop: I n holds at the head of a round, n falls. -/
theorem sim_loop {c : Code} (I : Nat → St → Prop) (n : Nat) (h0 : I n st) (round : ∀ n st, I n st → Sim P F m c st (fun e s => match e with
    | .normal => ∃ n', n' < n ∧ I n' s
    | e => Q e s)) : Sim P F m (.loop c) st Q := ⟨fun a w H => by
  refine wpIn_loop_ghost (fun n a w => ∃ st, I n st ∧ RelS F m st a w) n ⟨st, h0, H⟩ fun n a w ⟨st, hI, hR⟩ => ?_
  refine Code.wpIn_mono (fun e a' w' ⟨s, h1, h2⟩ => ?_) ((round n st hI).run a w hR)
  cases e with
  | normal =>
    obtain ⟨n', hlt, hI'⟩ := h1
    exact ⟨n', hlt, s, hI', h2⟩
  | _ => exact ⟨s, h1, h2⟩⟩

theorem sim_region {id : Nat} {l : List Oper} (h : Ops P F m l.toArray l st (Q .normal)) : Sim P F m (.region id l.toArray false) st Q := ⟨fun a w H =>
  Code.wpIn_mono (fun e a' w' ⟨he, s, h1, h2⟩ => by subst he; exact ⟨s, h1, h2⟩) (wpIn_region_lit (h a w H))⟩
end
end Av
end Go.Proofs.Ytianonghhmiooaa
/- Abstract values: what is kept and what is let go; calls by their contracts. -/
namespace Go.Proofs.Ytianonghhmiooaa
namespace Av
set_option linter.unusedSimpArgs false
set_option linter.unusedVariables false

mutual
/-- The keys that a value names. -/
def AV.refs : AV → List Nat
  | .ref k _ _ | .ptr k _ _ => [k]
  | .agg cs | .fn _ cs | .tup cs => refsL cs
  | _ => []
def refsL : List AV → List Nat
  | [] => []
  | v :: r => v.refs ++ refsL r
end
mutual
/-- No frozen slice is in it. -/
def AV.nosl : AV → Bool
  | .sl _ _ | .fp _ _ _ => false
  | .agg cs | .fn _ cs | .tup cs => noslL cs
  | _ => true
def noslL : List AV → Bool
  | [] => true
  | v :: r => v.nosl && noslL r
end
mutual
/-- The keys K are kept; arrays under other keys are frozen, but not those whose cells hold keys. -/
def frz0 (K : List Nat) (h : Heap) : AV → AV
  | .ref k off len => bif K.contains k then .ref k off len else match h k with
    | some (.arr _ xs fl) => bif fl.nest then .bot else .sl false ((xs.drop off).take len)
    | _ => .bot
  | .ptr k i off => bif K.contains k then .ptr k i off else .bot
  | .agg cs => .agg (frz0L K h cs)
  | .fn f cs => .fn f (frz0L K h cs)
  | .tup cs => .tup (frz0L K h cs)
  | v => v
def frz0L (K : List Nat) (h : Heap) : List AV → List AV
  | [] => []
  | v :: r => frz0 K h v :: frz0L K h r
end
mutual
/-- The keys K are kept; arrays under other keys are frozen, with what their cells hold. -/
def frzV (K : List Nat) (h : Heap) : AV → AV
  | .ref k off len => bif K.contains k then .ref k off len else match h k with
    | some (.arr _ xs fl) => bif fl.nest then (bif nokeys (frz0L K h xs) then .sl false (((frz0L K h xs).drop off).take len) else .bot) else .sl false ((xs.drop off).take len)
    | _ => .bot
  | .ptr k i off => bif K.contains k then .ptr k i off else .bot
  | .agg cs => .agg (frzL K h cs)
  | .fn f cs => .fn f (frzL K h cs)
  | .tup cs => .tup (frzL K h cs)
  | v => v
def frzL (K : List Nat) (h : Heap) : List AV → List AV
  | [] => []
  | v :: r => frzV K h v :: frzL K h r
end
mutual
/-- A slice may be nil. -/
def wkV : AV → AV
  | .s v => match v with
    | .slice none 0 0 => .sl false []
    | v => .s v
  | .sl _ xs => .sl false xs
  | .agg cs => .agg (wkL cs)
  | .fn f cs => .fn f (wkL cs)
  | .tup cs => .tup (wkL cs)
  | v => v
def wkL : List AV → List AV
  | [] => []
  | v :: r => wkV v :: wkL r
end
theorem refsL_at : ∀ {cs : List AV} {i : Nat} {v : AV} {k : Nat}, cs[i]? = some v → k ∈ v.refs → k ∈ refsL cs
  | [], _, _, _, h, _ => by simp at h
  | x :: r, 0, v, k, h, hk => by simp at h; subst h; simp [refsL, hk]
  | x :: r, i + 1, v, k, h, hk => by simp [refsL, refsL_at (show r[i]? = some v by simpa using h) hk]
theorem noslL_at : ∀ {cs : List AV} {i : Nat} {v : AV}, noslL cs = true → cs[i]? = some v → v.nosl = true
  | [], _, _, _, h => by simp at h
  | x :: r, 0, v, hk, h => by simp at h; subst h; simp [noslL] at hk; exact hk.1
  | x :: r, i + 1, v, hk, h => by simp [noslL] at hk; exact noslL_at hk.2 (by simpa using h)
theorem frzL_at (K : List Nat) (h : Heap) : ∀ (cs : List AV) (i : Nat), (frzL K h cs)[i]? = (cs[i]?).map (frzV K h)
  | [], i => by simp [frzL]
  | x :: r, 0 => by simp [frzL]
  | x :: r, i + 1 => by simp [frzL, frzL_at K h r i]
theorem frz0L_at (K : List Nat) (h : Heap) : ∀ (cs : List AV) (i : Nat), (frz0L K h cs)[i]? = (cs[i]?).map (frz0 K h)
  | [], i => by simp [frz0L]
  | x :: r, 0 => by simp [frz0L]
  | x :: r, i + 1 => by simp [frz0L, frz0L_at K h r i]
theorem frz0L_length (K : List Nat) (h : Heap) : ∀ (cs : List AV), (frz0L K h cs).length = cs.length
  | [] => rfl
  | x :: r => by simp [frz0L, frz0L_length K h r]
theorem cells_of {v : AV} (h : v.isAgg = false) : v.cells = [v] := by cases v <;> first | rfl | (simp [AV.isAgg] at h)
theorem frz0_cells (K : List Nat) (h : Heap) (x : AV) : (frz0 K h x).cells = frz0L K h x.cells := by
  cases x with
  | agg cs => rfl
  | ref k off len =>
    refine cells_of ?_
    unfold frz0
    cases K.contains k with
    | true => rfl
    | false =>
      simp only [cond_false]
      rcases h k with _ | (_ | ⟨_, _, fl⟩ | _)
      · rfl
      · rfl
      · dsimp only
        cases fl.nest <;> rfl
      · rfl
  | ptr k i off => refine cells_of ?_; unfold frz0; cases K.contains k <;> rfl
  | _ => rfl
theorem frzV_cells (K : List Nat) (h : Heap) (x : AV) : (frzV K h x).cells = frzL K h x.cells := by
  cases x with
  | agg cs => rfl
  | ref k off len =>
    refine cells_of ?_
    unfold frzV
    cases K.contains k with
    | true => rfl
    | false =>
      simp only [cond_false]
      rcases h k with _ | (_ | ⟨_, xs, fl⟩ | _)
      · rfl
      · rfl
      · dsimp only
        cases fl.nest with
        | false => rfl
        | true =>
          simp only [cond_true]
          cases nokeys (frz0L K h xs) <;> rfl
      · rfl
  | ptr k i off => refine cells_of ?_; unfold frzV; cases K.contains k <;> rfl
  | _ => rfl
theorem nokey_cells {x : AV} (h : x.nokey = true) : nokeys x.cells = true := by
  by_cases ha : x.isAgg = true
  · cases x <;> first
      | exact h
      | (simp [AV.isAgg] at ha)
  · rw [cells_of (by simpa using ha)]
    simp [nokeys, h]
theorem frzL_length (K : List Nat) (h : Heap) : ∀ (cs : List AV), (frzL K h cs).length = cs.length
  | [] => rfl
  | x :: r => by simp [frzL, frzL_length K h r]
theorem wkL_at : ∀ (cs : List AV) (i : Nat), (wkL cs)[i]? = (cs[i]?).map wkV
  | [], i => by simp [wkL]
  | x :: r, 0 => by simp [wkL]
  | x :: r, i + 1 => by simp [wkL, wkL_at r i]
theorem wkL_length : ∀ (cs : List AV), (wkL cs).length = cs.length
  | [] => rfl
  | x :: r => by simp [wkL, wkL_length r]
theorem frzL_map (K : List Nat) (h : Heap) : ∀ cs : List AV, frzL K h cs = cs.map (frzV K h)
  | [] => rfl
  | x :: r => by simp [frzL, frzL_map K h r]
theorem wkL_map : ∀ cs : List AV, wkL cs = cs.map wkV
  | [] => rfl
  | x :: r => by simp [wkL, wkL_map r]

theorem RepF.wk {w : World} {D : Nat → Prop} : ∀ {v : AV} {c : Value}, RepF w D v c → RepF w D (wkV v) c := by
  intro v c hv
  induction hv with
  | bot c => exact .bot c
  | gh n c => exact .gh n c
  | s v =>
    unfold wkV
    split
    · exact .nil _ _
    · exact .s _
  | agg cs c hl h1 _ ih =>
    exact .agg _ c (by rw [wkL_length]; exact hl) h1 fun i v hv => by
      rw [wkL_at, Option.map_eq_some_iff] at hv
      obtain ⟨u, hu, rfl⟩ := hv
      exact ih i u hu
  | nil a cap => exact .nil _ _
  | nil1 a cap => exact .nil _ _
  | sl nn xs b o sz cap f hx hL hc hh _ => exact .sl false xs b o sz cap f hx hL hc hh
  | fp xs b o sz i off f hL hi ho hh _ => exact .fp xs b o sz i off f hL hi ho hh
theorem RepV.wk {w : World} {D : Nat → Prop} {h : Heap} {β : Map} : ∀ {v : AV} {c : Value}, RepV w D h β v c → RepV w D h β (wkV v) c := by
  intro v c hv
  have key : ∀ {cs : List AV} {c : Array Value} (ih : ∀ (i : Nat) v, cs[i]? = some v → RepV w D h β (wkV v) (c.getD i undef)) (i : Nat) v, (wkL cs)[i]? = some v → RepV w D h β v (c.getD i undef) := fun ih i v hv => by
    rw [wkL_at, Option.map_eq_some_iff] at hv
    obtain ⟨u, hu, rfl⟩ := hv
    exact ih i u hu
  induction hv with
  | fz v c hf => exact .fz _ _ hf.wk
  | agg cs c hl h1 _ ih => exact .agg _ c (by rw [wkL_length]; exact hl) h1 (key ih)
  | fn f caps c hl _ ih => exact .fn f _ c (by rw [wkL_length]; exact hl) (key ih)
  | tup vs c hl _ ih => exact .tup _ c (by rw [wkL_length]; exact hl) (key ih)
  | dref k off len c hk h1 => exact .dref _ _ _ _ hk h1
  | dptr k i off c hk h1 => exact .dptr _ _ _ _ hk h1
  | ref k off len sz xs st b n cap hk hb hn hc hs => exact .ref k off len sz xs st b n cap hk hb hn hc hs
  | ref0 k off sz xs st a hk hn => exact .ref0 k off sz xs st a hk hn
  | pbox k off cs b n hk hb => exact .pbox k off cs b n hk hb
  | parr k i off sz xs st b n hk hb hi ho => exact .parr k i off sz xs st b n hk hb hi ho
/-- Without frozen slices it does not matter who owns what. -/
theorem RepF.free {w : World} {D D' : Nat → Prop} : ∀ {v : AV} {c : Value}, RepF w D v c → v.nosl = true → RepF w D' v c := by
  intro v c hv
  induction hv with
  | bot c => exact fun _ => .bot c
  | gh n c => exact fun _ => .gh n c
  | s v => exact fun _ => .s v
  | agg cs c hl h1 _ ih => exact fun hn => .agg cs c hl h1 fun i v hv => ih i v hv (noslL_at (by simpa [AV.nosl] using hn) hv)
  | _ => intro hn; simp [AV.nosl] at hn

/-- The same keys in another state: the kept ones as they are, the others frozen. -/
theorem RepV.fz0 {w : World} {X : Nat → Prop} {h : Heap} {β : Map} (H : HOK X h β w) {K : List Nat} {h' : Heap} {β' : Map} {D' : Nat → Prop}
    (hk : ∀ k, k ∈ K → ∀ e, h k = some e → match e with | .box _ => ∃ cs', h' k = some (.box cs') | .arr sz xs _ => ∃ xs' st', h' k = some (.arr sz xs' st') ∧ xs.length = xs'.length | .dead => h' k = some .dead) (hβ : ∀ k, k ∈ K → β' k = β k) (hD : ∀ b, b < w.heap.size → ¬ Dom X β b → ¬ D' b)
    {v : AV} {c : Value} (hv : RepV w (Dom X β) h β v c) : (∀ k, k ∈ v.refs → k ∈ K ∨ ∀ b n, (b, n) ∈ β k → ¬ D' b) → RepV w D' h' β' (frz0 K h v) c := by
  have key : ∀ {cs : List AV} {c : Array Value} (ih : ∀ (i : Nat) v, cs[i]? = some v → (∀ k, k ∈ v.refs → k ∈ K ∨ ∀ b n, (b, n) ∈ β k → ¬ D' b) → RepV w D' h' β' (frz0 K h v) (c.getD i undef)) (hr : ∀ k, k ∈ refsL cs → k ∈ K ∨ ∀ b n, (b, n) ∈ β k → ¬ D' b)
      (i : Nat) v, (frz0L K h cs)[i]? = some v → RepV w D' h' β' v (c.getD i undef) := fun ih hr i v hv => by
    rw [frz0L_at, Option.map_eq_some_iff] at hv
    obtain ⟨u, hu, rfl⟩ := hv
    exact ih i u hu fun k hk => hr k (refsL_at hu hk)
  have efz : ∀ {v c}, RepF w (Dom X β) v c → RepF w D' v c := fun hf => hf.evo (Nat.le_refl _) fun b hb hd => ⟨rfl, hD b hb hd⟩
  have cont : ∀ {k}, K.contains k = true ↔ k ∈ K := fun {k} => by simp
  induction hv with
  | fz v c hf =>
    intro _
    have : RepF w D' (frz0 K h v) c := by
      have h2 : ∀ {v c}, RepF w (Dom X β) v c → RepF w D' (frz0 K h v) c := by
        intro v c hf
        induction hf with
        | bot c => exact .bot c
        | gh n c => exact .gh n c
        | s v => exact .s v
        | agg cs c hl h1 _ ih =>
          exact .agg _ c (by rw [frz0L_length]; exact hl) h1 fun i v hv => by
            rw [frz0L_at, Option.map_eq_some_iff] at hv
            obtain ⟨u, hu, rfl⟩ := hv
            exact ih i u hu
        | nil a cap => exact .nil _ _
        | nil1 a cap => exact .nil1 _ _
        | sl nn xs b o sz cap f hx hL hc hh _ => exact efz (.sl nn xs b o sz cap f hx hL hc hh)
        | fp xs b o sz i off f hL hi ho hh _ => exact efz (.fp xs b o sz i off f hL hi ho hh)
      exact h2 hf
    exact .fz _ _ this
  | agg cs c hl h1 _ ih => exact fun hr => .agg _ c (by rw [frz0L_length]; exact hl) h1 (key ih hr)
  | fn f caps c hl _ ih => exact fun hr => .fn f _ c (by rw [frz0L_length]; exact hl) (key ih hr)
  | tup vs c hl _ ih => exact fun hr => .tup _ c (by rw [frz0L_length]; exact hl) (key ih hr)
  | dref k off len c hk' h1 =>
    intro hr
    unfold frz0
    cases hc : K.contains k with
    | true => exact .dref _ _ _ _ (hk k (cont.1 hc) _ hk') h1
    | false => simp only [hk', cond_false]; exact .fz _ _ (.bot _)
  | dptr k i off c hk' h1 =>
    intro hr
    unfold frz0
    cases hc : K.contains k with
    | true => exact .dptr _ _ _ _ (hk k (cont.1 hc) _ hk') h1
    | false => exact .fz _ _ (.bot _)
  | ref k off len sz xs st b n cap hk' hb hn hc' hs =>
    intro hr
    unfold frz0
    cases hc : K.contains k with
    | true => obtain ⟨xs', st', hk2, _⟩ := hk k (cont.1 hc) _ hk'; exact .ref k off len sz xs' st' b n cap hk2 (by rw [hβ k (cont.1 hc)]; exact hb) hn hc' hs
    | false =>
      simp only [hk', cond_false]
      cases hnest : st.nest with
      | true => exact .fz _ _ (.bot _)
      | false =>
      simp only [cond_false]
      have hnK : ¬ k ∈ K := fun h => by rw [cont.2 h] at hc; cases hc
      have hfree := (hr k (by simp [AV.refs])).resolve_left hnK
      obtain ⟨g1, g2, g3, g4, g5, f, g6, g7, g8⟩ := H.ent k _ hk'
      have hnx : n ≤ xs.length := by
        cases hbk : β k with
        | nil => rw [hbk] at hb; simp at hb
        | cons q rr =>
          obtain ⟨b0, n0⟩ := q
          obtain ⟨e1, _, e3⟩ := g5 b0 n0 rr hbk
          rw [hbk] at hb
          simp at hb
          rcases hb with ⟨_, rfl⟩ | hb
          · omega
          · exact Nat.le_of_lt (e3 b n hb)
      have hl : ((xs.drop off).take len).length = len := by simp; omega
      by_cases hz : len = 0
      · subst hz; simp only [List.take_zero]; exact .fz _ _ (.nil _ _)
      · have hat : ∀ (i : Nat) y, ((xs.drop off).take len)[i]? = some y → xs[off + i]? = some y := fun i y hy => by
          rw [List.getElem?_take] at hy
          split at hy
          · rwa [List.getElem?_drop] at hy
          · cases hy
        obtain ⟨cc, el, e1, e2, e3⟩ := g8 b n hb
        have := RepF.sl (w := w) (D := D') false ((xs.drop off).take len) b (off * sz) sz cap (fun i j => f (off + i) j) (fun h0 => hz (by rw [← hl, h0]; rfl))
          ⟨H.lt b (.inr ⟨k, n, hb⟩), hfree b n hb, g1, by rw [hl]; omega, fun i y hy => g4 _ y (hat i y hy), fun i j hi hj => by
            rw [hl] at hi
            rw [cell_of_heap e1, show off * sz + i * sz + j = (off + i) * sz + j by rw [Nat.add_mul]]
            exact e3 _ _ (by omega) hj, fun i j hi hj => g7 _ _ (by rw [hl] at hi; omega) hj⟩ (by rw [hl]; exact hc') (fun i y j v hy hv => efz (g6.toF hnest _ y j v (hat i y hy) hv))
        rw [hl] at this
        exact .fz _ _ this
  | ref0 k off sz xs st a hk' hn =>
    intro hr
    unfold frz0
    cases hc : K.contains k with
    | true => obtain ⟨xs', st', hk2, hl2⟩ := hk k (cont.1 hc) _ hk'; exact .ref0 k off sz xs' st' a hk2 (hl2 ▸ hn)
    | false =>
      simp only [hk', cond_false, List.take_zero]
      cases st.nest with
      | true => exact .fz _ _ (.bot _)
      | false => exact .fz _ _ (.nil _ _)
  | pbox k off cs b n hk' hb =>
    intro hr
    unfold frz0
    cases hc : K.contains k with
    | true =>
      obtain ⟨cs', h2⟩ := hk k (cont.1 hc) _ hk'
      exact .pbox k off cs' b n h2 (by rw [hβ k (cont.1 hc)]; exact hb)
    | false => exact .fz _ _ (.bot _)
  | parr k i off sz xs st b n hk' hb hi ho =>
    intro hr
    unfold frz0
    cases hc : K.contains k with
    | true => obtain ⟨xs', st', hk2, _⟩ := hk k (cont.1 hc) _ hk'; exact .parr k i off sz xs' st' b n hk2 (by rw [hβ k (cont.1 hc)]; exact hb) hi ho
    | false => exact .fz _ _ (.bot _)

/-- The same keys in another state: the kept ones as they are, the others frozen. -/
theorem RepV.frz {w : World} {X : Nat → Prop} {h : Heap} {β : Map} (H : HOK X h β w) {K : List Nat} {h' : Heap} {β' : Map} {D' : Nat → Prop}
    (hk : ∀ k, k ∈ K → ∀ e, h k = some e → match e with | .box _ => ∃ cs', h' k = some (.box cs') | .arr sz xs _ => ∃ xs' st', h' k = some (.arr sz xs' st') ∧ xs.length = xs'.length | .dead => h' k = some .dead) (hβ : ∀ k, k ∈ K → β' k = β k) (hD : ∀ b, b < w.heap.size → ¬ Dom X β b → ¬ D' b) (hfr : ∀ k, ¬ k ∈ K → ∀ b n, (b, n) ∈ β k → ¬ D' b)
    {v : AV} {c : Value} (hv : RepV w (Dom X β) h β v c) : RepV w D' h' β' (frzV K h v) c := by
  have key : ∀ {cs : List AV} {c : Array Value} (ih : ∀ (i : Nat) v, cs[i]? = some v → RepV w D' h' β' (frzV K h v) (c.getD i undef))
      (i : Nat) v, (frzL K h cs)[i]? = some v → RepV w D' h' β' v (c.getD i undef) := fun ih i v hv => by
    rw [frzL_at, Option.map_eq_some_iff] at hv
    obtain ⟨u, hu, rfl⟩ := hv
    exact ih i u hu
  have efz : ∀ {v c}, RepF w (Dom X β) v c → RepF w D' v c := fun hf => hf.evo (Nat.le_refl _) fun b hb hd => ⟨rfl, hD b hb hd⟩
  have cont : ∀ {k}, K.contains k = true ↔ k ∈ K := fun {k} => by simp
  induction hv with
  | fz v c hf =>
    have : RepF w D' (frzV K h v) c := by
      have h2 : ∀ {v c}, RepF w (Dom X β) v c → RepF w D' (frzV K h v) c := by
        intro v c hf
        induction hf with
        | bot c => exact .bot c
        | gh n c => exact .gh n c
        | s v => exact .s v
        | agg cs c hl h1 _ ih =>
          exact .agg _ c (by rw [frzL_length]; exact hl) h1 fun i v hv => by
            rw [frzL_at, Option.map_eq_some_iff] at hv
            obtain ⟨u, hu, rfl⟩ := hv
            exact ih i u hu
        | nil a cap => exact .nil _ _
        | nil1 a cap => exact .nil1 _ _
        | sl nn xs b o sz cap f hx hL hc hh _ => exact efz (.sl nn xs b o sz cap f hx hL hc hh)
        | fp xs b o sz i off f hL hi ho hh _ => exact efz (.fp xs b o sz i off f hL hi ho hh)
      exact h2 hf
    exact .fz _ _ this
  | agg cs c hl h1 _ ih => exact .agg _ c (by rw [frzL_length]; exact hl) h1 (key ih)
  | fn f caps c hl _ ih => exact .fn f _ c (by rw [frzL_length]; exact hl) (key ih)
  | tup vs c hl _ ih => exact .tup _ c (by rw [frzL_length]; exact hl) (key ih)
  | dref k off len c hk' h1 =>
    unfold frzV
    cases hc : K.contains k with
    | true => exact .dref _ _ _ _ (hk k (cont.1 hc) _ hk') h1
    | false => simp only [hk', cond_false]; exact .fz _ _ (.bot _)
  | dptr k i off c hk' h1 =>
    unfold frzV
    cases hc : K.contains k with
    | true => exact .dptr _ _ _ _ (hk k (cont.1 hc) _ hk') h1
    | false => exact .fz _ _ (.bot _)
  | ref k off len sz xs st b n cap hk' hb hn hc' hs =>
    unfold frzV
    cases hc : K.contains k with
    | true => obtain ⟨xs', st', hk2, _⟩ := hk k (cont.1 hc) _ hk'; exact .ref k off len sz xs' st' b n cap hk2 (by rw [hβ k (cont.1 hc)]; exact hb) hn hc' hs
    | false =>
      simp only [hk', cond_false]
      have hnK : ¬ k ∈ K := fun h => by rw [cont.2 h] at hc; cases hc
      have hfree := hfr k hnK
      obtain ⟨g1, g2, g3, g4, g5, f, g6, g7, g8⟩ := H.ent k _ hk'
      have hnx : n ≤ xs.length := by
        cases hbk : β k with
        | nil => rw [hbk] at hb; simp at hb
        | cons q rr =>
          obtain ⟨b0, n0⟩ := q
          obtain ⟨e1, _, e3⟩ := g5 b0 n0 rr hbk
          rw [hbk] at hb
          simp at hb
          rcases hb with ⟨_, rfl⟩ | hb
          · omega
          · exact Nat.le_of_lt (e3 b n hb)
      cases hnest : st.nest with
      | true =>
        simp only [cond_true]
        cases hnk : nokeys (frz0L K h xs) with
        | false => exact .fz _ _ (.bot _)
        | true =>
        simp only [cond_true]
        have hl0 : (frz0L K h xs).length = xs.length := frz0L_length K h xs
        have hl : (((frz0L K h xs).drop off).take len).length = len := by simp [hl0]; omega
        by_cases hz : len = 0
        · subst hz; simp only [List.take_zero]; exact .fz _ _ (.nil _ _)
        have hat : ∀ (i : Nat) y, (((frz0L K h xs).drop off).take len)[i]? = some y → ∃ x, xs[off + i]? = some x ∧ y = frz0 K h x := fun i y hy => by
          rw [List.getElem?_take] at hy
          split at hy
          · rw [List.getElem?_drop, frz0L_at, Option.map_eq_some_iff] at hy
            obtain ⟨x, hx, rfl⟩ := hy
            exact ⟨x, hx, rfl⟩
          · cases hy
        obtain ⟨cc, el, e1, e2, e3⟩ := g8 b n hb
        have := RepF.sl (w := w) (D := D') false (((frz0L K h xs).drop off).take len) b (off * sz) sz cap (fun i j => f (off + i) j) (fun h0 => hz (by rw [← hl, h0]; rfl))
          ⟨H.lt b (.inr ⟨k, n, hb⟩), hfree b n hb, g1, by rw [hl]; omega, fun i y hy => by
            obtain ⟨x, hx, rfl⟩ := hat i y hy
            rw [frz0_cells, frz0L_length]
            exact g4 _ x hx, fun i j hi hj => by
            rw [hl] at hi
            rw [cell_of_heap e1, show off * sz + i * sz + j = (off + i) * sz + j by rw [Nat.add_mul]]
            exact e3 _ _ (by omega) hj, fun i j hi hj => g7 _ _ (by rw [hl] at hi; omega) hj⟩ (by rw [hl]; exact hc') (fun i y j v hy hv => by
            obtain ⟨x, hx, rfl⟩ := hat i y hy
            have hyk : (frz0 K h x).nokey = true := nokeys_at hnk (show (frz0L K h xs)[off + i]? = some (frz0 K h x) by rw [frz0L_at, hx]; rfl)
            have hvk : v.nokey = true := nokeys_at (nokey_cells hyk) hv
            rw [frz0_cells, frz0L_at, Option.map_eq_some_iff] at hv
            obtain ⟨u, hu, rfl⟩ := hv
            exact (RepV.fz0 H hk hβ hD (g6.toV _ x j u hx hu) fun k' _ => by
              by_cases hk2 : k' ∈ K
              · exact .inl hk2
              · exact .inr (hfr k' hk2)).toF hvk)
        rw [hl] at this
        exact .fz _ _ this
      | false =>
      simp only [cond_false]
      have hl : ((xs.drop off).take len).length = len := by simp; omega
      by_cases hz : len = 0
      · subst hz; simp only [List.take_zero]; exact .fz _ _ (.nil _ _)
      · have hat : ∀ (i : Nat) y, ((xs.drop off).take len)[i]? = some y → xs[off + i]? = some y := fun i y hy => by
          rw [List.getElem?_take] at hy
          split at hy
          · rwa [List.getElem?_drop] at hy
          · cases hy
        obtain ⟨cc, el, e1, e2, e3⟩ := g8 b n hb
        have := RepF.sl (w := w) (D := D') false ((xs.drop off).take len) b (off * sz) sz cap (fun i j => f (off + i) j) (fun h0 => hz (by rw [← hl, h0]; rfl))
          ⟨H.lt b (.inr ⟨k, n, hb⟩), hfree b n hb, g1, by rw [hl]; omega, fun i y hy => g4 _ y (hat i y hy), fun i j hi hj => by
            rw [hl] at hi
            rw [cell_of_heap e1, show off * sz + i * sz + j = (off + i) * sz + j by rw [Nat.add_mul]]
            exact e3 _ _ (by omega) hj, fun i j hi hj => g7 _ _ (by rw [hl] at hi; omega) hj⟩ (by rw [hl]; exact hc') (fun i y j v hy hv => efz (g6.toF hnest _ y j v (hat i y hy) hv))
        rw [hl] at this
        exact .fz _ _ this
  | ref0 k off sz xs st a hk' hn =>
    unfold frzV
    cases hc : K.contains k with
    | true => obtain ⟨xs', st', hk2, hl2⟩ := hk k (cont.1 hc) _ hk'; exact .ref0 k off sz xs' st' a hk2 (hl2 ▸ hn)
    | false =>
      simp only [hk', cond_false, List.take_zero]
      cases st.nest with
      | true =>
        simp only [cond_true]
        cases nokeys (frz0L K h xs) with
        | true => exact .fz _ _ (.nil _ _)
        | false => exact .fz _ _ (.bot _)
      | false => exact .fz _ _ (.nil _ _)
  | pbox k off cs b n hk' hb =>
    unfold frzV
    cases hc : K.contains k with
    | true =>
      obtain ⟨cs', h2⟩ := hk k (cont.1 hc) _ hk'
      exact .pbox k off cs' b n h2 (by rw [hβ k (cont.1 hc)]; exact hb)
    | false => exact .fz _ _ (.bot _)
  | parr k i off sz xs st b n hk' hb hi ho =>
    unfold frzV
    cases hc : K.contains k with
    | true => obtain ⟨xs', st', hk2, _⟩ := hk k (cont.1 hc) _ hk'; exact .parr k i off sz xs' st' b n hk2 (by rw [hβ k (cont.1 hc)]; exact hb) hi ho
    | false => exact .fz _ _ (.bot _)

/-! ### Letting go -/
def frzE (K : List Nat) (h : Heap) : Ent → Ent
  | .box cs => .box (frzL K h cs)
  | .arr sz xs fl => bif fl.nest then .arr sz (frzL K h xs) ⟨fl.stale, !nokeys (frzL K h xs)⟩ else .arr sz xs fl
  | .dead => .dead
theorem frzE_arr (K : List Nat) (h : Heap) (sz : Nat) (xs : List AV) (fl : Fl) : ∃ xs' fl', frzE K h (.arr sz xs fl) = .arr sz xs' fl' ∧ xs'.length = xs.length := by
  cases hn : fl.nest with
  | true => exact ⟨_, _, by simp only [frzE, hn, cond_true]; rfl, frzL_length K h xs⟩
  | false => exact ⟨_, _, by simp only [frzE, hn, cond_false]; rfl, rfl⟩
theorem frzV_gh {K : List Nat} {h : Heap} {v : AV} {i : Nat} (hv : frzV K h v = .gh i) : v = .gh i := by
  cases v <;> first
    | exact hv
    | (simp [frzV] at hv; done)
    | skip
  · exfalso
    rename_i k _ _
    unfold frzV at hv
    cases hc : K.contains k <;> rw [hc] at hv
    · simp only [cond_false] at hv
      split at hv
      · rename_i fl _
        cases hn : Fl.nest fl <;> rw [hn] at hv
        · cases hv
        · simp only [cond_true] at hv
          generalize nokeys _ = q at hv
          cases q <;> cases hv
      · cases hv
    · cases hv
  · exfalso
    rename_i k _ _
    unfold frzV at hv
    cases hc : K.contains k <;> rw [hc] at hv <;> cases hv
def restrH (K : List Nat) (h : Heap) : List (Nat × Ent)
  := K.filterMap fun k => (h k).map fun e => (k, frzE K h e)
def restr (K ts : List Nat) (st : St) : St := ⟨ts.map fun t => (t, frzV K (lookE st.h) (look st.tm t)), restrH K (lookE st.h)⟩
theorem lookE_restrH (K : List Nat) (h : Heap) (k : Nat) : lookE (restrH K h) k = if k ∈ K then (h k).map (frzE K h) else none := by
  unfold restrH
  generalize frzE K h = g
  induction K with
  | nil => rfl
  | cons j K ih =>
    rw [List.filterMap_cons]
    cases hj : h j with
    | none =>
      simp only [Option.map_none, ih, List.mem_cons]
      by_cases hkj : k = j
      · subst hkj; simp [hj]
      · simp [hkj]
    | some e =>
      simp only [Option.map_some, lookE_cons, ih, List.mem_cons]
      by_cases hkj : k = j
      · subst hkj; simp [hj]
      · simp [hkj]
theorem look_restr (K ts : List Nat) (st : St) (t : Nat) : look (restr K ts st).tm t = if t ∈ ts then frzV K (lookE st.h) (look st.tm t) else .bot := by
  unfold restr
  dsimp only
  generalize frzV K (lookE st.h) = g
  induction ts with
  | nil => rfl
  | cons j ts ih =>
    simp only [List.map_cons, look_cons, ih, List.mem_cons]
    by_cases htj : t = j
    · subst htj; simp
    · simp [htj]
/-- The state when only the keys K are kept. -/
theorem HOK.restr {X : Nat → Prop} {h : Heap} {β : Map} {w : World} (H : HOK X h β w) (K : List Nat) :
    HOK X (lookE (restrH K h)) (fun k => if k ∈ K then β k else []) w ∧ ∀ v c, RepV w (Dom X β) h β v c → RepV w (Dom X fun k => if k ∈ K then β k else []) (lookE (restrH K h)) (fun k => if k ∈ K then β k else []) (frzV K h v) c := by
  have hsub : ∀ b, Dom X (fun k => if k ∈ K then β k else []) b → Dom X β b := fun b hd => by
    rcases hd with hx | ⟨k, n, hm⟩
    · exact .inl hx
    · (try dsimp only at hm)
      split at hm
      · exact .inr ⟨k, n, hm⟩
      · simp at hm
  have hv : ∀ v c, RepV w (Dom X β) h β v c → RepV w (Dom X fun k => if k ∈ K then β k else []) (lookE (restrH K h)) (fun k => if k ∈ K then β k else []) (frzV K h v) c := fun v c hv => by
    refine RepV.frz H (K := K) (fun k hk e he => ?_) (fun k hk => by simp [hk]) (fun b _ hd h' => hd (hsub b h')) (fun k hk b n hm => ?_) hv
    · rw [lookE_restrH, if_pos hk, he]
      cases e with
      | box cs => exact ⟨_, rfl⟩
      | arr sz xs fl =>
        cases hn : fl.nest with
        | true => exact ⟨_, _, by simp only [Option.map_some, frzE, hn, cond_true]; rfl, (frzL_length K h xs).symm⟩
        | false => exact ⟨_, _, by simp only [Option.map_some, frzE, hn, cond_false]; rfl, rfl⟩
      | dead => rfl
    · rintro (hx | ⟨k', n', hm'⟩)
      · exact H.free k b n hm hx
      · (try dsimp only at hm')
        split at hm'
        · rename_i hk'
          exact hk (H.disj k k' b n n' hm hm' ▸ hk')
        · simp at hm'
  have ef : ∀ {v c}, RepF w (Dom X β) v c → RepF w (Dom X fun k => if k ∈ K then β k else []) v c := fun hf => hf.evo (Nat.le_refl _) fun b _ hd => ⟨rfl, fun h' => hd (hsub b h')⟩
  refine ⟨⟨fun k e he => ?_, fun k he => ?_, fun k k' b n n' h1 h2 => ?_, fun k b n hm => ?_, fun b hd => H.lt b (hsub b hd)⟩, hv⟩
  · rw [lookE_restrH] at he
    split at he
    · rename_i hk
      rw [Option.map_eq_some_iff] at he
      obtain ⟨e0, he0, rfl⟩ := he
      have := H.ent k e0 he0
      cases e0 with
      | dead => show (if k ∈ K then β k else []) = []; rw [if_pos hk]; exact this
      | box cs =>
        obtain ⟨b, c, el, h1, h2, h3, h4, h5⟩ := this
        refine ⟨b, c, el, by (try dsimp only); rw [if_pos hk]; exact h1, h2, by rw [frzL_length]; exact h3, h4, fun i v hi => ?_⟩
        rw [frzL_at, Option.map_eq_some_iff] at hi
        obtain ⟨u, hu, rfl⟩ := hi
        exact hv u _ (h5 i u hu)
      | arr sz xs st =>
        obtain ⟨g1, g2, g3, g4, g5, f, g6, g7, g8⟩ := this
        cases hn : st.nest with
        | false =>
          simp only [frzE, hn, cond_false]
          exact ⟨g1, g2, by (try dsimp only); rw [if_pos hk]; exact g3, g4, by (try dsimp only); rw [if_pos hk]; exact g5, f, .ofF fun i x j v hx hy => ef (g6.toF hn i x j v hx hy), g7, by (try dsimp only); rw [if_pos hk]; exact g8⟩
        | true =>
          simp only [frzE, hn, cond_true]
          have hl := frzL_length K h xs
          have hat : ∀ (i : Nat) y, (frzL K h xs)[i]? = some y → ∃ x, xs[i]? = some x ∧ y = frzV K h x := fun i y hy => by
            rw [frzL_at, Option.map_eq_some_iff] at hy
            obtain ⟨x, hx, rfl⟩ := hy
            exact ⟨x, hx, rfl⟩
          refine ⟨g1, by rw [hl]; exact g2, fun h0 => by (try dsimp only); rw [if_pos hk]; exact g3 (fun h1 => h0 (by rw [h1]; rfl)), fun i y hy => ?_, by (try dsimp only); rw [if_pos hk, hl]; exact g5, f, fun i y j v hy hv2 => ?_, by rw [hl]; exact g7, by (try dsimp only); rw [if_pos hk]; exact g8⟩
          · obtain ⟨x, hx, rfl⟩ := hat i y hy
            rw [frzV_cells, frzL_length]
            exact g4 i x hx
          · obtain ⟨x, hx, rfl⟩ := hat i y hy
            have hR : RepV w (Dom X fun k => if k ∈ K then β k else []) (lookE (restrH K h)) (fun k => if k ∈ K then β k else []) v (f i j) := by
              rw [frzV_cells, frzL_at, Option.map_eq_some_iff] at hv2
              obtain ⟨u, hu, rfl⟩ := hv2
              exact hv u _ (g6.toV i x j u hx hu)
            exact ⟨hR, fun h0 => hR.toF (nokeys_at (nokey_cells (nokeys_at (by simpa using h0) hy)) hv2)⟩
    · cases he
  · (try dsimp only)
    split
    · rename_i hk
      rw [lookE_restrH, if_pos hk] at he
      cases hk' : h k with
      | none => exact H.off k hk'
      | some e => simp [hk'] at he
    · rfl
  · (try dsimp only at h1 h2)
    split at h1 <;> split at h2
    · exact H.disj _ _ _ _ _ h1 h2
    · simp at h2
    · simp at h1
    · simp at h1
  · (try dsimp only at hm)
    split at hm
    · exact H.free k b n hm
    · simp at hm
theorem RelS.restr {K0 : List Nat} {F : Fr K0} {m : Nat} {st : St} {a : Act} {w : World} (R : RelS F m st a w) (K ts : List Nat) (hK : K0.all (K.contains ·) = true) : RelS F m (restr K ts st) a w := by
  obtain ⟨⟨X, β, hX, H, Ht, KK, hJ, hD⟩, nd, gs, hl⟩ := R
  obtain ⟨H', hv⟩ := H.restr K
  refine ⟨⟨X, _, hX, H', fun t => ?_, ⟨fun k e he => ?_, KK.size, KK.keep, fun k b n hm => ?_, fun k b n hm => ?_, KK.bs, KK.os, KK.tape, KK.output⟩, fun i hi => ?_, hD⟩, fun k => ?_, gs, hl⟩
  · rw [look_restr]
    split
    · exact hv _ _ (Ht t)
    · exact .fz _ _ (.bot _)
  · have hk : k ∈ K := by
      have := List.all_eq_true.1 hK k (F.hh k e he)
      simpa using this
    have h1 := KK.knd k e he
    have hr : ∀ e', lookE st.h k = some e' → lookE (restrH K (lookE st.h)) k = some (frzE K (lookE st.h) e') := fun e' h2 => by rw [lookE_restrH, if_pos hk, h2]; rfl
    cases e with
    | dead => exact h1
    | box cs => obtain ⟨cs', h2⟩ := h1; exact ⟨_, hr _ h2⟩
    | arr sz xs sl => obtain ⟨xs', sl', h2, h3⟩ := h1; obtain ⟨xs2, fl2, h4, h5⟩ := frzE_arr K (lookE st.h) sz xs' sl'; exact ⟨xs2, fl2, (hr _ h2).trans (by rw [h4]), by rw [h5]; exact h3⟩
  · (try dsimp only at hm)
    split at hm
    · exact KK.own k b n hm
    · simp at hm
  · have hk : k ∈ K := by
      have := List.all_eq_true.1 hK k (F.hK k b n hm)
      simpa using this
    (try dsimp only)
    rw [if_pos hk]
    exact KK.pas k b n hm
  · rw [look_restr] at hi
    split at hi
    · have h1 : look st.tm GS = .gh i := frzV_gh hi
      refine F.Jst i _ X w w _ (hJ i h1) (Nat.le_refl _) (fun _ _ _ => rfl) (fun b hb => ?_) (fun b hb => ?_) rfl rfl rfl
      · obtain ⟨k, n, hm⟩ := hb
        (try dsimp only at hm)
        split at hm
        · exact .inl ⟨k, n, hm⟩
        · simp at hm
      · obtain ⟨k, n, hm⟩ := hb
        exact H'.lt b (.inr ⟨k, n, hm⟩)
    · cases hi
  · show lookE (restrH K (lookE st.h)) k ≠ some .dead
    rw [lookE_restrH]
    split
    · intro h
      rw [Option.map_eq_some_iff] at h
      obtain ⟨e, he, h2⟩ := h
      cases e with
      | dead => exact nd k he
      | box cs => cases h2
      | arr a b c => obtain ⟨xs2, fl2, h4, _⟩ := frzE_arr K (lookE st.h) a b c; rw [h4] at h2; cases h2
    · intro h; cases h
end Av
end Go.Proofs.Ytianonghhmiooaa
/- Abstract values: contracts of functions, and calls by them. -/
namespace Go.Proofs.Ytianonghhmiooaa
namespace Av
set_option linter.unusedSimpArgs false
set_option linter.unusedVariables false

def Callable (P : Program) (f : Nat) : Prop := ∀ (args : Array Value) (w : World), (callFunc f args).run P w = .ok (.enter f args) w
/-- The contract: handed args, and what h0 tells of the keys that are handed over, f returns r and leaves h1. -/
structure CallSim (P : Program) (f : Nat) (args : List AV) (h0 : List (Nat × Ent)) (r : AV) (h1 : List (Nat × Ent)) : Prop where
  able : Callable P f
  nd : ∀ k, lookE h1 k ≠ some .dead
  sim : ∀ (X : Nat → Prop) (w : World) (β : Map) (cargs : Array Value), cargs.size = args.length → HOK X (lookE h0) β w → (∀ (i : Nat) v, args[i]? = some v → RepV w (Dom X β) (lookE h0) β v (cargs.getD i undef)) →
    Calls P f cargs w fun e w' => ∃ c β', e = .returned c ∧ Goes X w (lookE h0) β w' (lookE h1) β' ∧ RepV w' (Dom X β') (lookE h1) β' r c

def Ent.nosl : Ent → Bool
  | .box cs => noslL cs
  | .arr _ xs _ => noslL xs
  | .dead => true
def noslH : List (Nat × Ent) → Bool
  | [] => true
  | (_, e) :: r => e.nosl && noslH r
theorem noslH_at : ∀ {h : List (Nat × Ent)} {k : Nat} {e : Ent}, noslH h = true → lookE h k = some e → e.nosl = true
  | [], k, e, _, he => by simp [lookE] at he
  | (j, e0) :: r, k, e, hn, he => by
    simp [noslH] at hn
    rw [lookE_cons] at he
    split at he
    · cases he; exact hn.1
    · exact noslH_at hn.2 he
def keys (h : List (Nat × Ent)) : List Nat := h.map (·.1)
theorem lookE_mem : ∀ {h : List (Nat × Ent)} {k : Nat} {e : Ent}, lookE h k = some e → k ∈ keys h
  | [], k, e, he => by simp [lookE] at he
  | (j, e0) :: r, k, e, he => by
    rw [lookE_cons] at he
    split at he
    · rename_i h; simp [keys, h]
    · have := lookE_mem he; simp [keys] at this ⊢; exact .inr this
theorem mem_lookE : ∀ {h : List (Nat × Ent)} {k : Nat}, k ∈ keys h → ∃ e, lookE h k = some e
  | [], k, hk => by simp [keys] at hk
  | (j, e0) :: r, k, hk => by
    rw [lookE_cons]
    split
    · exact ⟨_, rfl⟩
    · rename_i h
      simp only [keys, List.map_cons, List.mem_cons] at hk
      exact mem_lookE (hk.resolve_left h)

theorem lookE_pair : ∀ {h : List (Nat × Ent)} {k : Nat} {e : Ent}, lookE h k = some e → ∃ p ∈ h, p.2 = e
  | [], k, e, he => by simp [lookE] at he
  | (j, e0) :: r, k, e, he => by
    rw [lookE_cons] at he
    split at he
    · cases he; exact ⟨(j, e0), by simp, rfl⟩
    · obtain ⟨p, hp, h2⟩ := lookE_pair he; exact ⟨p, by simp [hp], h2⟩

/-- Nothing that is not handed over is named in what is. -/
def clE (ks : List Nat) : Ent → Bool
  | .box cs => (refsL cs).all (ks.contains ·)
  | .arr _ xs fl => bif fl.nest then (refsL xs).all (ks.contains ·) else true
  | .dead => true
theorem refs_cells {x v : AV} {j : Nat} (h : x.cells[j]? = some v) {k : Nat} (hk : k ∈ v.refs) : k ∈ x.refs := by
  cases x <;> first
    | (simp [AV.cells] at h; cases j <;> simp at h; subst h; exact hk)
    | exact refsL_at h hk
/-- What a value is when it is handed over: it may be nil; the keys K stay. -/
def arg1 (K : List Nat) (h : Heap) (v : AV) : AV := wkV (frz0 K h v)

theorem zip_get {args : Array Operand} {caps : List AV} {ρ : Operand → Value} {cv : Array Value} (g : Operand → AV) {i : Nat} {v : AV} (hc : cv.size = caps.length) (h : (args.toList.map g ++ caps)[i]? = some v) :
    (∃ x, x ∈ args ∧ g x = v ∧ (args.map ρ ++ cv).getD i undef = ρ x) ∨ ∃ j, caps[j]? = some v ∧ (args.map ρ ++ cv).getD i undef = cv.getD j undef := by
  by_cases hi : i < args.size
  · rw [List.getElem?_append_left (by simpa using hi), List.getElem?_map, Option.map_eq_some_iff] at h
    obtain ⟨x, hx, rfl⟩ := h
    have hx' : args[i]? = some x := by simpa using hx
    refine .inl ⟨x, Array.mem_of_getElem? hx', rfl, getD_of ?_⟩
    rw [Array.getElem?_append_left (by simpa using hi)]
    simp [hx']
  · rw [List.getElem?_append_right (by simp; omega)] at h
    refine .inr ⟨i - args.size, by simpa using h, ?_⟩
    have hlt : i - args.size < caps.length := by simpa using (List.getElem?_eq_some_iff.1 h).1
    apply getD_of
    rw [Array.getElem?_append_right (by simp; omega)]
    simpa using getD_eq cv (i - args.size) (by omega)

section
variable {P : Program} {st : St}
theorem lift_rep {X Xc : Nat → Prop} {w' : World} {h h' : Heap} {β1 β' : Map} (hh : ∀ k e, h k = some e → h' k = some e ∧ β' k = β1 k) (hD : ∀ b, Dom X β' b → b < w'.heap.size → Dom Xc β1 b ∨ False) {v : AV} {c : Value} (hv : RepV w' (Dom Xc β1) h β1 v c) : RepV w' (Dom X β') h' β' v c := by
  have ef : ∀ {v c}, RepF w' (Dom Xc β1) v c → RepF w' (Dom X β') v c := fun hf => hf.evo (Nat.le_refl _) fun b hb hd => ⟨rfl, fun h' => hd ((hD b h' hb).resolve_right id)⟩
  induction hv with
  | fz v c hf => exact .fz _ _ (ef hf)
  | agg cs c hl h1 _ ih => exact .agg cs c hl h1 ih
  | fn f caps c hl _ ih => exact .fn f caps c hl ih
  | tup vs c hl _ ih => exact .tup vs c hl ih
  | dref k off len c hk h1 => exact .dref _ _ _ _ (hh k _ hk).1 h1
  | dptr k i off c hk h1 => exact .dptr _ _ _ _ (hh k _ hk).1 h1
  | ref k off len sz xs st b n cap hk hb hn hc hs => exact .ref k off len sz xs st b n cap (hh k _ hk).1 (by rw [(hh k _ hk).2]; exact hb) hn hc hs
  | ref0 k off sz xs st a hk hn => exact .ref0 k off sz xs st a (hh k _ hk).1 hn
  | pbox k off cs b n hk hb => exact .pbox k off cs b n (hh k _ hk).1 (by rw [(hh k _ hk).2]; exact hb)
  | parr k i off sz xs st b n hk hb hi ho => exact .parr k i off sz xs st b n (hh k _ hk).1 (by rw [(hh k _ hk).2]; exact hb) hi ho
theorem lift_nosl {X Xc : Nat → Prop} {w' : World} {h h' : Heap} {β1 β' : Map} (hh : ∀ k e, h k = some e → h' k = some e ∧ β' k = β1 k) {v : AV} {c : Value} (hv : RepV w' (Dom Xc β1) h β1 v c) : v.nosl = true → RepV w' (Dom X β') h' β' v c := by
  induction hv with
  | fz v c hf => exact fun hn => .fz _ _ (hf.free hn)
  | agg cs c hl h1 _ ih => exact fun hn => .agg cs c hl h1 fun i v hv => ih i v hv (noslL_at (by simpa [AV.nosl] using hn) hv)
  | fn f caps c hl _ ih => exact fun hn => .fn f caps c hl fun i v hv => ih i v hv (noslL_at (by simpa [AV.nosl] using hn) hv)
  | tup vs c hl _ ih => exact fun hn => .tup vs c hl fun i v hv => ih i v hv (noslL_at (by simpa [AV.nosl] using hn) hv)
  | dref k off len c hk h1 => exact fun _ => .dref _ _ _ _ (hh k _ hk).1 h1
  | dptr k i off c hk h1 => exact fun _ => .dptr _ _ _ _ (hh k _ hk).1 h1
  | ref k off len sz xs st b n cap hk hb hn hc hs => exact fun _ => .ref k off len sz xs st b n cap (hh k _ hk).1 (by rw [(hh k _ hk).2]; exact hb) hn hc hs
  | ref0 k off sz xs st a hk hn => exact fun _ => .ref0 k off sz xs st a (hh k _ hk).1 hn
  | pbox k off cs b n hk hb => exact fun _ => .pbox k off cs b n (hh k _ hk).1 (by rw [(hh k _ hk).2]; exact hb)
  | parr k i off sz xs st b n hk hb hi ho => exact fun _ => .parr k i off sz xs st b n (hh k _ hk).1 (by rw [(hh k _ hk).2]; exact hb) hi ho
/-- The same entry, its parts read anew. -/
theorem EntOK.lift {w : World} {D D' : Nat → Prop} {h h' : Heap} {β β' : Map} {k : Nat} {e : Ent} (hb : β' k = β k) (hv : ∀ cs, e = .box cs → ∀ (i : Nat) v c, cs[i]? = some v → RepV w D h β v c → RepV w D' h' β' v c)
    (hf : ∀ sz xs st, e = .arr sz xs st → ∀ (i : Nat) (x : AV) (j : Nat) v c, xs[i]? = some x → x.cells[j]? = some v → (RepF w D v c → RepF w D' v c) ∧ (st.nest = true → RepV w D h β v c → RepV w D' h' β' v c)) (H : EntOK w D h β k e) : EntOK w D' h' β' k e := by
  cases e with
  | dead => exact hb.trans H
  | box cs =>
    obtain ⟨b, c, el, h1, h2, h3, h4, h5⟩ := H
    exact ⟨b, c, el, hb.trans h1, h2, h3, h4, fun i v hi => hv cs rfl i v _ hi (h5 i v hi)⟩
  | arr sz xs st =>
    obtain ⟨h1, h2, h3, h4, h5, f, h6, h7, h8⟩ := H
    exact ⟨h1, h2, by rwa [hb], h4, by rwa [hb], f, fun i x j v hx hv => by
      obtain ⟨q1, q2⟩ := hf sz xs st rfl i x j v (f i j) hx hv
      cases hn : st.nest with
      | true => exact ⟨q2 hn (h6.toV i x j v hx hv), fun h => by cases h⟩
      | false => exact ⟨.fz _ _ (q1 (h6.toF hn i x j v hx hv)), fun _ => q1 (h6.toF hn i x j v hx hv)⟩, h7, by rwa [hb]⟩

theorem stp_call {f : Nat} {x : Operand} {args : Array Operand} {ats : Array Nat} {caps as' : List AV} {h0 h1 : List (Nat × Ent)} {r : AV} (hc : CallSim P f as' h0 r h1) (hx : opv (look st.tm) x = .fn f caps)
    (has : (args.toList.map (opv (look st.tm)) ++ caps).map (arg1 (keys h0) (lookE st.h)) = as') (hh0 : (keys h0).map (lookE st.h) = (keys h0).map (lookE h0)) (hcl : h0.all (fun p => clE (keys h0) p.2) = true)
    (hnb : ((refsL (args.toList.map (opv (look st.tm)) ++ caps)).all ((keys h0).contains ·) || (r.nosl && noslH h1)) = true) :
    Stp P st (.call ⟨.value x, args, ats⟩) r h1 (keys h0 ++ refsL (args.toList.map (opv (look st.tm)) ++ caps)) ((keys h1).filter fun k => !(keys h0).contains k) := by
  refine ⟨?_⟩
  intro X tm h hg hr hn o a w β ho HH Ht
  obtain ⟨dst, op', type, pos, after, guard⟩ := o
  dsimp only at ho; subst ho
  -- the callee
  have hfv := arg Ht hg (x := x) (by simp [Op.operands, Call.operands]) hx
  obtain ⟨cv, hfx, hcvl, hcv⟩ : ∃ cv : Array Value, a.eval x = .func (.func f) #[] cv ∧ cv.size = caps.length ∧ ∀ (i : Nat) v, caps[i]? = some v → RepV w (Dom X β) h β v (cv.getD i undef) := by
    generalize a.eval x = cx at hfv
    cases hfv with
    | fz _ _ hf => cases hf
    | fn _ _ c hl hh => exact ⟨c, rfl, hl, hh⟩
  have hrun : (execOp a.eval ⟨dst, .call ⟨.value x, args, ats⟩, type, pos, after, guard⟩).run P w = .ok (.enter f (args.map a.eval ++ cv)) w := by
    have hab := hc.able (args.map a.eval ++ cv) w
    simp [execOp, resolve, hfx, Deferred.ofValue, invoke, hab]
  rw [hrun]
  -- the keys that are handed over
  have hK : ∀ k, k ∈ keys h0 → h k = lookE h0 k := fun k hk => by
    rw [hr k (by simp [hk])]
    obtain ⟨i, hi⟩ := List.getElem?_of_mem hk
    have := congrArg (·[i]?) hh0
    simpa [hi] using this
  have hoff0 : ∀ k, lookE h0 k = none → ¬ k ∈ keys h0 := fun k hk hm => by
    obtain ⟨e, he⟩ := mem_lookE hm
    rw [hk] at he; cases he
  let βc : Map := fun k => if k ∈ keys h0 then β k else []
  have hβc : ∀ k, k ∈ keys h0 → βc k = β k := fun k hk => by simp [βc, hk]
  have hβn : ∀ k, ¬ k ∈ keys h0 → βc k = [] := fun k hk => by simp [βc, hk]
  have hβm : ∀ k b n, (b, n) ∈ βc k → k ∈ keys h0 ∧ (b, n) ∈ β k := fun k b n hm => by
    by_cases hk : k ∈ keys h0
    · rw [hβc k hk] at hm; exact ⟨hk, hm⟩
    · rw [hβn k hk] at hm; simp at hm
  -- whether arrays are lent
  let lent : Bool := !(refsL (args.toList.map (opv (look st.tm)) ++ caps)).all ((keys h0).contains ·)
  let Xc : Nat → Prop := fun b => X b ∨ (lent = false ∧ ∃ k n, ¬ k ∈ keys h0 ∧ (b, n) ∈ β k)
  have hDc : ∀ b, Dom Xc βc b → Dom X β b := fun b hd => by
    rcases hd with (hx | ⟨_, k, n, _, hm⟩) | ⟨k, n, hm⟩
    · exact .inl hx
    · exact .inr ⟨k, n, hm⟩
    · exact .inr ⟨k, n, (hβm k b n hm).2⟩
  have hclosed : ∀ k e, lookE h0 k = some e → clE (keys h0) e = true := fun k e hk => by
    obtain ⟨p, hp, he⟩ := lookE_pair hk
    have := List.all_eq_true.1 hcl p hp
    rw [he] at this
    exact this
  have hfrz : ∀ {v c}, RepV w (Dom X β) h β v c → (∀ k, k ∈ v.refs → k ∈ keys h0 ∨ ∀ b n, (b, n) ∈ β k → ¬ Dom Xc βc b) → RepV w (Dom Xc βc) (lookE h0) βc (frz0 (keys h0) h v) c := fun hv hrf =>
    RepV.fz0 HH (fun k hk e he => by
      rw [hK k hk] at he
      cases e with
      | box cs => exact ⟨cs, he⟩
      | arr sz xs fl => exact ⟨xs, fl, he, rfl⟩
      | dead => exact he) hβc (fun b _ hd h' => hd (hDc b h')) hv hrf
  -- of values that name kept keys alone nothing is frozen
  have hclv : ∀ {v c}, RepV w (Dom X β) h β v c → (∀ k, k ∈ v.refs → k ∈ keys h0) → RepV w (Dom Xc βc) (lookE h0) βc v c := by
    intro v c hv
    have ef : ∀ {v c}, RepF w (Dom X β) v c → RepF w (Dom Xc βc) v c := fun hf => hf.evo (Nat.le_refl _) fun b _ hd => ⟨rfl, fun h' => hd (hDc b h')⟩
    induction hv with
    | fz v c hf => exact fun _ => .fz _ _ (ef hf)
    | agg cs c hl h1 _ ih => exact fun hr => .agg cs c hl h1 fun i v hv => ih i v hv fun k hk => hr k (by simpa [AV.refs] using refsL_at hv hk)
    | fn f caps c hl _ ih => exact fun hr => .fn f caps c hl fun i v hv => ih i v hv fun k hk => hr k (by simpa [AV.refs] using refsL_at hv hk)
    | tup vs c hl _ ih => exact fun hr => .tup vs c hl fun i v hv => ih i v hv fun k hk => hr k (by simpa [AV.refs] using refsL_at hv hk)
    | dref k off len c hk h1 => exact fun hr => .dref _ _ _ _ ((hK k (hr k (by simp [AV.refs]))) ▸ hk) h1
    | dptr k i off c hk h1 => exact fun hr => .dptr _ _ _ _ ((hK k (hr k (by simp [AV.refs]))) ▸ hk) h1
    | ref k off len sz xs st b n cap hk hb hn hc hs => exact fun hr => .ref k off len sz xs st b n cap ((hK k (hr k (by simp [AV.refs]))) ▸ hk) (by rw [hβc k (hr k (by simp [AV.refs]))]; exact hb) hn hc hs
    | ref0 k off sz xs st a hk hn => exact fun hr => .ref0 k off sz xs st a ((hK k (hr k (by simp [AV.refs]))) ▸ hk) hn
    | pbox k off cs b n hk hb => exact fun hr => .pbox k off cs b n ((hK k (hr k (by simp [AV.refs]))) ▸ hk) (by rw [hβc k (hr k (by simp [AV.refs]))]; exact hb)
    | parr k i off sz xs st b n hk hb hi ho => exact fun hr => .parr k i off sz xs st b n ((hK k (hr k (by simp [AV.refs]))) ▸ hk) (by rw [hβc k (hr k (by simp [AV.refs]))]; exact hb) hi ho
  have Hc : HOK Xc (lookE h0) βc w := by
    refine ⟨fun k e he => ?_, fun k he => hβn k (hoff0 k he), fun k k' b n n' q1 q2 => HH.disj _ _ _ _ _ (hβm _ _ _ q1).2 (hβm _ _ _ q2).2, fun k b n hm hx => ?_, fun b hd => HH.lt b (hDc b hd)⟩
    · have hk := lookE_mem he
      refine (HH.ent k e ((hK k hk).trans he)).lift (hβc k hk) (fun cs hcs i v c hi hv => hclv hv fun j hj => by
        have := hclosed k e he
        rw [hcs] at this
        simpa using List.all_eq_true.1 this j (refsL_at hi hj)) fun sz xs fl hxs i x j v c hi hj => ⟨fun hf => hf.evo (Nat.le_refl _) fun b _ hd => ⟨rfl, fun h' => hd (hDc b h')⟩, fun hn hv => hclv hv fun q hq => by
        have := hclosed k e he
        rw [hxs] at this
        simp only [clE, hn, cond_true] at this
        simpa using List.all_eq_true.1 this q (refsL_at hi (refs_cells hj hq))⟩
    · obtain ⟨hk, hm⟩ := hβm k b n hm
      rcases hx with hx | ⟨_, k', n', hk', hm'⟩
      · exact HH.free k b n hm hx
      · exact hk' (HH.disj k k' b n n' hm hm' ▸ hk)
  -- the arguments
  have hargs : ∀ (i : Nat) v, (args.toList.map (opv (look st.tm)) ++ caps)[i]? = some v → RepV w (Dom X β) h β v ((args.map a.eval ++ cv).getD i undef) := fun i v hi => by
    rcases zip_get (ρ := a.eval) (opv (look st.tm)) hcvl hi with ⟨y, hy, rfl, he⟩ | ⟨j, hj, he⟩
    · rw [he]
      exact arg Ht hg (by
        simp only [Op.operands, Call.operands, Array.mem_append]
        exact .inr hy) rfl
    · rw [he]; exact hcv j v hj
  have hrefs : ∀ (i : Nat) v, (args.toList.map (opv (look st.tm)) ++ caps)[i]? = some v → ∀ k, k ∈ v.refs → k ∈ keys h0 ∨ ∀ b n, (b, n) ∈ β k → ¬ Dom Xc βc b := fun i v hi k hk => by
    by_cases hk0 : k ∈ keys h0
    · exact .inl hk0
    · refine .inr fun b n hm hd => ?_
      have hlent : lent = true := by
        cases hl : lent with
        | true => rfl
        | false =>
          simp only [lent, Bool.not_eq_false'] at hl
          have := List.all_eq_true.1 hl k (refsL_at hi hk)
          exact absurd (by simpa using this) hk0
      rcases hd with (hx | ⟨hf, _⟩) | ⟨k', n', hm'⟩
      · exact HH.free k b n hm hx
      · rw [hlent] at hf; cases hf
      · obtain ⟨q1, q2⟩ := hβm k' b n' hm'
        exact hk0 (HH.disj k k' b n n' hm q2 ▸ q1)
  have hfreq : ∀ (i : Nat) v, (args.toList.map (opv (look st.tm)) ++ caps)[i]? = some v → frz0 (keys h0) (lookE st.h) v = frz0 (keys h0) h v := by
    have main : ∀ v : AV, (∀ k, k ∈ v.refs → h k = lookE st.h k) → frz0 (keys h0) (lookE st.h) v = frz0 (keys h0) h v := by
      intro v
      refine AV.rec (motive_1 := fun v => (∀ k, k ∈ v.refs → h k = lookE st.h k) → frz0 (keys h0) (lookE st.h) v = frz0 (keys h0) h v)
        (motive_2 := fun cs => (∀ k, k ∈ refsL cs → h k = lookE st.h k) → frz0L (keys h0) (lookE st.h) cs = frz0L (keys h0) h cs) ?_ ?_ ?_ ?_ ?_ ?_ ?_ ?_ ?_ ?_ ?_ ?_ v
      · exact fun _ => rfl
      · exact fun _ _ => rfl
      · exact fun _ _ => rfl
      · exact fun cs ih hk => by simp only [frz0]; rw [ih (by simpa [AV.refs] using hk)]
      · exact fun _ _ _ _ => rfl
      · exact fun k off len hk => by simp only [frz0]; rw [hk k (by simp [AV.refs])]
      · exact fun _ _ _ _ => rfl
      · exact fun _ _ _ _ _ => rfl
      · exact fun f cs ih hk => by simp only [frz0]; rw [ih (by simpa [AV.refs] using hk)]
      · exact fun cs ih hk => by simp only [frz0]; rw [ih (by simpa [AV.refs] using hk)]
      · exact fun _ => rfl
      · exact fun v r ihv ihr hk => by
          simp only [frz0L]
          rw [ihv fun k h => hk k (by simp [refsL, h]), ihr fun k h => hk k (by simp [refsL, h])]
    exact fun i v hi => main v fun k hk => hr k (by simp [refsL_at hi hk])
  have hsim := hc.sim Xc w βc (args.map a.eval ++ cv) (by rw [← has]; simp [hcvl]) Hc (fun i v hi => by
    rw [← has, List.getElem?_map, Option.map_eq_some_iff] at hi
    obtain ⟨u, hu, rfl⟩ := hi
    unfold arg1
    rw [hfreq i u hu]
    exact (hfrz (hargs i u hu) (hrefs i u hu)).wk)
  refine Calls.mono hsim ?_
  rintro e w' ⟨c, β1, he, G, hv⟩
  refine ⟨c, he, ?_⟩
  -- what is known behind the call
  have hlive := G.lives Hc hc.nd
  let β' : Map := fun k => if (lookE h1 k).isSome then β1 k else β k
  have hb1 : ∀ k e, lookE h1 k = some e → β' k = β1 k := fun k e hk => by simp [β', hk]
  have hb2 : ∀ k, lookE h1 k = none → β' k = β k := fun k hk => by simp [β', hk]
  have hin : ∀ k, k ∈ keys h0 → ∃ e, lookE h1 k = some e := fun k hk => by
    obtain ⟨e, he⟩ := mem_lookE hk
    rcases G.key k e he with h2 | h2
    · exact ⟨_, h2⟩
    · cases e with
      | dead => exact h2.elim
      | box cs => exact ⟨_, h2.1.choose_spec⟩
      | arr sz xs st => obtain ⟨xs', st', h3, _⟩ := h2.1; exact ⟨_, h3⟩
  have hnew : ∀ k e, lookE h1 k = some e → ¬ k ∈ keys h0 → h k = none := fun k e hk hk0 => hn k (by
    simp only [List.mem_filter, Bool.not_eq_true', List.contains_eq_mem, decide_eq_false_iff_not]
    exact ⟨lookE_mem hk, hk0⟩)
  have ov1 : ∀ k e, lookE h1 k = some e → over h1 h k = some e := fun k e hk => by simp [over, hk]
  have ov2 : ∀ k, lookE h1 k = none → over h1 h k = h k := fun k hk => by simp [over, hk]
  have hβ' : ∀ k b n, (b, n) ∈ β' k → ((∃ e, lookE h1 k = some e) ∧ (b, n) ∈ β1 k) ∨ (lookE h1 k = none ∧ ¬ k ∈ keys h0 ∧ (b, n) ∈ β k) := fun k b n hm => by
    cases hk : lookE h1 k with
    | none => rw [hb2 k hk] at hm; exact .inr ⟨rfl, (fun h2 => by obtain ⟨e, he⟩ := hin k h2; rw [hk] at he; cases he), hm⟩
    | some e => rw [hb1 k e hk] at hm; exact .inl ⟨⟨e, rfl⟩, hm⟩
  have own1 : ∀ k b n, (b, n) ∈ β1 k → (∃ k' n', k' ∈ keys h0 ∧ (b, n') ∈ β k') ∨ w.heap.size ≤ b := fun k b n hm => by
    rcases G.own k b n hm with ⟨k', n', h2⟩ | h2
    · obtain ⟨q1, q2⟩ := hβm k' b n' h2; exact .inl ⟨k', n', q1, q2⟩
    · exact .inr h2
  have keepK : ∀ b, b < w.heap.size → (∀ k n, k ∈ keys h0 → (b, n) ∉ β k) → w'.heap[b]? = w.heap[b]? := fun b hb hk => G.keep b hb fun k n hm => by
    obtain ⟨q1, q2⟩ := hβm k b n hm; exact hk k n q1 q2
  have keepO : ∀ k b n, ¬ k ∈ keys h0 → (b, n) ∈ β k → w'.heap[b]? = w.heap[b]? := fun k b n hk hm => keepK b (HH.lt b (.inr ⟨k, n, hm⟩)) fun k' n' hk' hm' => hk (HH.disj k k' b n n' hm hm' ▸ hk')
  have bs' : ∀ k b n, (b, n) ∈ β k → bsize w' b = bsize w b := fun k b n hm => by
    by_cases hk : k ∈ keys h0
    · exact G.bs k b n (by rw [hβc k hk]; exact hm)
    · unfold bsize World.shape?; rw [keepO k b n hk hm]
  have key' : ∀ k e, h k = some e → over h1 h k = some .dead ∨ match e with
      | .dead => False
      | .box _ => (∃ cs', over h1 h k = some (.box cs')) ∧ ∀ b n, (b, n) ∈ β k → (b, n) ∈ β' k
      | .arr sz xs _ => (∃ xs' st', over h1 h k = some (.arr sz xs' st') ∧ xs.length ≤ xs'.length) ∧ ∀ b n, (b, n) ∈ β k → ∃ n', n ≤ n' ∧ (b, n') ∈ β' k := fun k e he => by
    by_cases hk : k ∈ keys h0
    · have he0 := (hK k hk) ▸ he
      have := G.key k e he0
      obtain ⟨e1, he1⟩ := hin k hk
      rw [he1] at this
      rw [ov1 k e1 he1, hb1 k e1 he1, ← hβc k hk]
      exact this
    · have hno : lookE h1 k = none := by
        cases h2 : lookE h1 k with
        | none => rfl
        | some e1 => rw [hnew k e1 h2 hk] at he; cases he
      rw [ov2 k hno, hb2 k hno]
      exact keyRefl h β k e he
  have own' : ∀ k b n, (b, n) ∈ β' k → (∃ k' n', (b, n') ∈ β k') ∨ w.heap.size ≤ b := fun k b n hm => by
    rcases hβ' k b n hm with ⟨_, h2⟩ | ⟨_, _, h2⟩
    · rcases own1 k b n h2 with ⟨k', n', _, h3⟩ | h3
      · exact .inl ⟨k', n', h3⟩
      · exact .inr h3
    · exact .inl ⟨k, n, h2⟩
  have keep' : ∀ b, b < w.heap.size → (∀ k n, (b, n) ∉ β k) → w'.heap[b]? = w.heap[b]? := fun b hb hk => keepK b hb fun k n _ => hk k n
  have E : Evo w (Dom X β) h β w' (Dom X β') (over h1 h) β' := by
    refine ⟨G.size, fun b hb hd => ?_, bs', key'⟩
    have q1 : ∀ k n, (b, n) ∉ β k := fun k n hm => hd (.inr ⟨k, n, hm⟩)
    refine ⟨keep' b hb q1, ?_⟩
    rintro (hx | ⟨k, n, hm⟩)
    · exact hd (.inl hx)
    · rcases own' k b n hm with ⟨k', n', h2⟩ | h2
      · exact q1 _ _ h2
      · omega
  have hup : ∀ k e, lookE h1 k = some e → over h1 h k = some e ∧ β' k = β1 k := fun k e hk => ⟨ov1 k e hk, hb1 k e hk⟩
  -- who owns what, if nothing was lent
  have hDl : lent = false → ∀ b, Dom X β' b → Dom Xc β1 b := fun hl b hd => by
    rcases hd with hx | ⟨k, n, hm⟩
    · exact .inl (.inl hx)
    · rcases hβ' k b n hm with ⟨_, h2⟩ | ⟨_, h2, h3⟩
      · exact .inr ⟨k, n, h2⟩
      · exact .inl (.inr ⟨hl, k, n, h2, h3⟩)
  have hcase : lent = false ∨ (r.nosl = true ∧ noslH h1 = true) := by
    rw [Bool.or_eq_true] at hnb
    rcases hnb with h2 | h2
    · left; show (!(_ : Bool)) = false; rw [h2]; rfl
    · right; simpa using h2
  have hliftV : ∀ {v c}, (lent = false ∨ v.nosl = true) → RepV w' (Dom Xc β1) (lookE h1) β1 v c → RepV w' (Dom X β') (over h1 h) β' v c := fun hl hv => by
    rcases hl with hl | hl
    · exact lift_rep (h' := over h1 h) hup (fun b hd _ => .inl (hDl hl b hd)) hv
    · exact lift_nosl hup hv hl
  have hliftF : ∀ {v c}, (lent = false ∨ v.nosl = true) → RepF w' (Dom Xc β1) v c → RepF w' (Dom X β') v c := fun hl hv => by
    rcases hl with hl | hl
    · exact hv.evo (Nat.le_refl _) fun b _ hd => ⟨rfl, fun h' => hd (hDl hl b h')⟩
    · exact hv.free hl
  have HK : HOK X (over h1 h) β' w' := by
    refine ⟨fun k e he => ?_, fun k he => ?_, fun k k' b n n' q1 q2 => ?_, fun k b n hm hx => ?_, fun b hd => ?_⟩
    · cases hk : lookE h1 k with
      | none =>
        rw [ov2 k hk] at he
        have hk0 : ¬ k ∈ keys h0 := fun h2 => by obtain ⟨e1, he1⟩ := hin k h2; rw [hk] at he1; cases he1
        exact (HH.ent k e he).evo E (hb2 k hk) fun b n hm => keepO k b n hk0 hm
      | some e1 =>
        rw [ov1 k e1 hk] at he
        obtain rfl := Option.some.inj he
        have hns : lent = false ∨ e1.nosl = true := hcase.imp id fun h2 => noslH_at h2.2 hk
        refine (G.hok.ent k e1 hk).lift (hb1 k e1 hk) (fun cs hcs i v c hi hv => hliftV (hns.imp id fun h2 => noslL_at (by rw [hcs] at h2; exact h2) hi) hv) fun sz xs st hxs i x j v c hi hj => by
          have hns' : lent = false ∨ v.nosl = true := hns.imp id fun h2 => by
            have hxn : x.nosl = true := noslL_at (by rw [hxs] at h2; exact h2) hi
            cases x <;> first
              | (simp [AV.cells] at hj; cases j <;> simp at hj; subst hj; exact hxn)
              | (exact noslL_at (by simpa [AV.nosl, AV.cells] using hxn) hj)
          exact ⟨fun hf => hliftF hns' hf, fun _ hv => hliftV hns' hv⟩
    · cases hk : lookE h1 k with
      | none => rw [ov2 k hk] at he; rw [hb2 k hk]; exact HH.off k he
      | some e1 => rw [ov1 k e1 hk] at he; cases he
    · rcases hβ' k b n q1 with ⟨_, h2⟩ | ⟨_, h2, h3⟩ <;> rcases hβ' k' b n' q2 with ⟨_, h4⟩ | ⟨_, h4, h5⟩
      · exact G.hok.disj _ _ _ _ _ h2 h4
      · rcases own1 k b n h2 with ⟨j, m, hj, hm⟩ | h6
        · exact absurd (HH.disj j k' b m n' hm h5 ▸ hj) h4
        · have := HH.lt b (.inr ⟨k', n', h5⟩); omega
      · rcases own1 k' b n' h4 with ⟨j, m, hj, hm⟩ | h6
        · exact absurd (HH.disj j k b m n hm h3 ▸ hj) h2
        · have := HH.lt b (.inr ⟨k, n, h3⟩); omega
      · exact HH.disj _ _ _ _ _ h3 h5
    · rcases hβ' k b n hm with ⟨_, h2⟩ | ⟨_, _, h3⟩
      · exact G.hok.free k b n h2 (.inl hx)
      · exact HH.free k b n h3 hx
    · rcases hd with hx | ⟨k, n, hm⟩
      · exact Nat.lt_of_lt_of_le (HH.lt b (.inl hx)) G.size
      · rcases hβ' k b n hm with ⟨_, h2⟩ | ⟨_, _, h3⟩
        · exact G.hok.lt b (.inr ⟨k, n, h2⟩)
        · exact Nat.lt_of_lt_of_le (HH.lt b (.inr ⟨k, n, h3⟩)) G.size
  exact ⟨β', ⟨G.size, keep', own', bs', key', HK, G.os, G.tape, G.output⟩, hliftV (hcase.imp id (·.1)) hv⟩
end
end Av
end Go.Proofs.Ytianonghhmiooaa
/- Abstract values: a function's contract out of its body; operations one by one. -/
namespace Go.Proofs.Ytianonghhmiooaa
namespace Av
set_option linter.unusedSimpArgs false
set_option linter.unusedVariables false

section ops
variable {P : Program} {K0 : List Nat} {F : Fr K0} {m : Nat} {ops : Array Oper} {rest : List Oper} {Q : St → Prop} {tm : List (Nat × AV)} {h : List (Nat × Ent)}
theorem ops_nil {st : St} (hq : Q st) : Ops P F m ops [] st Q := fun _ _ H => ⟨rfl, st, hq, H⟩
theorem ops_step {o : Oper} {st : St} {v : AV} {d : List (Nat × Ent)} {r nw : List Nat} {st' : St} (hg : o.guard = none) (hs : Stp P st o.op v d r nw) (hn : ∀ k, k ∈ nw → lookE st.h k = none) (hd : noDead d = true) (hm : ∀ t, o.dst = some t → t < m)
    (he : ∀ t, look st'.tm t = if o.dst = some t then v else look st.tm t) (hh : lookE st'.h = over d (lookE st.h)) (hk : Ops P F m ops rest st' Q) : Ops P F m ops (o :: rest) st Q := fun a w H =>
  wpListIn_plain hg fun K hK => hs.rel H (fun _ _ => rfl) (fun _ _ => rfl) hn hd hm fun a' w' H' => hK _ _ (hk a' w' (by
    have e1 : look st'.tm = fun t => if o.dst = some t then v else look st.tm t := funext he
    unfold RelS
    rw [e1, hh]
    exact H'))
section
variable {op : Op} {ty : Nat} {pos : String} {after : Array Edge} {t : Nat} {v : AV} {r nw : List Nat}
/-- A value. -/
theorem ops_q (hs : Stp P ⟨tm, h⟩ op v [] r []) (hm : Nat.blt t m = true) (hk : Ops P F m ops rest ⟨(t, v) :: tm, h⟩ Q) : Ops P F m ops (⟨some t, op, ty, pos, after, none⟩ :: rest) ⟨tm, h⟩ Q :=
  ops_step (st' := ⟨(t, v) :: tm, h⟩) rfl hs (by simp) rfl (fun j hj => by cases hj; exact Nat.le_of_ble_eq_true hm) (fun j => by rw [look_cons]; simp [eq_comm]) rfl hk
/-- A value, and one key that is written. -/
theorem ops_w {k : Nat} {e : Ent} (hs : Stp P ⟨tm, h⟩ op v [(k, e)] r nw) (hm : Nat.blt t m = true) (hn : nw.all (fun j => (lookE h j).isNone) = true) (hd : noDead [(k, e)] = true) (hk : Ops P F m ops rest ⟨(t, v) :: tm, (k, e) :: h⟩ Q) :
    Ops P F m ops (⟨some t, op, ty, pos, after, none⟩ :: rest) ⟨tm, h⟩ Q :=
  ops_step rfl hs (fun j hj => by have := List.all_eq_true.1 hn j hj; simpa using this) hd (fun j hj => by cases hj; exact Nat.le_of_ble_eq_true hm) (fun j => by rw [look_cons]; simp [eq_comm]) (lookE_append [(k, e)] h) hk
/-- A store. -/
theorem ops_s {k : Nat} {e : Ent} (hs : Stp P ⟨tm, h⟩ op v [(k, e)] r nw) (hn : nw.all (fun j => (lookE h j).isNone) = true) (hd : noDead [(k, e)] = true) (hk : Ops P F m ops rest ⟨tm, (k, e) :: h⟩ Q) : Ops P F m ops (⟨none, op, ty, pos, after, none⟩ :: rest) ⟨tm, h⟩ Q :=
  ops_step rfl hs (fun j hj => by have := List.all_eq_true.1 hn j hj; simpa using this) hd (fun j hj => by cases hj) (fun j => by simp) (lookE_append [(k, e)] h) hk
/-- A value, and what is written. -/
theorem ops_d {d : List (Nat × Ent)} (hs : Stp P ⟨tm, h⟩ op v d r nw) (hm : Nat.blt t m = true) (hn : nw.all (fun j => (lookE h j).isNone) = true) (hd : noDead d = true) (hk : Ops P F m ops rest ⟨(t, v) :: tm, d ++ h⟩ Q) :
    Ops P F m ops (⟨some t, op, ty, pos, after, none⟩ :: rest) ⟨tm, h⟩ Q :=
  ops_step rfl hs (fun j hj => by have := List.all_eq_true.1 hn j hj; simpa using this) hd (fun j hj => by cases hj; exact Nat.le_of_ble_eq_true hm) (fun j => by rw [look_cons]; simp [eq_comm]) (lookE_append d h) hk
/-- No value, and what is written. -/
theorem ops_d0 {d : List (Nat × Ent)} (hs : Stp P ⟨tm, h⟩ op v d r nw) (hn : nw.all (fun j => (lookE h j).isNone) = true) (hd : noDead d = true) (hk : Ops P F m ops rest ⟨tm, d ++ h⟩ Q) :
    Ops P F m ops (⟨none, op, ty, pos, after, none⟩ :: rest) ⟨tm, h⟩ Q :=
  ops_step rfl hs (fun j hj => by have := List.all_eq_true.1 hn j hj; simpa using this) hd (fun j hj => by cases hj) (fun j => by simp) (lookE_append d h) hk
end
/-- The guard's slot. -/
def gslot (ops : Array Oper) (j : Nat) : Option Nat := (ops[j]?).bind (·.dst)
/-- Is the guard's value the one that is wanted? -/
def gw (v : Value) (b : Bool) : Bool := match v with
  | .bool c => c == b
  | _ => false
theorem guard_wanted {o : Oper} {j t : Nat} {b : Bool} {v : Value} (hg : o.guard = some (j, b)) (ht : gslot ops j = some t) {a : Act} (hv : a.eval (.tmp t) = v) : Region.wanted o (yielded ops a.tmps) = gw v b := by
  subst hv
  simp only [Region.wanted, hg, yielded, show (ops[j]?).bind (·.dst) = some t from ht, Option.bind_some, Act.eval, Array.getD_eq_getD_getElem?]
  cases h : a.tmps[t]? with
  | none => simp [undef, gw]
  | some u => cases u <;> simp [gw]
theorem slot_val {st : St} {a : Act} {w : World} (H : RelS F m st a w) {t : Nat} {c : Value} (hv : look st.tm t = .s c) : a.eval (.tmp t) = c := by
  obtain ⟨⟨_, β, _, _, Ht, _⟩, _⟩ := H
  have := Ht t
  rw [hv] at this
  exact this.s_inv
theorem ops_on {d : Option Nat} {op : Op} {ty : Nat} {pos : String} {after : Array Edge} {j t : Nat} {b : Bool} {st : St} (ht : gslot ops j = some t) (hv : look st.tm t = .s (.bool b)) (hk : Ops P F m ops (⟨d, op, ty, pos, after, none⟩ :: rest) st Q) :
    Ops P F m ops (⟨d, op, ty, pos, after, some (j, b)⟩ :: rest) st Q := fun a w H => by
  have hw := guard_wanted (o := ⟨d, op, ty, pos, after, some (j, b)⟩) rfl ht (slot_val H hv)
  have := hk a w H
  unfold wpListIn at this ⊢
  rw [if_pos (by rw [hw]; simp [gw])]
  rw [if_pos (by simp [Region.wanted])] at this
  exact this
theorem Rel.bot {tm : Nat → AV} {h : Heap} {a : Act} {w : World} (H : Rel F m tm h a w) (dst : Option Nat) (hm : ∀ t, dst = some t → t < m) : Rel F m (fun t => if dst = some t then .s undef else tm t) h (a.put dst undef) w := by
  obtain ⟨⟨X, β, hX, HH, Ht, KK, hJ, hD⟩, nd, gs, hl⟩ := H
  exact Rel.put hX HH Ht KK hJ hD gs hl (Goes.refl HH) nd (.fz _ _ (.s _)) dst hm
theorem ops_off {d : Nat} {op : Op} {ty : Nat} {pos : String} {after : Array Edge} {j t : Nat} {b : Bool} {c : Value} (ht : gslot ops j = some t) (hv : look tm t = .s c) (hc : gw c b = false) (hm : Nat.blt d m = true) (hk : Ops P F m ops rest ⟨(d, .s undef) :: tm, h⟩ Q) :
    Ops P F m ops (⟨some d, op, ty, pos, after, some (j, b)⟩ :: rest) ⟨tm, h⟩ Q := fun a w H => by
  have hw := guard_wanted (o := ⟨some d, op, ty, pos, after, some (j, b)⟩) rfl ht (slot_val H hv)
  unfold wpListIn
  rw [if_neg (by rw [hw, hc]; simp)]
  refine ⟨fun _ _ => trivial, hk _ _ ?_⟩
  have := Rel.bot H (some d) (fun j hj => by cases hj; exact Nat.le_of_ble_eq_true hm)
  have e1 : look ((d, .s undef) :: tm) = fun t => if some d = some t then AV.s undef else look tm t := funext fun t => by rw [look_cons]; simp [eq_comm]
  unfold RelS
  rw [e1]
  exact this
/-- A slot's bool, told outright. -/
theorem ops_tell {st : St} {l : List Oper} {t : Nat} {c c' : Bool} (hv : look st.tm t = .s (.bool c)) (hc : c = c') (hk : Ops P F m ops l ⟨(t, .s (.bool c')) :: st.tm, st.h⟩ Q) : Ops P F m ops l st Q := fun a w H => hk a w (by
  subst hc
  have e1 : look ((t, .s (.bool c)) :: st.tm) = look st.tm := funext fun j => by
    rw [look_cons]
    split
    · rename_i h; subst h; exact hv.symm
    · rfl
  unfold RelS
  dsimp only
  rw [e1]
  exact H)
theorem ops_split {st : St} {l : List Oper} {t : Nat} {c : Bool} (hv : look st.tm t = .s (.bool c)) (h1 : c = true → Ops P F m ops l ⟨(t, .s (.bool true)) :: st.tm, st.h⟩ Q) (h2 : c = false → Ops P F m ops l ⟨(t, .s (.bool false)) :: st.tm, st.h⟩ Q) : Ops P F m ops l st Q := by
  cases c with
  | true => exact ops_tell hv rfl (h1 rfl)
  | false => exact ops_tell hv rfl (h2 rfl)
end ops

section code
variable {P : Program} {K0 : List Nat} {F : Fr K0} {m : Nat} {Q : Exit → St → Prop} {st : St}
/-- Let go of all but some. -/
theorem sim_restr {c : Code} (K ts : List Nat) (hK : K0.all (K.contains ·) = true) {st' : St} (he : restr K ts st = st') (h : Sim P F m c st' Q) : Sim P F m c st Q := ⟨fun a w H => h.run a w (he ▸ RelS.restr H K ts hK)⟩
/-- A loop, at whose head all but some is let go. -/
theorem sim_loop_r {c : Code} (I : Nat → St → Prop) (n : Nat) (K ts : List Nat) (hK : K0.all (K.contains ·) = true) (h0 : I n (restr K ts st)) (round : ∀ n st, I n st → Sim P F m c st (fun e s => match e with
    | .normal => ∃ n', n' < n ∧ I n' (restr K ts s)
    | e => Q e s)) : Sim P F m (.loop c) st Q := by
  refine sim_restr K ts hK rfl ⟨fun a w H => ?_⟩
  refine wpIn_loop_ghost (fun n a w => ∃ st, I n st ∧ RelS F m st a w) n ⟨_, h0, H⟩ fun n a w ⟨st, hI, hR⟩ => ?_
  refine Code.wpIn_mono (fun e a' w' ⟨s, h1, h2⟩ => ?_) ((round n st hI).run a w hR)
  cases e with
  | normal =>
    obtain ⟨n', hlt, hI'⟩ := h1
    exact ⟨n', hlt, _, hI', RelS.restr h2 K ts hK⟩
  | _ => exact ⟨s, h1, h2⟩
theorem sim_mono_st {c : Code} {Q' : Exit → St → Prop} (h : Sim P F m c st Q') (hq : ∀ e s, Q' e s → Q e s) : Sim P F m c st Q := h.mono hq
end code

/-- What a function returns. -/
def retv (TT : List TI) (st : St) : List ResultVar → Option (List AV)
  | [] => some []
  | .tmp t :: r => (retv TT st r).map (look st.tm t :: ·)
  | .cell a T :: r => match look st.tm a with
    | .ptr k 0 off => match lookE st.h k, TT[T]? with
      | some (.box cs), some ti => match ldv ti.d.agg ti.size cs off with
        | some v => (retv TT st r).map (v :: ·)
        | none => none
      | _, _ => none
    | _ => none
def ret1 : List AV → AV
  | [v] => v
  | vs => .tup vs
def resF (tmps : Array Value) : ResultVar → Sem Value
  | .tmp t => pure (tmps.getD t undef)
  | .cell b t => do loadVar t (← asAddr (tmps.getD b undef))
theorem retv_run {P : Program} {TT : List TI} (hP : TOK P TT) {st : St} {X : Nat → Prop} {β : Map} {w : World} {a : Act} (H : HOK X (lookE st.h) β w) (Ht : ∀ t, RepV w (Dom X β) (lookE st.h) β (look st.tm t) (a.eval (.tmp t))) :
    ∀ (l : List ResultVar) (vs : List AV), retv TT st l = some vs → ∃ cs : List Value, (l.mapM (resF a.tmps)).run P w = .ok cs w ∧ cs.length = vs.length ∧
      ∀ (i : Nat) v, vs[i]? = some v → RepV w (Dom X β) (lookE st.h) β v (cs.getD i undef)
  | [], vs, h => by cases h; exact ⟨[], rfl, rfl, fun i v hv => by simp at hv⟩
  | .tmp t :: r, vs, h => by
    simp only [retv, Option.map_eq_some_iff] at h
    obtain ⟨vs', h1, rfl⟩ := h
    obtain ⟨cs, h2, h3, h4⟩ := retv_run hP H Ht r vs' h1
    refine ⟨a.tmps.getD t undef :: cs, by simp only [List.mapM_cons, resF, Sem.run_bind, Sem.run_pure, Result.andThen_ok, h2], by simp [h3], fun i v hv => ?_⟩
    cases i with
    | zero => simp at hv; subst hv; exact Ht t
    | succ i => simpa using h4 i v (by simpa using hv)
  | .cell b T :: r, vs, h => by
    simp only [retv] at h
    split at h
    · rename_i k off hb
      split at h
      · rename_i cs ti hk hT
        split at h
        · rename_i v hv
          rw [Option.map_eq_some_iff] at h
          obtain ⟨vs', h1, rfl⟩ := h
          obtain ⟨cs', h2, h3, h4⟩ := retv_run hP H Ht r vs' h1
          have hp := Ht b
          rw [hb] at hp
          obtain ⟨bl, hc, _, hR⟩ := row_box H hk hp
          obtain ⟨c, h5, h6⟩ := run_ld hP hT hR hv
          rw [Nat.zero_add] at h5
          have hc' : a.tmps.getD b undef = .pointer (some ⟨bl, off, none⟩) := hc
          refine ⟨c :: cs', by simp only [List.mapM_cons, resF, Sem.run_bind, hc', asAddr, Sem.run_pure, Result.andThen_ok, h5, h2], by simp [h3], fun i v hv => ?_⟩
          cases i with
          | zero => simp at hv; subst hv; exact h6
          | succ i => simpa using h4 i v (by simpa using hv)
        · cases h
      · cases h
    · cases h

def argTm : Nat → List AV → List (Nat × AV)
  | _, [] => []
  | i, v :: r => (i, v) :: argTm (i + 1) r
theorem look_argTm : ∀ (l : List AV) (i t : Nat), look (argTm i l) t = if i ≤ t then l.getD (t - i) .bot else .bot
  | [], i, t => by simp [argTm, look]
  | v :: r, i, t => by
    rw [argTm, look_cons, look_argTm r]
    by_cases h : t = i
    · subst h; simp
    · rw [if_neg h]
      by_cases h2 : i ≤ t
      · rw [if_pos h2, if_pos (by omega), show t - i = (t - (i + 1)) + 1 by omega]; simp
      · rw [if_neg h2, if_neg (by omega)]

/-- A function's end. -/
def Fin (TT : List TI) (rs : List ResultVar) (h0 : List (Nat × Ent)) (r : AV) (h1 : List (Nat × Ent)) (e : Exit) (st : St) : Prop :=
  (e = .normal ∨ e = .ret) ∧ ∃ vs K, retv TT st rs = some vs ∧ (keys h0).all (K.contains ·) = true ∧ (r = frzV K (lookE st.h) (ret1 vs) ∨ r = wkV (frzV K (lookE st.h) (ret1 vs))) ∧ lookE h1 = lookE (restrH K (lookE st.h))
theorem fin_ret {TT : List TI} {rs : List ResultVar} {h0 : List (Nat × Ent)} {r : AV} {h1 : List (Nat × Ent)} {st : St} {vs : List AV} (K : List Nat) (h : retv TT st rs = some vs) (hK : (keys h0).all (K.contains ·) = true) (hr : wkV (frzV K (lookE st.h) (ret1 vs)) = r) (hh : restrH K (lookE st.h) = h1) :
    Fin TT rs h0 r h1 .ret st := ⟨.inr rfl, vs, K, h, hK, .inr hr.symm, by rw [hh]⟩
theorem fin_own {TT : List TI} {rs : List ResultVar} {h0 : List (Nat × Ent)} {r : AV} {h1 : List (Nat × Ent)} {st : St} {vs : List AV} (K : List Nat) (h : retv TT st rs = some vs) (hK : (keys h0).all (K.contains ·) = true) (hr : frzV K (lookE st.h) (ret1 vs) = r) (hh : restrH K (lookE st.h) = h1) :
    Fin TT rs h0 r h1 .ret st := ⟨.inr rfl, vs, K, h, hK, .inl hr.symm, by rw [hh]⟩

/-- Weaker: fewer blocks are others'. -/
theorem RepF.less {w : World} {D D' : Nat → Prop} (h : ∀ b, D' b → D b) {v : AV} {c : Value} (hv : RepF w D v c) : RepF w D' v c :=
  hv.evo (Nat.le_refl _) fun b _ hd => ⟨rfl, fun h' => hd (h b h')⟩
theorem RepV.less {w : World} {X X' : Nat → Prop} {h : Heap} {β : Map} (hX : ∀ b, X' b → X b) {v : AV} {c : Value} (hv : RepV w (Dom X β) h β v c) : RepV w (Dom X' β) h β v c :=
  hv.evo ⟨Nat.le_refl _, fun b _ hd => ⟨rfl, fun h' => hd (h'.imp (hX b) id)⟩, fun _ _ _ _ => rfl, keyRefl h β⟩
theorem HOK.less {w : World} {X X' : Nat → Prop} {h : Heap} {β : Map} (hX : ∀ b, X' b → X b) (H : HOK X h β w) : HOK X' h β w :=
  ⟨fun k e he => (H.ent k e he).evo ⟨Nat.le_refl _, fun b _ hd => ⟨rfl, fun h' => hd (h'.imp (hX b) id)⟩, fun _ _ _ _ => rfl, keyRefl h β⟩ rfl fun _ _ _ => rfl, H.off, H.disj, fun k b n hm hx => H.free k b n hm (hX b hx), fun b hd => H.lt b (hd.imp (hX b) id)⟩
/-- Blocks of others turn. -/
theorem turnEvo {w w' : World} {X : Nat → Prop} {h : Heap} {β : Map} (H : HOK X h β w) (hs : w.heap.size ≤ w'.heap.size) (hk : ∀ b, b < w.heap.size → ¬ X b → w'.heap[b]? = w.heap[b]?) : Evo w (Dom X β) h β w' (Dom X β) h β :=
  ⟨hs, fun b hb hd => ⟨hk b hb fun hx => hd (.inl hx), hd⟩, fun k b n hm => by
    unfold bsize World.shape?
    rw [hk b (H.lt b (.inr ⟨k, n, hm⟩)) (H.free k b n hm)], keyRefl h β⟩
theorem HOK.turn {w w' : World} {X : Nat → Prop} {h : Heap} {β : Map} (H : HOK X h β w) (hs : w.heap.size ≤ w'.heap.size) (hk : ∀ b, b < w.heap.size → ¬ X b → w'.heap[b]? = w.heap[b]?) : HOK X h β w' :=
  ⟨fun k e he => (H.ent k e he).evo (turnEvo H hs hk) rfl fun b n hm => hk b (H.lt b (.inr ⟨k, n, hm⟩)) (H.free k b n hm), H.off, H.disj, H.free, fun b hd => Nat.lt_of_lt_of_le (H.lt b hd) hs⟩
/-- The marks are come to. -/
theorem leaves_marks {P : Program} {fn : Func} {tmps : Array Value} {R : Ending → World → Prop} : ∀ (bs : List Nat) (w : World), bs.Nodup → (∀ b, b ∈ bs → w.heap[b]? = some (.deferred (some []))) →
    (∀ w', w'.heap.size = w.heap.size → (∀ b, ¬ b ∈ bs → w'.heap[b]? = w.heap[b]?) → w'.os = w.os → w'.tape = w.tape → w'.output = w.output → ∃ v, (results fn tmps).run P w' = .ok v w' ∧ R (.returned v) w') →
    LeavesInM Fence.wide 0 P fn tmps R (bs.map fun b => { target := .collected b, args := #[] }) .returning w
  | [], w, _, _, h => h w rfl (fun _ _ => rfl) rfl rfl rfl
  | b :: bs, w, hn, hb, h => by
    have hn' := List.nodup_cons.1 hn
    refine ⟨by simp, .inl ⟨b, w.putObj b (.deferred none), rfl, run_takeDeferred (hb b (by simp)), leaves_marks bs _ hn'.2 (fun c hc => ?_) (fun w' h1 h2 h3 h4 h5 => ?_)⟩⟩
    · rw [World.putObj_heap_other (show c ≠ b from fun e => hn'.1 (by rw [← e]; exact hc))]
      exact hb c (by simp [hc])
    · refine h w' (by rw [h1]; simp) (fun c hc => ?_) h3 h4 h5
      simp at hc
      rw [h2 c hc.2, World.putObj_heap_other hc.1]
theorem callSim_of {P : Program} {TT : List TI} (hP : TOK P TT) {f : Nat} {fn : Func} {body : Code} {args : List AV} {h0 : List (Nat × Ent)} {r : AV} {h1 : List (Nat × Ent)} (hf : P.funcs[f]? = some fn) (hb : fn.body = some body) (able : Callable P f) (hlen : Nat.ble args.length fn.ntmps = true)
    (hnd : noDead h0 = true) (hnd1 : noDead h1 = true) (h : ∀ F : Fr (keys h0), F.ro = none ∧ F.it = false → Sim P F fn.ntmps body ⟨argTm 0 args, h0⟩ (Fin TT fn.results.toList h0 r h1)) (hgs : Nat.ble fn.ntmps GS = true := by rfl) : CallSim P f args h0 r h1 := by
  refine ⟨able, fun k => noDead_at hnd1, fun X w β cargs hcl H hargs => (callsIn_wide (n := 0)).1 ?_⟩
  have hlen := Nat.le_of_ble_eq_true hlen
  let F : Fr (keys h0) := ⟨X, w, β, lookE h0, fun k b n hm => by
    cases hk : lookE h0 k with
    | none => rw [H.off k hk] at hm; simp at hm
    | some e => exact lookE_mem hk, fun k e he => lookE_mem he, none, false, fun _ => False, fun _ _ _ _ => True, fun _ _ _ _ _ _ _ _ _ _ _ _ _ _ => trivial⟩
  refine callsIn_of_wp_marks (F := Fence.wide) (n := 0) hf hb trivial (Code.wpIn_mono (fun e a' w1 q => ?_) ((h F ⟨rfl, rfl⟩).run _ w ⟨⟨X, β, ⟨fun _ h => h, fun _ h => .inl h⟩, H, fun t => ?_, ⟨fun k e he => ?_, Nat.le_refl _, fun _ _ _ _ => rfl, fun k b n hm => .inl ⟨k, n, hm⟩, fun k b n hm => ⟨n, Nat.le_refl _, hm⟩, fun _ _ _ _ => rfl, rfl, rfl, rfl⟩, fun _ _ => trivial, [], rfl, fun _ => rfl, List.nodup_nil, fun b hb => by simp at hb⟩, fun k => noDead_at hnd, Nat.le_of_ble_eq_true hgs, by simp; omega⟩)) rfl
  · obtain ⟨st, ⟨he, vs, K, hv, hK, hr, hh⟩, R⟩ := q
    obtain ⟨⟨X2, β2, ⟨hX2, _⟩, H2', Ht2', KK', _, bs, hds, _, hbn, hbs⟩, nd2, _, hl2⟩ := R
    have goal : LeavesInM Fence.wide 0 P fn a'.tmps (fun e w' => ∃ c β', e = .returned c ∧ Goes X w (lookE h0) β w' (lookE h1) β' ∧ RepV w' (Dom X β') (lookE h1) β' r c) a'.defers .returning w1 := by
     rw [hds]
     refine leaves_marks bs w1 hbn (fun b hb => (hbs b hb).2.2) fun w' sz kp o1 o2 o3 => ?_
     have kp' : ∀ b, b < w1.heap.size → ¬ X2 b → w'.heap[b]? = w1.heap[b]? := fun b _ hx => kp b fun hm => hx (hbs b hm).1
     have H2 := H2'.turn (Nat.le_of_eq sz.symm) kp'
     have Ht2 := fun t => (Ht2' t).evo (turnEvo H2' (Nat.le_of_eq sz.symm) kp')
     have KK : Keep F (lookE st.h) β2 w' := ⟨KK'.knd, by rw [sz]; exact KK'.size, fun b hb hi hn => by rw [kp b fun hm => by have := (hbs b hm).2.1; omega]; exact KK'.keep b hb hi hn, KK'.own, KK'.pas, fun k b n hm => by
      rw [← KK'.bs k b n hm]
      obtain ⟨n', _, hm'⟩ := KK'.pas k b n hm
      unfold bsize World.shape?
      rw [kp' b (H2'.lt b (.inr ⟨k, n', hm'⟩)) (H2'.free k b n' hm')], o1.trans KK'.os, o2.trans KK'.tape, o3.trans KK'.output⟩
     obtain ⟨cs, q1, q2, q3⟩ := retv_run hP H2 Ht2 _ _ hv
     obtain ⟨H3', hv3'⟩ := H2.restr K
     have H3 := H3'.less hX2
     have hv3 := fun v c hv => (hv3' v c hv).less hX2
     have hrun : ∃ c, (results fn a'.tmps).run P w' = .ok c w' ∧ RepV w' (Dom X2 β2) (lookE st.h) β2 (ret1 vs) c := by
       have hm : (fn.results.mapM (resF a'.tmps)).run P w' = .ok cs.toArray w' := by
         rw [← Array.toArray_toList (xs := fn.results), List.mapM_toArray]
         simp only [Sem.run_map, q1, Result.andThen_ok]
       have hres : (results fn a'.tmps).run P w' = .ok (if h : cs.toArray.size = 1 then cs.toArray[0] else .tuple cs.toArray) w' := by
         show (fn.results.mapM (resF a'.tmps) >>= fun vs => pure (if h : vs.size = 1 then vs[0] else .tuple vs)).run P w' = _
         rw [Sem.run_bind, hm]
         rfl
       refine ⟨_, hres, ?_⟩
       by_cases h1 : cs.length = 1
       · rw [dif_pos (by simpa using h1)]
         match cs, vs, h1, q2, q3 with
         | [c], [v], _, _, q3 => exact q3 0 v rfl
       · rw [dif_neg (by simpa using h1)]
         have hvs : ret1 vs = .tup vs := by
           match vs, q2 with
           | [], _ => rfl
           | [v], q2 => exact absurd q2 h1
           | _ :: _ :: _, _ => rfl
         rw [hvs]
         exact .tup vs _ (by simpa using q2) fun i v hi => by simpa [List.getD] using q3 i v hi
     obtain ⟨c, hc1, hc2⟩ := hrun
     have hpost : ∃ c β', Ending.returned c = .returned c ∧ (results fn a'.tmps).run P w' = .ok c w' ∧ Goes X w (lookE h0) β w' (lookE h1) β' ∧ RepV w' (Dom X β') (lookE h1) β' r c := by
       refine ⟨c, fun k => if k ∈ K then β2 k else [], rfl, hc1, ?_, ?_⟩
       · rw [hh]
         refine ⟨KK.size, fun b hb hn => KK.keep b hb (fun hf => hf) hn, fun k b n hm => ?_, KK.bs, fun k e he => .inr ?_, H3, KK.os, KK.tape, KK.output⟩
         · (try dsimp only at hm)
           split at hm
           · exact KK.own k b n hm
           · simp at hm
         · have hkK : k ∈ K := by
             have := List.all_eq_true.1 hK k (lookE_mem he)
             simpa using this
           have h1 := KK.knd k e he
           have hrr : ∀ e', lookE st.h k = some e' → lookE (restrH K (lookE st.h)) k = some (frzE K (lookE st.h) e') := fun e' h2 => by rw [lookE_restrH, if_pos hkK, h2]; rfl
           cases e with
           | dead => exact h1
           | box cs0 =>
             obtain ⟨cs', h2⟩ := h1
             refine ⟨⟨_, hrr _ h2⟩, fun b n hm => ?_⟩
             (try dsimp only)
             rw [if_pos hkK]
             obtain ⟨n', hn', hm'⟩ := KK.pas k b n hm
             obtain ⟨b2, _, _, e2, _⟩ := H2.ent k _ h2
             obtain ⟨b1, _, _, e1, _⟩ := H.ent k _ he
             rw [e1] at hm
             rw [e2] at hm' ⊢
             simp at hm hm' ⊢
             exact ⟨hm'.1, hm.2⟩
           | arr sz xs sl =>
             obtain ⟨xs', sl', h2, h3⟩ := h1
             obtain ⟨xs2, fl2, h4, h5⟩ := frzE_arr K (lookE st.h) sz xs' sl'
             refine ⟨⟨xs2, fl2, (hrr _ h2).trans (by rw [h4]), by rw [h5]; exact h3⟩, fun b n hm => ?_⟩
             (try dsimp only)
             rw [if_pos hkK]
             exact KK.pas k b n hm
       · rw [hh]
         rcases hr with rfl | rfl
         · exact hv3 _ _ hc2
         · exact (hv3 _ _ hc2).wk
     obtain ⟨c, β', _, hc1, hc2, hc3⟩ := hpost
     exact ⟨c, hc1, c, β', rfl, hc2, hc3⟩
    rcases he with rfl | rfl
    · exact goal
    · exact goal
  · show RepV w (Dom X β) (lookE h0) β (look (argTm 0 args) t) _
    rw [look_argTm, if_pos (Nat.zero_le _), Nat.sub_zero]
    by_cases ht : t < args.length
    · have h2 : args[t]? = some (args.getD t .bot) := by simp [List.getD, ht]
      have := hargs t _ h2
      have e : Act.eval { tmps := cargs ++ Array.replicate (fn.ntmps - cargs.size) undef, defers := [] } (.tmp t) = cargs.getD t undef := by
        simp only [Act.eval, Array.getD_eq_getD_getElem?]
        rw [Array.getElem?_append_left (by omega)]
      rw [e]
      exact this
    · have : args.getD t .bot = .bot := by simp [List.getD, List.getElem?_eq_none (by omega : args.length ≤ t)]
      rw [this]
      exact .fz _ _ (.bot _)
  · have he' : lookE h0 k = some e := he
    cases e with
    | dead => exact absurd he' (noDead_at hnd)
    | box cs => exact ⟨cs, he'⟩
    | arr sz xs sl => exact ⟨xs, sl, he', Nat.le_refl _⟩
end Av
end Go.Proofs.Ytianonghhmiooaa
/- Abstract values: regions that draw their order. Operations that do not touch each other's slots and keys may come in any order. -/
namespace Go.Proofs.Ytianonghhmiooaa
namespace Av
set_option linter.unusedSimpArgs false
set_option linter.unusedVariables false

/-! ### Which operations have come up -/
def lst (l : Array Bool) (i : Nat) : Bool := l.getD i false
def binds (e : Edge) : Bool := Region.binds .any e
def acyc (ops : Array Oper) : Bool := (List.range ops.size).all fun i => ((ops[i]?).map fun o => o.after.all fun e => !binds e || decide (e.on < i)).getD false
/-- Of each operation, those that come ahead of it. -/
def mask (T : List Nat) : List Edge → Nat → Nat
  | [], m => m
  | e :: r, m => mask T r (bif binds e then m ||| (2 ^ e.on ||| T.getD e.on 0) else m)
def closL : List Oper → List Nat → List Nat
  | [], T => T
  | o :: r, T => closL r (T ++ [mask T o.after.toList 0])
/-- The bits of the i-th number: the operations that come ahead of the i-th. -/
def clos (ops : List Oper) : List Nat := closL ops []
def okT (ops : Array Oper) (T : List Nat) : Bool :=
  (List.range ops.size).all fun i => ((ops[i]?).map fun o => Nat.beq (T.getD i 0) (mask T o.after.toList 0)).getD false
def bit (T : List Nat) (i j : Nat) : Bool := (T.getD i 0).testBit j
theorem mask_bit (T : List Nat) (j : Nat) : ∀ (l : List Edge) (m : Nat), (mask T l m).testBit j = true → m.testBit j = true ∨ ∃ e, e ∈ l ∧ binds e = true ∧ (e.on = j ∨ bit T e.on j = true)
  | [], m, h => .inl h
  | e :: r, m, h => by
    rcases mask_bit T j r _ h with h1 | ⟨e', h1, h2, h3⟩
    · cases hb : binds e with
      | false => rw [hb] at h1; exact .inl h1
      | true =>
        rw [hb, cond_true, Nat.testBit_or, Nat.testBit_or, Nat.testBit_two_pow, Bool.or_eq_true, Bool.or_eq_true] at h1
        rcases h1 with h1 | h1 | h1
        · exact .inl h1
        · exact .inr ⟨e, by simp, hb, .inl (by simpa using h1)⟩
        · exact .inr ⟨e, by simp, hb, .inr h1⟩
    · exact .inr ⟨e', by simp [h1], h2, h3⟩
theorem lst_set (l : Array Bool) (i j : Nat) (hi : i < l.size) : lst (l.setIfInBounds i true) j = if j = i then true else lst l j := by
  unfold lst
  by_cases e : j = i
  · subst e; simp [Array.getD_eq_getD_getElem?, hi]
  · rw [if_neg e]
    simp only [Array.getD_eq_getD_getElem?, Array.getElem?_setIfInBounds_ne (Ne.symm e)]
def cnt (p : Nat → Bool) : Nat → Nat
  | 0 => 0
  | k + 1 => cnt p k + if p k then 1 else 0
theorem cnt_congr {p q : Nat → Bool} (n : Nat) (h : ∀ i, i < n → p i = q i) : cnt p n = cnt q n := by
  induction n with
  | zero => rfl
  | succ n ih => unfold cnt; rw [ih fun i hi => h i (by omega), h n (by omega)]
theorem cnt_le (p : Nat → Bool) (n : Nat) : cnt p n ≤ n := by
  induction n with
  | zero => exact Nat.le_refl _
  | succ n ih => unfold cnt; split <;> omega
theorem cnt_set {p q : Nat → Bool} (n i : Nat) (hi : i < n) (hp : p i = false) (h : ∀ j, j ≠ i → q j = p j) : cnt q n = cnt p n + if q i then 1 else 0 := by
  induction n with
  | zero => omega
  | succ n ih =>
    unfold cnt
    by_cases e : i = n
    · subst e
      rw [cnt_congr (q := p) i fun j hj => h j (by omega), hp]
      simp
    · rw [ih (by omega), h n (fun e' => e e'.symm)]
      omega
section
variable {ops : Array Oper} {T : List Nat}
theorem closed (hA : acyc ops = true) (hT : okT ops T = true) {l : Array Bool} (hd : ∀ i o, ops[i]? = some o → lst l i = true → ∀ e ∈ o.after, binds e = true → lst l e.on = true) :
    ∀ (n i : Nat) (o : Oper), i < n → ops[i]? = some o → (∀ e ∈ o.after, binds e = true → lst l e.on = true) → ∀ j, bit T i j = true → lst l j = true := by
  intro n
  induction n with
  | zero => intro i o h; omega
  | succ n ih =>
    intro i o hin ho he j hj
    have hi : i < ops.size := (Array.getElem?_eq_some_iff.1 ho).1
    have h1 := List.all_eq_true.1 hT i (List.mem_range.2 hi)
    simp only [ho, Option.map_some, Option.getD_some] at h1
    unfold bit at hj
    rw [Nat.eq_of_beq_eq_true h1] at hj
    rcases mask_bit T j _ _ hj with h2 | ⟨x, hx, hb, h2⟩
    · simp at h2
    have hm : x ∈ o.after := by simpa using hx
    have hl := he _ hm hb
    rcases h2 with h2 | h2
    · rw [← h2]; exact hl
    · have h3 := List.all_eq_true.1 hA i (List.mem_range.2 hi)
      obtain ⟨y, hy, rfl⟩ := Array.getElem_of_mem hm
      simp only [ho, Option.map_some, Option.getD_some, Array.all_eq_true, Bool.or_eq_true, Bool.not_eq_true', decide_eq_true_eq] at h3
      have h4 : o.after[y].on < i := (h3 y hy).resolve_left (by rw [hb]; simp)
      have h5 : o.after[y].on < ops.size := by omega
      exact ih _ ops[o.after[y].on] (by omega) (by simp [h5]) (hd _ _ (by simp [h5]) hl) j h2
theorem ready_mem {l : Array Bool} {i : Nat} (hs : l.size = ops.size) (h : i ∈ Region.ready .any ops l) : ∃ o, ops[i]? = some o ∧ lst l i = false ∧ ∀ e ∈ o.after, binds e = true → lst l e.on = true := by
  unfold Region.ready at h
  rw [List.mem_filter, List.mem_range] at h
  obtain ⟨hi, h⟩ := h
  have ho : ops[i]? = some ops[i] := by simp [hi]
  simp only [ho, Option.map_some, Option.getD_some, Bool.and_eq_true, Bool.not_eq_true', Array.all_eq_true, Bool.or_eq_true] at h
  refine ⟨ops[i], ho, ?_, fun e he hb => ?_⟩
  · have := h.1
    unfold lst
    simp only [Array.getD_eq_getD_getElem?] at this ⊢
    rw [Array.getElem?_eq_getElem (by omega)] at this ⊢
    simpa using this
  · obtain ⟨x, hx, rfl⟩ := Array.getElem_of_mem he
    rcases h.2 x hx with h2 | h2
    · unfold binds at hb; rw [hb] at h2; cases h2
    · exact h2
theorem ready_nil (hA : acyc ops = true) {l : Array Bool} (hs : l.size = ops.size) (h : Region.ready .any ops l = []) : ∀ n i, i < n → i < ops.size → lst l i = true := by
  intro n
  induction n with
  | zero => intro i h; omega
  | succ n ih =>
    intro i hin hi
    cases hl : lst l i with
    | true => rfl
    | false =>
      exfalso
      have hm : i ∈ Region.ready .any ops l := by
        unfold Region.ready
        rw [List.mem_filter, List.mem_range]
        refine ⟨hi, ?_⟩
        have ho : ops[i]? = some ops[i] := by simp [hi]
        have h3 := List.all_eq_true.1 hA i (List.mem_range.2 hi)
        simp only [ho, Option.map_some, Option.getD_some, Bool.and_eq_true, Bool.not_eq_true', Array.all_eq_true, Bool.or_eq_true, decide_eq_true_eq] at h3 ⊢
        refine ⟨?_, fun x hx => ?_⟩
        · unfold lst at hl
          simp only [Array.getD_eq_getD_getElem?] at hl ⊢
          rw [Array.getElem?_eq_getElem (by omega)] at hl ⊢
          simpa using hl
        · rcases h3 x hx with h4 | h4
          · exact .inl h4
          · exact .inr (ih _ (by omega) (by omega))
      rw [h] at hm
      cases hm
end

/-! ### What each operation comes to -/
structure Evt where
  on : Bool
  v : AV
  d : List (Nat × Ent)
  r : List Nat
  nw : List Nat
def St.app (st : St) (dst : Option Nat) (v : AV) (d : List (Nat × Ent)) : St := ⟨match dst with
  | some t => (t, v) :: st.tm
  | none => st.tm, d ++ st.h⟩
def gOf (ops : Array Oper) (o : Oper) : List Nat := match o.guard with
  | some (j, _) => (gslot ops j).toList
  | none => []
/-- An operation in a state. -/
def Step1 (P : Program) (m : Nat) (ops : Array Oper) (o : Oper) (st : St) (e : Evt) : Prop :=
  noDead e.d = true ∧ (∀ t, o.dst = some t → t < m) ∧ (∀ k, k ∈ e.nw → lookE st.h k = none) ∧
  (e.on = true → Stp P st o.op e.v e.d e.r e.nw) ∧ (e.on = false → e.v = .s undef ∧ e.d = []) ∧
  match o.guard with
    | none => e.on = true
    | some (j, b) => ∃ t c, gslot ops j = some t ∧ look st.tm t = .s c ∧ e.on = gw c b
def Tr (P : Program) (m : Nat) (ops : Array Oper) : List Oper → St → List Evt → St → Prop
  | [], st, [], st' => st = st'
  | o :: l, st, e :: es, st' => Step1 P m ops o st e ∧ Tr P m ops l (st.app o.dst e.v e.d) es st'
  | _, _, _, _ => False

/-- The state when the operations of L have come up. -/
def runL (L : Nat → Bool) : Nat → List (Option Nat × Evt) → St → St
  | _, [], st => st
  | i, (dst, e) :: r, st => runL L (i + 1) r (bif L i then st.app dst e.v e.d else st)
theorem look_app (st : St) (dst : Option Nat) (v : AV) (d : List (Nat × Ent)) (t : Nat) : look (st.app dst v d).tm t = if dst = some t then v else look st.tm t := by
  cases dst with
  | none => simp [St.app]
  | some j => simp only [St.app, look_cons, Option.some.injEq]; by_cases h : t = j <;> simp [h, eq_comm]
theorem lookE_app (st : St) (dst : Option Nat) (v : AV) (d : List (Nat × Ent)) (k : Nat) : lookE (st.app dst v d).h k = over d (lookE st.h) k := by
  show lookE (d ++ st.h) k = _
  rw [lookE_append]
theorem run_look {L L' : Nat → Bool} {t : Nat} : ∀ (r : List (Option Nat × Evt)) (i : Nat) (st st' : St), look st.tm t = look st'.tm t → (∀ (j : Nat) p, r[j]? = some p → p.1 = some t → L (i + j) = L' (i + j)) →
    look (runL L i r st).tm t = look (runL L' i r st').tm t
  | [], _, _, _, h, _ => h
  | (dst, e) :: r, i, st, st', h, hl => by
    refine run_look r (i + 1) _ _ ?_ fun j p hp h1 => by have := hl (j + 1) p (by simpa using hp) h1; rwa [show i + 1 + j = i + (j + 1) by omega]
    by_cases hd : dst = some t
    · have := hl 0 (dst, e) rfl hd
      simp only [Nat.add_zero] at this
      rw [this]
      cases L' i
      · exact h
      · simp only [cond_true, look_app, hd, if_true]
    · cases L i <;> cases L' i <;> simp only [cond_true, cond_false, look_app, if_neg hd, h]
theorem over_not {d : List (Nat × Ent)} {h : Heap} {k : Nat} (hk : ¬ k ∈ keys d) : over d h k = h k := by
  unfold over
  cases he : lookE d k with
  | none => rfl
  | some e => exact absurd (lookE_mem he) hk
theorem over_in {d : List (Nat × Ent)} {h h' : Heap} {k : Nat} (hk : k ∈ keys d) : over d h k = over d h' k := by
  obtain ⟨e, he⟩ := mem_lookE hk
  simp [over, he]
theorem run_lookE {L L' : Nat → Bool} {k : Nat} : ∀ (r : List (Option Nat × Evt)) (i : Nat) (st st' : St), lookE st.h k = lookE st'.h k → (∀ (j : Nat) p, r[j]? = some p → k ∈ keys p.2.d → L (i + j) = L' (i + j)) →
    lookE (runL L i r st).h k = lookE (runL L' i r st').h k
  | [], _, _, _, h, _ => h
  | (dst, e) :: r, i, st, st', h, hl => by
    refine run_lookE r (i + 1) _ _ ?_ fun j p hp h1 => by have := hl (j + 1) p (by simpa using hp) h1; rwa [show i + 1 + j = i + (j + 1) by omega]
    by_cases hd : k ∈ keys e.d
    · have := hl 0 (dst, e) rfl hd
      simp only [Nat.add_zero] at this
      rw [this]
      cases L' i
      · exact h
      · simp only [cond_true, lookE_app]; exact over_in hd
    · cases L i <;> cases L' i <;> simp only [cond_true, cond_false, lookE_app, over_not hd, h]
theorem run_all {L : Nat → Bool} {P : Program} {m : Nat} {ops : Array Oper} : ∀ (l : List Oper) (es : List Evt) (i : Nat) (st st' : St), Tr P m ops l st es st' → (∀ j, j < l.length → L (i + j) = true) → runL L i (l.zipWith (fun o e => (o.dst, e)) es) st = st'
  | [], [], _, _, _, h, _ => h
  | o :: l, e :: es, i, st, st', h, hl => by
    simp only [List.zipWith_cons_cons, runL]
    rw [show L i = true from hl 0 (by simp)]
    exact run_all l es (i + 1) _ st' h.2 fun j hj => by have := hl (j + 1) (by simpa using hj); rwa [show i + 1 + j = i + (j + 1) by omega]
  | [], _ :: _, _, _, _, h, _ => h.elim
  | _ :: _, [], _, _, _, h, _ => h.elim
theorem run_none {L : Nat → Bool} : ∀ (r : List (Option Nat × Evt)) (i : Nat) (st : St), (∀ j, j < r.length → L (i + j) = false) → runL L i r st = st
  | [], _, _, _ => rfl
  | (dst, e) :: r, i, st, h => by
    unfold runL
    rw [show L i = false from h 0 (by simp)]
    exact run_none r (i + 1) st fun j hj => by have := h (j + 1) (by simpa using hj); rwa [show i + 1 + j = i + (j + 1) by omega]
theorem Tr.len {P : Program} {m : Nat} {ops : Array Oper} : ∀ {l : List Oper} {es : List Evt} {st st' : St}, Tr P m ops l st es st' → es.length = l.length
  | [], [], _, _, _ => rfl
  | o :: l, e :: es, _, _, h => by simp [Tr.len h.2]
  | [], _ :: _, _, _, h => h.elim
  | _ :: _, [], _, _, h => h.elim
/-- The operation i in the state that the text comes to ahead of it. -/
theorem Tr.at {P : Program} {m : Nat} {ops : Array Oper} : ∀ {l : List Oper} {es : List Evt} {st st' : St} (i k : Nat) (o : Oper) (e : Evt), Tr P m ops l st es st' → l[i]? = some o → es[i]? = some e →
    Step1 P m ops o (runL (fun j => decide (j < k + i)) k (l.zipWith (fun o e => (o.dst, e)) es) st) e ∧
      runL (fun j => decide (j < k + i + 1)) k (l.zipWith (fun o e => (o.dst, e)) es) st = (runL (fun j => decide (j < k + i)) k (l.zipWith (fun o e => (o.dst, e)) es) st).app o.dst e.v e.d
  | o' :: l, e' :: es, st, st', 0, k, o, e, h, h1, h2 => by
    simp at h1 h2
    subst h1 h2
    have q1 : runL (fun j => decide (j < k + 0)) k ((o' :: l).zipWith (fun o e => (o.dst, e)) (e' :: es)) st = st := run_none _ _ _ fun j _ => by simp
    have q2 : runL (fun j => decide (j < k + 0 + 1)) k ((o' :: l).zipWith (fun o e => (o.dst, e)) (e' :: es)) st = st.app o'.dst e'.v e'.d := by
      simp only [List.zipWith_cons_cons, runL, show decide (k < k + 0 + 1) = true by simp, cond_true]
      exact run_none _ _ _ fun j _ => by simp
    rw [q1, q2]
    exact ⟨h.1, rfl⟩
  | o' :: l, e' :: es, st, st', i + 1, k, o, e, h, h1, h2 => by
    have ih := Tr.at i (k + 1) o e h.2 (by simpa using h1) (by simpa using h2)
    simp only [List.zipWith_cons_cons, runL, show decide (k < k + (i + 1)) = true by simp, show decide (k < k + (i + 1) + 1) = true by simp; omega, cond_true]
    rw [show k + (i + 1) = k + 1 + i by omega]
    exact ih
  | [], [], _, _, _, _, _, _, _, h1, _ => by simp at h1
  | [], _ :: _, _, _, _, _, _, _, h, _, _ => h.elim
  | _ :: _, [], _, _, _, _, _, _, h, _, _ => h.elim

/-- What an operation touches: the slots that it reads, its slot, the keys that it reads and writes. -/
structure FP where
  on : Bool
  w : List Nat
  r : List Nat
def Evt.fp (e : Evt) : FP := ⟨e.on, keys e.d ++ e.nw, e.r⟩
def rdOf (ops : Array Oper) (o : Oper) : List Nat := gOf ops o ++ tmpsOf o.op
/-- i and j, i ahead of j in the text, may not be exchanged. -/
def clash (ops : Array Oper) (oi oj : Oper) (fi fj : FP) : Bool :=
  (match oi.dst with | some t => (rdOf ops oj).contains t || oj.dst == some t | none => false) || (match oj.dst with | some t => (rdOf ops oi).contains t | none => false) ||
    fi.w.any (fun k => fj.w.contains k || fj.r.contains k) || fj.w.any (fun k => fi.r.contains k)
def regOK (l : List Oper) (T : List Nat) (fs : List FP) : Bool :=
  acyc l.toArray && okT l.toArray T && (List.range l.length).all fun j => (List.range j).all fun i => match l[i]?, l[j]?, fs[i]?, fs[j]? with
    | some oi, some oj, some fi, some fj => bit T j i || !clash l.toArray oi oj fi fj
    | _, _, _, _ => false

section
variable {P : Program} {K0 : List Nat} {F : Fr K0} {m : Nat}
theorem Rel.congr {tm tm' : Nat → AV} {h h' : Heap} {a : Act} {w : World} (R : Rel F m tm h a w) (e1 : ∀ t, tm' t = tm t) (e2 : ∀ k, h' k = h k) : Rel F m tm' h' a w := by
  obtain rfl : tm' = tm := funext e1
  obtain rfl : h' = h := funext e2
  exact R
theorem sim_draw {id : Nat} {l : List Oper} {st st' : St} {es : List Evt} {Q : Exit → St → Prop} (hm : P.follows .mixedOrders = true) (hT : Tr P m l.toArray l st es st') (hC : regOK l (clos l) (es.map Evt.fp) = true) (hq : Q .normal st') :
    Sim P F m (.region id l.toArray true) st Q := by
  refine ⟨?_⟩
  intro a w H
  unfold regOK at hC
  simp only [Bool.and_eq_true, List.all_eq_true, List.mem_range] at hC
  obtain ⟨⟨hA, hTc⟩, hX⟩ := hC
  generalize clos l = T at *
  have hlen := hT.len
  let R := l.zipWith (fun o e => (o.dst, e)) es
  have hR : ∀ (j : Nat) p, R[j]? = some p → ∃ o e, l[j]? = some o ∧ es[j]? = some e ∧ p = (o.dst, e) := fun j p hp => by
    simp only [R, List.getElem?_zipWith] at hp
    cases ho : l[j]? with
    | none => simp [ho] at hp
    | some o => cases he : es[j]? with
      | none => simp [ho, he] at hp
      | some e => simp [ho, he] at hp; exact ⟨o, e, rfl, rfl, hp.symm⟩
  -- two operations that clash
  have hcl : ∀ i j oi oj ei ej, i < j → l[i]? = some oi → l[j]? = some oj → es[i]? = some ei → es[j]? = some ej → clash l.toArray oi oj ei.fp ej.fp = true → bit T j i = true := fun i j oi oj ei ej hij h1 h2 h3 h4 h5 => by
    have := hX j (List.getElem?_eq_some_iff.1 h2).1 i hij
    simp only [h1, h2, List.getElem?_map, h3, h4, Option.map_some, h5, Bool.not_true, Bool.or_false] at this
    simpa using this
  let J : Array Bool → Act → World → Prop := fun L a w => L.size = l.toArray.size ∧ (∀ i o, l.toArray[i]? = some o → lst L i = true → ∀ e ∈ o.after, binds e = true → lst L e.on = true) ∧ Rel F m (look (runL (lst L) 0 R st).tm) (lookE (runL (lst L) 0 R st).h) a w
  have hend : ∀ L a w, (∀ i, i < l.toArray.size → lst L i = true) → J L a w → ∃ s, Q .normal s ∧ RelS F m s a w := fun L a w hall hJ => by
    refine ⟨st', hq, ?_⟩
    have : runL (lst L) 0 R st = st' := run_all l es 0 st st' hT fun j hj => by rw [Nat.zero_add]; exact hall j (by simpa using hj)
    have h2 := hJ.2.2
    rw [this] at h2
    exact h2
  have hstep : ∀ L a w i, J L a w → i ∈ Region.ready .any l.toArray L → ∀ K : Act → World → Prop, (∀ a' w', J (L.setIfInBounds i true) a' w' → K a' w') → ∀ Q', wpOpIn (fen F.ro) 0 P l.toArray Q' i K a w := by
    intro L a w i hJ hi K hK Q'
    obtain ⟨hs, hdn, hRel⟩ := hJ
    obtain ⟨o, ho, hl, hpre⟩ := ready_mem hs hi
    have hin : i < l.toArray.size := (Array.getElem?_eq_some_iff.1 ho).1
    have ho' : l[i]? = some o := by simpa using ho
    obtain ⟨e, he⟩ : ∃ e, es[i]? = some e := ⟨es[i]'(by rw [hlen]; simpa using hin), by simp⟩
    have hahead := closed hA hTc hdn (i + 1) i o (by omega) ho hpre
    have hlate : ∀ j, j < l.toArray.size → bit T j i = true → lst L j = false := fun j hj hij => by
      cases hlj : lst L j with
      | false => rfl
      | true =>
        have hoj : l.toArray[j]? = some l.toArray[j] := by simp [hj]
        have := closed hA hTc hdn (j + 1) j _ (by omega) hoj (hdn j _ hoj hlj) i hij
        rw [hl] at this; cases this
    -- an operation j that clashes with i has come up just if it is ahead of i in the text
    have hord : ∀ j oj ej, l[j]? = some oj → es[j]? = some ej → j ≠ i → (j < i → clash l.toArray oj o ej.fp e.fp = true) → (i < j → clash l.toArray o oj e.fp ej.fp = true) → lst L j = decide (j < i) := fun j oj ej h1 h2 hne h3 h4 => by
      rcases Nat.lt_or_gt_of_ne hne with h | h
      · rw [hahead j (hcl j i oj o ej e h h1 ho' h2 he (h3 h))]; simp [h]
      · rw [hlate j (by simpa using (List.getElem?_eq_some_iff.1 h1).1) (hcl i j o oj e ej h ho' h1 he h2 (h4 h))]
        simp; omega
    obtain ⟨⟨s1, s2, s3, s4, s5, s6⟩, hnext⟩ := hT.at i 0 o e ho' he
    simp only [Nat.zero_add] at s3 s4 s6 hnext
    let Li : Nat → Bool := fun j => decide (j < i)
    -- what i reads
    have rdS : ∀ t, t ∈ rdOf l.toArray o → look (runL (lst L) 0 R st).tm t = look (runL Li 0 R st).tm t := fun t ht => run_look R 0 st st rfl fun j p hp hd => by
      obtain ⟨oj, ej, h1, h2, rfl⟩ := hR j p hp
      rw [Nat.zero_add]
      by_cases hji : j = i
      · subst hji; simp only [Li]; rw [hl]; simp
      · refine hord j oj ej h1 h2 hji (fun _ => ?_) fun _ => ?_
        · unfold clash; simp only [show oj.dst = some t from hd, List.contains_iff_mem.2 ht, Bool.true_or]
        · unfold clash; simp only [show oj.dst = some t from hd, List.contains_iff_mem.2 ht, Bool.true_or, Bool.or_true]
    have rdK : ∀ k, k ∈ e.r ∨ k ∈ e.nw ∨ k ∈ keys e.d → lookE (runL (lst L) 0 R st).h k = lookE (runL Li 0 R st).h k := fun k hk => run_lookE R 0 st st rfl fun j p hp hd => by
      obtain ⟨oj, ej, h1, h2, rfl⟩ := hR j p hp
      rw [Nat.zero_add]
      by_cases hji : j = i
      · subst hji; simp only [Li]; rw [hl]; simp
      · have hwj : k ∈ ej.fp.w := by simp only [Evt.fp, List.mem_append]; exact .inl hd
        have hki : k ∈ e.fp.w ∨ k ∈ e.fp.r := by
          simp only [Evt.fp, List.mem_append]
          rcases hk with h | h | h
          · exact .inr h
          · exact .inl (.inr h)
          · exact .inl (.inl h)
        refine hord j oj ej h1 h2 hji (fun _ => ?_) fun _ => ?_
        · have : ej.fp.w.any (fun k => e.fp.w.contains k || e.fp.r.contains k) = true := List.any_eq_true.2 ⟨k, hwj, by simp only [Bool.or_eq_true, List.contains_iff_mem]; exact hki⟩
          unfold clash; simp only [this, Bool.or_true, Bool.true_or]
        · rcases hki with h | h
          · have : e.fp.w.any (fun k => ej.fp.w.contains k || ej.fp.r.contains k) = true := List.any_eq_true.2 ⟨k, h, by simp only [Bool.or_eq_true, List.contains_iff_mem]; exact .inl hwj⟩
            unfold clash; simp only [this, Bool.or_true, Bool.true_or]
          · have : ej.fp.w.any (fun k => e.fp.r.contains k) = true := List.any_eq_true.2 ⟨k, hwj, List.contains_iff_mem.2 h⟩
            unfold clash; simp only [this, Bool.or_true]
    have hL' : ∀ j, lst (L.setIfInBounds i true) j = if j = i then true else lst L j := fun j => lst_set L i j (by rw [hs]; exact hin)
    have lookN : ∀ t, look (runL (lst (L.setIfInBounds i true)) 0 R st).tm t = if o.dst = some t then e.v else look (runL (lst L) 0 R st).tm t := fun t => by
      by_cases hd : o.dst = some t
      · rw [if_pos hd]
        have h1 : look (runL (lst (L.setIfInBounds i true)) 0 R st).tm t = look (runL (fun j => decide (j < i + 1)) 0 R st).tm t := run_look R 0 st st rfl fun j p hp hdj => by
          obtain ⟨oj, ej, h1, h2, rfl⟩ := hR j p hp
          rw [Nat.zero_add, hL']
          by_cases hji : j = i
          · subst hji; simp
          · have hdj' : oj.dst = some t := hdj
            rw [if_neg hji, hord j oj ej h1 h2 hji (fun _ => by unfold clash; simp [hdj', hd]) (fun _ => by unfold clash; simp [hdj', hd])]
            by_cases h : j < i
            · simp [h]; omega
            · simp [h]; omega
        rw [h1, show (runL (fun j => decide (j < i + 1)) 0 R st) = _ from hnext, look_app, if_pos hd]
      · rw [if_neg hd]
        exact run_look R 0 st st rfl fun j p hp hdj => by
          obtain ⟨oj, ej, h1, h2, rfl⟩ := hR j p hp
          rw [Nat.zero_add, hL']
          by_cases hji : j = i
          · subst hji
            rw [ho'] at h1
            cases h1
            exact absurd hdj hd
          · rw [if_neg hji]
    have lookEN : ∀ k, lookE (runL (lst (L.setIfInBounds i true)) 0 R st).h k = over e.d (lookE (runL (lst L) 0 R st).h) k := fun k => by
      by_cases hd : k ∈ keys e.d
      · have h1 : lookE (runL (lst (L.setIfInBounds i true)) 0 R st).h k = lookE (runL (fun j => decide (j < i + 1)) 0 R st).h k := run_lookE R 0 st st rfl fun j p hp hdj => by
          obtain ⟨oj, ej, h1, h2, rfl⟩ := hR j p hp
          rw [Nat.zero_add, hL']
          by_cases hji : j = i
          · subst hji; simp
          · have hwj : k ∈ ej.fp.w := by simp only [Evt.fp, List.mem_append]; exact .inl hdj
            have hwi : k ∈ e.fp.w := by simp only [Evt.fp, List.mem_append]; exact .inl hd
            have q1 : ej.fp.w.any (fun k => e.fp.w.contains k || e.fp.r.contains k) = true := List.any_eq_true.2 ⟨k, hwj, by simp only [Bool.or_eq_true, List.contains_iff_mem]; exact .inl hwi⟩
            have q2 : e.fp.w.any (fun k => ej.fp.w.contains k || ej.fp.r.contains k) = true := List.any_eq_true.2 ⟨k, hwi, by simp only [Bool.or_eq_true, List.contains_iff_mem]; exact .inl hwj⟩
            rw [if_neg hji, hord j oj ej h1 h2 hji (fun _ => by unfold clash; simp only [q1, Bool.or_true, Bool.true_or]) (fun _ => by unfold clash; simp only [q2, Bool.or_true, Bool.true_or])]
            by_cases h : j < i
            · simp [h]; omega
            · simp [h]; omega
        rw [h1, show (runL (fun j => decide (j < i + 1)) 0 R st) = _ from hnext, lookE_app]
        exact over_in hd
      · rw [over_not hd]
        exact run_lookE R 0 st st rfl fun j p hp hdj => by
          obtain ⟨oj, ej, h1, h2, rfl⟩ := hR j p hp
          rw [Nat.zero_add, hL']
          by_cases hji : j = i
          · subst hji
            rw [he] at h2
            cases h2
            exact absurd hdj hd
          · rw [if_neg hji]
    have hfin : ∀ a' w', Rel F m (fun t => if o.dst = some t then e.v else look (runL (lst L) 0 R st).tm t) (over e.d (lookE (runL (lst L) 0 R st).h)) a' w' → K a' w' := fun a' w' h => by
      refine hK a' w' ⟨by simpa using hs, fun j oj hoj hlj ed hed hb => ?_, h.congr lookN lookEN⟩
      rw [hL'] at hlj ⊢
      by_cases hji : j = i
      · subst hji
        rw [ho] at hoj
        cases hoj
        split
        · rfl
        · exact hpre ed hed hb
      · rw [if_neg hji] at hlj
        split
        · rfl
        · exact hdn j oj hoj hlj ed hed hb
    have hexec : e.on = true → o.wpIn (fen F.ro) 0 P a w K Q' := fun hon =>
      (s4 hon).rel hRel (fun t ht => rdS t (by unfold rdOf; simp [ht])) (fun k hk => rdK k (.inl hk)) (fun k hk => by rw [rdK k (.inr (.inl hk))]; exact s3 k hk) s1 s2 hfin
    unfold wpOpIn
    rw [ho]
    dsimp only
    cases hg : o.guard with
    | none =>
      rw [hg] at s6
      rw [if_pos (by simp [Region.wanted, hg])]
      exact hexec s6
    | some jb =>
      obtain ⟨j, b⟩ := jb
      rw [hg] at s6
      obtain ⟨t, c, g1, g2, g3⟩ := s6
      have htr : t ∈ rdOf l.toArray o := by unfold rdOf gOf; simp [hg, g1]
      have hv : a.eval (.tmp t) = c := by
        obtain ⟨⟨_, β, _, _, Ht, _⟩, _⟩ := hRel
        have := Ht t
        rw [rdS t htr, g2] at this
        exact this.s_inv
      have hw := guard_wanted hg g1 hv
      cases hon : e.on with
      | true =>
        rw [if_pos (by rw [hw, ← g3, hon])]
        exact hexec hon
      | false =>
        rw [if_neg (by rw [hw, ← g3, hon]; simp)]
        obtain ⟨v1, v2⟩ := s5 hon
        refine ⟨fun _ _ => trivial, hfin _ _ ?_⟩
        rw [v1, v2]
        exact Rel.bot hRel o.dst s2
  have main : ∀ (fuel : Nat) (L : Array Bool) (a : Act) (w : World), cnt (fun i => !lst L i) l.toArray.size ≤ fuel → J L a w → wpAnyIn (fen F.ro) 0 P .any l.toArray (fun e a' w' => ∃ st', Q e st' ∧ RelS F m st' a' w') fuel L a w := by
    intro fuel
    induction fuel with
    | zero =>
      intro L a w hf hJ
      have all : ∀ i, i < l.toArray.size → lst L i = true := by
        intro i hi
        cases hl : lst L i with
        | true => rfl
        | false =>
          exfalso
          have h := cnt_set (p := fun j => !lst L j && j != i) (q := fun j => !lst L j) l.toArray.size i hi (by simp) (fun j hj => by simp [hj])
          simp [hl] at h
          simp at hf
          omega
      refine ⟨?_, hend L a w all hJ⟩
      cases hr : Region.ready .any l.toArray L with
      | nil => rfl
      | cons i rest =>
        obtain ⟨o, ho, hl, _⟩ := ready_mem hJ.1 (i := i) (by rw [hr]; simp)
        rw [all i (Array.getElem?_eq_some_iff.1 ho).1] at hl
        cases hl
    | succ fuel ih =>
      intro L a w hf hJ
      refine ⟨fun hr => hend L a w (fun i hi => ready_nil hA hJ.1 hr (i + 1) i (by omega) hi) hJ, fun i hi => ?_⟩
      refine hstep L a w i hJ hi _ (fun a' w' hJ' => ih _ _ _ ?_ hJ') _
      obtain ⟨o, ho, hl, _⟩ := ready_mem hJ.1 hi
      have hin : i < l.toArray.size := (Array.getElem?_eq_some_iff.1 ho).1
      have h := cnt_set (p := fun j => !lst (L.setIfInBounds i true) j) (q := fun j => !lst L j) l.toArray.size i hin (by simp [lst_set L i i (by rw [hJ.1]; exact hin)]) (fun j hj => by simp [lst_set L i j (by rw [hJ.1]; exact hin), hj])
      simp [hl] at h
      simp at hf ⊢
      omega
  refine wpIn_region_any hm (main _ _ _ _ (cnt_le _ _) ?_)
  have hf : ∀ i, lst (Array.replicate l.toArray.size false) i = false := by
    intro i
    unfold lst
    simp only [Array.getD_eq_getD_getElem?, Array.getElem?_replicate]
    split <;> rfl
  refine ⟨by simp, fun i o _ hl => ?_, ?_⟩
  · rw [hf] at hl; cases hl
  · rw [run_none R 0 st fun j _ => hf _]
    obtain ⟨⟨X, β, hX, HH, Ht, KK, hJ, hD⟩, nd, gs, hl⟩ := H
    have G := Goes.drew HH (w.drawn + 1)
    exact ⟨⟨X, β, hX, G.hok, fun t => (Ht t).evo G.evo, KK.goes G nd (G.lives HH nd), fun i hi => F.go G (hJ i hi), hD.goes HH G⟩, nd, gs, hl⟩
end
end Av
end Go.Proofs.Ytianonghhmiooaa
