/- Abstract values: code over abstract states. -/
import Derived.Test.YtlabfbpnkjigoaaAvg
import Derived.Tactics
import Derived.Deep.LoopGhost
namespace Go.Proofs.Ytlabfbpnkjigoaa
namespace Av
set_option linter.unusedSimpArgs false
set_option linter.unusedVariables false

/-- Of a running call: blocks that others keep, the world when it began, the blocks that were handed to it. -/
structure Fr (K0 : List Nat) where
  X : Nat → Prop
  w0 : World
  β0 : Map
  h0 : Heap
  hK : ∀ k b n, (b, n) ∈ β0 k → k ∈ K0
  hh : ∀ k e, h0 k = some e → k ∈ K0
/-- What was handed over is still of its kind. -/
def Kind (h : Heap) (k : Nat) : Ent → Prop
  | .box _ => ∃ cs, h k = some (.box cs)
  | .arr sz xs _ => ∃ xs' st, h k = some (.arr sz xs' st) ∧ xs.length ≤ xs'.length
  | .dead => False
variable {K0 : List Nat}
structure Keep (F : Fr K0) (h : Heap) (β : Map) (w : World) : Prop where
  knd : ∀ k e, F.h0 k = some e → Kind h k e
  size : F.w0.heap.size ≤ w.heap.size
  keep : ∀ b, b < F.w0.heap.size → (∀ k n, (b, n) ∉ F.β0 k) → w.heap[b]? = F.w0.heap[b]?
  own : ∀ k b n, (b, n) ∈ β k → (∃ k' n', (b, n') ∈ F.β0 k') ∨ F.w0.heap.size ≤ b
  pas : ∀ k b n, (b, n) ∈ F.β0 k → ∃ n', n ≤ n' ∧ (b, n') ∈ β k
  bs : ∀ k b n, (b, n) ∈ F.β0 k → bsize w b = bsize F.w0 b
  os : w.os = F.w0.os
  tape : w.tape = F.w0.tape
  output : w.output = F.w0.output
def noDead : List (Nat × Ent) → Bool
  | [] => true
  | (_, .dead) :: _ => false
  | _ :: r => noDead r
theorem noDead_at : ∀ {d : List (Nat × Ent)} {k : Nat}, noDead d = true → lookE d k ≠ some .dead
  | [], k, _ => by simp [lookE]
  | (j, e) :: r, k, h => by
    unfold lookE
    cases e with
    | dead => simp [noDead] at h
    | box cs => cases Nat.beq k j <;> simp; exact noDead_at (by simpa [noDead] using h)
    | arr a b c => cases Nat.beq k j <;> simp; exact noDead_at (by simpa [noDead] using h)
/-- Keys whose blocks live on. -/
def Lives (β β' : Map) : Prop := ∀ k b n, (b, n) ∈ β k → ∃ n', n ≤ n' ∧ (b, n') ∈ β' k
theorem Goes.lives {X : Nat → Prop} {w w' : World} {h h' : Heap} {β β' : Map} (H : HOK X h β w) (G : Goes X w h β w' h' β') (hd : ∀ k, h' k ≠ some .dead) : Lives β β' := by
  intro k b n hm
  cases he : h k with
  | none => rw [H.off k he] at hm; simp at hm
  | some e =>
    rcases G.key k e he with h1 | h1
    · exact absurd h1 (hd k)
    · cases e with
      | dead => exact h1.elim
      | box cs => exact ⟨n, Nat.le_refl _, h1.2 b n hm⟩
      | arr sz xs st => exact h1.2 b n hm
theorem Keep.goes {F : Fr K0} {β β' : Map} {w w' : World} {h h' : Heap} (K : Keep F h β w) (G : Goes F.X w h β w' h' β') (nd : ∀ k, h' k ≠ some .dead) (hl : Lives β β') : Keep F h' β' w' where
  knd k e he := by
    have h1 := K.knd k e he
    cases e with
    | dead => exact h1
    | box cs =>
      obtain ⟨cs', h2⟩ := h1
      exact ((G.key k _ h2).resolve_left (nd k)).1
    | arr sz xs st =>
      obtain ⟨xs', st', h2, h3⟩ := h1
      obtain ⟨xs'', st'', h4, h5⟩ := ((G.key k _ h2).resolve_left (nd k)).1
      exact ⟨xs'', st'', h4, Nat.le_trans h3 h5⟩
  size := Nat.le_trans K.size G.size
  keep b hb hn := by
    rw [G.keep b (Nat.lt_of_lt_of_le hb K.size), K.keep b hb hn]
    intro k n hm
    rcases K.own k b n hm with ⟨k', n', h1⟩ | h1
    · exact hn _ _ h1
    · omega
  own k b n hm := by
    rcases G.own k b n hm with ⟨k', n', h1⟩ | h1
    · exact K.own k' b n' h1
    · exact .inr (Nat.le_trans K.size h1)
  pas k b n hm := by
    obtain ⟨n', h1, h2⟩ := K.pas k b n hm
    obtain ⟨n'', h3, h4⟩ := hl k b n' h2
    exact ⟨n'', Nat.le_trans h1 h3, h4⟩
  bs k b n hm := by
    obtain ⟨n', _, h2⟩ := K.pas k b n hm
    rw [G.bs k b n' h2, K.bs k b n hm]
  os := G.os.trans K.os
  tape := G.tape.trans K.tape
  output := G.output.trans K.output

structure Rel (F : Fr K0) (m : Nat) (tm : Nat → AV) (h : Heap) (a : Act) (w : World) : Prop where
  ex : ∃ β, HOK F.X h β w ∧ (∀ t, RepV w (Dom F.X β) h β (tm t) (a.eval (.tmp t))) ∧ Keep F h β w
  nd : ∀ k, h k ≠ some .dead
  dfr : a.defers = []
  len : a.tmps.size = m
def RelS (F : Fr K0) (m : Nat) (st : St) : Act → World → Prop := Rel F m (look st.tm) (lookE st.h)

theorem look_cons (t : Nat) (v : AV) (tm : List (Nat × AV)) (j : Nat) : look ((t, v) :: tm) j = if j = t then v else look tm j := by
  conv => lhs; unfold look
  by_cases h : j = t
  · subst h; simp
  · rw [if_neg h, beq_other h]; rfl
theorem lookE_cons (t : Nat) (v : Ent) (tm : List (Nat × Ent)) (j : Nat) : lookE ((t, v) :: tm) j = if j = t then some v else lookE tm j := by
  conv => lhs; unfold lookE
  by_cases h : j = t
  · subst h; simp
  · rw [if_neg h, beq_other h]; rfl
theorem lookE_append : ∀ (d h : List (Nat × Ent)), lookE (d ++ h) = over d (lookE h)
  | [], _ => rfl
  | (k, e) :: r, h => by
    funext j
    have ih := congrFun (lookE_append r h) j
    simp only [List.cons_append, over, lookE_cons] at *
    split
    · rfl
    · exact ih

/-- One operation. -/
theorem OpDone.wp {P : Program} {o : Oper} {a : Act} {w : World} {K : Act → World → Prop} {Q : Exit → Act → World → Prop} {N : Value → World → Prop} (hd : OpDone P N ((execOp a.eval o).run P w)) (h : ∀ c w', N c w' → K (a.put o.dst c) w') : o.wp P a w K Q := by
  unfold Oper.wp
  generalize (execOp a.eval o).run P w = r at hd
  cases r with
  | halt x w' => exact hd.elim
  | ok n w' =>
    cases n with
    | value c => exact h _ _ hd
    | skip => exact h _ _ hd
    | enter f args => exact Calls.mono hd fun e w'' ⟨c, he, hn⟩ => by subst he; exact h _ _ hn
    | _ => exact hd.elim
theorem Rel.put {F : Fr K0} {m : Nat} {tm : Nat → AV} {h h' : Heap} {a : Act} {w w' : World} {β β' : Map} (H : HOK F.X h β w) (hv : ∀ t, RepV w (Dom F.X β) h β (tm t) (a.eval (.tmp t))) (K : Keep F h β w) (hd : a.defers = []) (hl : a.tmps.size = m)
    (G : Goes F.X w h β w' h' β') (nd : ∀ k, h' k ≠ some .dead) {v : AV} {c : Value} (hc : RepV w' (Dom F.X β') h' β' v c) (dst : Option Nat) (hm : ∀ d, dst = some d → d < m) :
    Rel F m (fun t => if dst = some t then v else tm t) h' (a.put dst c) w' := by
  refine ⟨⟨β', G.hok, fun t => ?_, K.goes G nd (G.lives H nd)⟩, nd, by cases dst <;> exact hd, by cases dst <;> simp [Act.put, hl]⟩
  split
  · rename_i ht
    subst ht
    have : t < a.tmps.size := by rw [hl]; exact hm t rfl
    have e : (a.put (some t) c).eval (.tmp t) = c := by simp [Act.put, Act.eval, this]
    rw [e]; exact hc
  · rename_i ht
    rw [Act.eval_put (fun d hd e => ht (by rw [hd]; injection e with e; rw [e]))]
    exact (hv t).evo G.evo
theorem Stp.rel {P : Program} {st : St} {o : Oper} {v : AV} {d : List (Nat × Ent)} {r nw : List Nat} (hs : Stp P st o.op v d r nw) {F : Fr K0} {m : Nat} {tm : Nat → AV} {h : Heap} {a : Act} {w : World} (H : Rel F m tm h a w)
    (h1 : ∀ t, t ∈ tmpsOf o.op → tm t = look st.tm t) (h2 : ∀ k, k ∈ r → h k = lookE st.h k) (h3 : ∀ k, k ∈ nw → h k = none) (hd : noDead d = true) (hm : ∀ t, o.dst = some t → t < m) {K : Act → World → Prop} {Q : Exit → Act → World → Prop}
    (hK : ∀ a' w', Rel F m (fun t => if o.dst = some t then v else tm t) (over d h) a' w' → K a' w') : o.wp P a w K Q := by
  obtain ⟨⟨β, HH, Ht, KK⟩, nd, hdf, hl⟩ := H
  refine OpDone.wp (hs.run F.X tm h h1 h2 h3 o a w β rfl HH Ht) ?_
  rintro c w' ⟨β', G, hc⟩
  have nd' : ∀ k, over d h k ≠ some .dead := fun k => by
    unfold over
    split
    · rename_i e he
      intro h4
      cases h4
      exact noDead_at hd he
    · exact nd k
  exact hK _ _ (Rel.put HH Ht KK hdf hl G nd' hc o.dst hm)

/-- Code, in an abstract state. -/
structure Sim (P : Program) (F : Fr K0) (m : Nat) (c : Code) (st : St) (Q : Exit → St → Prop) : Prop where
  run : ∀ a w, RelS F m st a w → c.wp P (fun e a' w' => ∃ st', Q e st' ∧ RelS F m st' a' w') a w
/-- Operations, one after the other. -/
def Ops (P : Program) (F : Fr K0) (m : Nat) (ops : Array Oper) (l : List Oper) (st : St) (Q : St → Prop) : Prop :=
  ∀ a w, RelS F m st a w → wpList P ops (fun e a' w' => e = .normal ∧ ∃ st', Q st' ∧ RelS F m st' a' w') l a w

section
variable {P : Program} {F : Fr K0} {m : Nat} {Q : Exit → St → Prop} {st : St}
theorem Sim.mono {c : Code} {Q' : Exit → St → Prop} (h : Sim P F m c st Q) (hq : ∀ e s, Q e s → Q' e s) : Sim P F m c st Q' :=
  ⟨fun a w H => Code.wp_mono (fun _ _ _ ⟨s, h1, h2⟩ => ⟨s, hq _ _ h1, h2⟩) (h.run a w H)⟩
theorem sim_skip (h : Q .normal st) : Sim P F m .skip st Q := ⟨fun _ _ H => wp_skip ⟨st, h, H⟩⟩
theorem sim_ret (h : Q .ret st) : Sim P F m .ret st Q := ⟨fun _ _ H => wp_ret ⟨st, h, H⟩⟩
theorem sim_exit {id : Nat} (h : Q (.exit id) st) : Sim P F m (.exit id) st Q := ⟨fun _ _ H => wp_exit ⟨st, h, H⟩⟩
def thenS (P : Program) (F : Fr K0) (m : Nat) (y : Code) (Q : Exit → St → Prop) : Exit → St → Prop
  | .normal, s => Sim P F m y s Q
  | e, s => Q e s
theorem sim_seq {x y : Code} (h : Sim P F m x st (thenS P F m y Q)) : Sim P F m (.seq x y) st Q := ⟨fun a w H =>
  wp_seq (Code.wp_mono (fun e a' w' ⟨s, h1, h2⟩ => by
    cases e with
    | normal => exact Sim.run h1 a' w' h2
    | _ => exact ⟨s, h1, h2⟩) (h.run a w H))⟩
theorem sim_cond {c : Operand} {x y : Code} {t : Bool} (hc : opv (look st.tm) c = .s (.bool t)) (h1 : t = true → Sim P F m x st Q) (h2 : t = false → Sim P F m y st Q) : Sim P F m (.cond c x y) st Q := ⟨fun a w H => by
  have hv : a.eval c = .bool t := by
    obtain ⟨⟨β, _, Ht, _⟩, _⟩ := H
    have := opv_rep Ht c
    rw [hc] at this
    exact this.s_inv
  exact wp_cond_split hv (fun h => (h1 h).run a w H) (fun h => (h2 h).run a w H)⟩
theorem sim_cond_true {c : Operand} {x y : Code} (hc : opv (look st.tm) c = .s (.bool true)) (h : Sim P F m x st Q) : Sim P F m (.cond c x y) st Q := sim_cond hc (fun _ => h) (fun h => by cases h)
theorem sim_cond_false {c : Operand} {x y : Code} (hc : opv (look st.tm) c = .s (.bool false)) (h : Sim P F m y st Q) : Sim P F m (.cond c x y) st Q := sim_cond hc (fun h => by cases h) (fun _ => h)
def inB (id : Nat) (Q : Exit → St → Prop) : Exit → St → Prop
  | .exit id', s => bif Nat.beq id' id then Q .normal s else Q (.exit id') s
  | e, s => Q e s
theorem sim_block {id : Nat} {c : Code} (h : Sim P F m c st (inB id Q)) : Sim P F m (.block id c) st Q := ⟨fun a w H =>
  wp_block (Code.wp_mono (fun e a' w' ⟨s, h1, h2⟩ => by
    cases e with
    | exit id' =>
      simp only [Exit.inBlock]
      split
      · rename_i he; subst he; simp only [inB, beq_self', cond_true] at h1; exact ⟨s, h1, h2⟩
      · rename_i he; simp only [inB, beq_other he, cond_false] at h1; exact ⟨s, h1, h2⟩
    | _ => exact ⟨s, h1, h2⟩) (h.run a w H))⟩
/-- A loop: I n holds at the head of a round, n falls. -/
theorem sim_loop {c : Code} (I : Nat → St → Prop) (n : Nat) (h0 : I n st) (round : ∀ n st, I n st → Sim P F m c st (fun e s => match e with
    | .normal => ∃ n', n' < n ∧ I n' s
    | e => Q e s)) : Sim P F m (.loop c) st Q := ⟨fun a w H => by
  refine wp_loop_ghost (fun n a w => ∃ st, I n st ∧ RelS F m st a w) n ⟨st, h0, H⟩ fun n a w ⟨st, hI, hR⟩ => ?_
  refine Code.wp_mono (fun e a' w' ⟨s, h1, h2⟩ => ?_) ((round n st hI).run a w hR)
  cases e with
  | normal =>
    obtain ⟨n', hlt, hI'⟩ := h1
    exact ⟨n', hlt, s, hI', h2⟩
  | _ => exact ⟨s, h1, h2⟩⟩

theorem sim_region {id : Nat} {l : List Oper} (h : Ops P F m l.toArray l st (Q .normal)) : Sim P F m (.region id l.toArray false) st Q := ⟨fun a w H =>
  Code.wp_mono (fun e a' w' ⟨he, s, h1, h2⟩ => by subst he; exact ⟨s, h1, h2⟩) (wp_region_lit (h a w H))⟩
end
end Av
end Go.Proofs.Ytlabfbpnkjigoaa
