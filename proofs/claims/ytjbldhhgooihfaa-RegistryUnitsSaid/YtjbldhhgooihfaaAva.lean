/- Abstract values, and what they say of a world: trees for what no one changes any more, keys for the blocks that a call owns. -/
import Derived.Below
import Derived.Orders
import Derived.LoopN
import Derived.Laws.Sem
import Derived.KernelRfl
import Derived.Laws.AppendOwn
import Derived.Laws.CopyRow
namespace Go.Proofs.Ytjbldhhgooihfaa
namespace Av
set_option linter.unusedSimpArgs false
set_option linter.unusedVariables false

/-- An abstract value. 'sl': a slice whose cells stay as they are ('nn': it is not nil); 'ref': a slice of an owned array; 'ptr': the address of a cell of an owned block; 'fp': the address of a cell that stays as it is. -/
inductive AV where
  | bot
  | gh (n : Nat)
  | s (v : Value)
  | agg (cs : List AV)
  | sl (nn : Bool) (xs : List AV)
  | ref (k off len : Nat)
  | ptr (k i off : Nat)
  | fp (xs : List AV) (i off : Nat)
  | fn (f : Nat) (caps : List AV)
  | tup (vs : List AV)
  deriving Inhabited
def AV.cells : AV → List AV
  | .agg cs => cs
  | v => [v]
def AV.isAgg : AV → Bool
  | .agg _ => true
  | _ => false

def maxN : Nat := 9223372036854775807

/-- The elements xs lie at ⟨b, o⟩, each sz cells wide, in a block that no one owns; f: what the cells hold. -/
structure Lay (w : World) (D : Nat → Prop) (xs : List AV) (b o sz : Nat) (f : Nat → Nat → Value) : Prop where
  lt : b < w.heap.size
  nd : ¬ D b
  pos : 1 ≤ sz
  max : xs.length ≤ maxN
  wide : ∀ (i : Nat) (x : AV), xs[i]? = some x → x.cells.length = sz
  cell : ∀ i j, i < xs.length → j < sz → w.cell? ⟨b, o + i * sz + j, none⟩ = some (f i j)
  one : ∀ i j, i < xs.length → j < sz → (f i j).oneCell' = true

/-- The abstract value v, in which nothing is owned, reads as c. -/
inductive RepF (w : World) (D : Nat → Prop) : AV → Value → Prop
  | bot (c : Value) : RepF w D .bot c
  | gh (n : Nat) (c : Value) : RepF w D (.gh n) c
  | s (v : Value) : RepF w D (.s v) v
  | agg (cs : List AV) (c : Array Value) (hl : c.size = cs.length) (h1 : ∀ i, i < c.size → (c.getD i undef).oneCell' = true) (h : ∀ (i : Nat) v, cs[i]? = some v → RepF w D v (c.getD i undef)) : RepF w D (.agg cs) (.agg c)
  | nil (a : Option Addr) (cap : Nat) : RepF w D (.sl false []) (.slice a 0 cap)
  | nil1 (a : Addr) (cap : Nat) : RepF w D (.sl true []) (.slice (some a) 0 cap)
  | sl (nn : Bool) (xs : List AV) (b o sz cap : Nat) (f : Nat → Nat → Value) (hx : xs ≠ []) (hL : Lay w D xs b o sz f) (hc : xs.length ≤ cap)
      (h : ∀ (i : Nat) (x : AV) (j : Nat) v, xs[i]? = some x → x.cells[j]? = some v → RepF w D v (f i j)) : RepF w D (.sl nn xs) (.slice (some ⟨b, o, none⟩) xs.length cap)
  | fp (xs : List AV) (b o sz i off : Nat) (f : Nat → Nat → Value) (hL : Lay w D xs b o sz f) (hi : i < xs.length) (ho : off < sz)
      (h : ∀ (i : Nat) (x : AV) (j : Nat) v, xs[i]? = some x → x.cells[j]? = some v → RepF w D v (f i j)) : RepF w D (.fp xs i off) (.pointer (some ⟨b, o + i * sz + off, none⟩))

/-- What an owned key holds. -/
inductive Ent where
  | box (cs : List AV)
  | arr (sz : Nat) (xs : List AV) (stale : Bool)
  | dead
abbrev Heap := Nat → Option Ent
abbrev Map := Nat → List (Nat × Nat)
def bsize (w : World) (b : Nat) : Nat := ((w.shape? b).map (·.2)).getD 0

/-- The abstract value v reads as c; the keys' blocks are told by β. -/
inductive RepV (w : World) (D : Nat → Prop) (h : Heap) (β : Map) : AV → Value → Prop
  | fz (v : AV) (c : Value) (hf : RepF w D v c) : RepV w D h β v c
  | agg (cs : List AV) (c : Array Value) (hl : c.size = cs.length) (h1 : ∀ i, i < c.size → (c.getD i undef).oneCell' = true) (hh : ∀ (i : Nat) v, cs[i]? = some v → RepV w D h β v (c.getD i undef)) : RepV w D h β (.agg cs) (.agg c)
  | fn (f : Nat) (caps : List AV) (c : Array Value) (hl : c.size = caps.length) (hh : ∀ (i : Nat) v, caps[i]? = some v → RepV w D h β v (c.getD i undef)) : RepV w D h β (.fn f caps) (.func (.func f) #[] c)
  | tup (vs : List AV) (c : Array Value) (hl : c.size = vs.length) (hh : ∀ (i : Nat) v, vs[i]? = some v → RepV w D h β v (c.getD i undef)) : RepV w D h β (.tup vs) (.tuple c)
  | dref (k off len : Nat) (c : Value) (hk : h k = some .dead) (h1 : c.oneCell' = true) : RepV w D h β (.ref k off len) c
  | dptr (k i off : Nat) (c : Value) (hk : h k = some .dead) (h1 : c.oneCell' = true) : RepV w D h β (.ptr k i off) c
  | ref (k off len sz : Nat) (xs : List AV) (st : Bool) (b n cap : Nat) (hk : h k = some (.arr sz xs st)) (hb : (b, n) ∈ β k) (hn : off + len ≤ n) (hc : len ≤ cap) (hs : (off + cap) * sz ≤ bsize w b) :
      RepV w D h β (.ref k off len) (.slice (some ⟨b, off * sz, none⟩) len cap)
  | ref0 (k off sz : Nat) (xs : List AV) (st : Bool) (a : Option Addr) (hk : h k = some (.arr sz xs st)) (hn : off ≤ xs.length) : RepV w D h β (.ref k off 0) (.slice a 0 0)
  | pbox (k off : Nat) (cs : List AV) (b n : Nat) (hk : h k = some (.box cs)) (hb : (b, n) ∈ β k) : RepV w D h β (.ptr k 0 off) (.pointer (some ⟨b, off, none⟩))
  | parr (k i off sz : Nat) (xs : List AV) (st : Bool) (b n : Nat) (hk : h k = some (.arr sz xs st)) (hb : (b, n) ∈ β k) (hi : i < n) (ho : off < sz) :
      RepV w D h β (.ptr k i off) (.pointer (some ⟨b, i * sz + off, none⟩))

/-- The blocks that are owned, and those that X keeps. -/
def Dom (X : Nat → Prop) (β : Map) (b : Nat) : Prop := X b ∨ ∃ k n, (b, n) ∈ β k

def EntOK (w : World) (D : Nat → Prop) (h : Heap) (β : Map) (k : Nat) : Ent → Prop
  | .box cs => ∃ b c el, β k = [(b, 0)] ∧ w.heap[b]? = some (.cells c el (0, 0)) ∧ c.size = cs.length ∧ (∀ i, i < c.size → (c.getD i undef).oneCell' = true) ∧ ∀ (i : Nat) v, cs[i]? = some v → RepV w D h β v (c.getD i undef)
  | .arr sz xs st => 1 ≤ sz ∧ xs.length ≤ maxN ∧ (xs ≠ [] → β k ≠ []) ∧ (∀ (i : Nat) (x : AV), xs[i]? = some x → x.cells.length = sz) ∧
      (∀ b n r, β k = (b, n) :: r → n = xs.length ∧ (st = false → ∀ b' n', (b', n') ∈ r → n' = 0) ∧ ∀ b' n', (b', n') ∈ r → n' < xs.length) ∧
      ∃ f : Nat → Nat → Value, (∀ (i : Nat) (x : AV) (j : Nat) v, xs[i]? = some x → x.cells[j]? = some v → RepF w D v (f i j)) ∧ (∀ i j, i < xs.length → j < sz → (f i j).oneCell' = true) ∧
        ∀ b n, (b, n) ∈ β k → ∃ c el, w.heap[b]? = some (.cells c el (0, 0)) ∧ n * sz ≤ c.size ∧ ∀ i j, i < n → j < sz → c[i * sz + j]? = some (f i j)
  | .dead => β k = []

structure HOK (X : Nat → Prop) (h : Heap) (β : Map) (w : World) : Prop where
  ent : ∀ k e, h k = some e → EntOK w (Dom X β) h β k e
  off : ∀ k, h k = none → β k = []
  disj : ∀ k k' b n n', (b, n) ∈ β k → (b, n') ∈ β k' → k = k'
  free : ∀ k b n, (b, n) ∈ β k → ¬ X b
  lt : ∀ b, Dom X β b → b < w.heap.size

/-- How a world and what is known of it goes on: what nobody owns stays, what is owned keeps its place. -/
structure Evo (w : World) (D : Nat → Prop) (h : Heap) (β : Map) (w' : World) (D' : Nat → Prop) (h' : Heap) (β' : Map) : Prop where
  size : w.heap.size ≤ w'.heap.size
  fz : ∀ b, b < w.heap.size → ¬ D b → w'.heap[b]? = w.heap[b]? ∧ ¬ D' b
  bs : ∀ k b n, (b, n) ∈ β k → bsize w' b = bsize w b
  key : ∀ k e, h k = some e → h' k = some .dead ∨ match e with
    | .dead => False
    | .box _ => (∃ cs', h' k = some (.box cs')) ∧ ∀ b n, (b, n) ∈ β k → (b, n) ∈ β' k
    | .arr sz xs _ => (∃ xs' st', h' k = some (.arr sz xs' st') ∧ xs.length ≤ xs'.length) ∧ ∀ b n, (b, n) ∈ β k → ∃ n', n ≤ n' ∧ (b, n') ∈ β' k

theorem Lay.evo {w w' : World} {D D' : Nat → Prop} {xs : List AV} {b o sz : Nat} {f : Nat → Nat → Value} (hL : Lay w D xs b o sz f) (hs : w.heap.size ≤ w'.heap.size)
    (hf : ∀ b, b < w.heap.size → ¬ D b → w'.heap[b]? = w.heap[b]? ∧ ¬ D' b) : Lay w' D' xs b o sz f :=
  ⟨Nat.lt_of_lt_of_le hL.lt hs, (hf b hL.lt hL.nd).2, hL.pos, hL.max, hL.wide, fun i j hi hj => (World.cell?_of_block (a := ⟨b, o + i * sz + j, none⟩) (hf b hL.lt hL.nd).1).trans (hL.cell i j hi hj), hL.one⟩
theorem RepF.evo {w w' : World} {D D' : Nat → Prop} (hs : w.heap.size ≤ w'.heap.size) (hf : ∀ b, b < w.heap.size → ¬ D b → w'.heap[b]? = w.heap[b]? ∧ ¬ D' b)
    {v : AV} {c : Value} (h : RepF w D v c) : RepF w' D' v c := by
  induction h with
  | bot c => exact .bot c
  | gh n c => exact .gh n c
  | s v => exact .s v
  | agg cs c hl h1 _ ih => exact .agg cs c hl h1 ih
  | nil a cap => exact .nil a cap
  | nil1 a cap => exact .nil1 a cap
  | sl nn xs b o sz cap f hx hL hc _ ih => exact .sl nn xs b o sz cap f hx (hL.evo hs hf) hc ih
  | fp xs b o sz i off f hL hi ho _ ih => exact .fp xs b o sz i off f (hL.evo hs hf) hi ho ih
theorem RepV.evo {w w' : World} {D D' : Nat → Prop} {h h' : Heap} {β β' : Map} (E : Evo w D h β w' D' h' β') {v : AV} {c : Value} (hv : RepV w D h β v c) : RepV w' D' h' β' v c := by
  induction hv with
  | fz v c hf => exact .fz v c (hf.evo E.size E.fz)
  | agg cs c hl h1 _ ih => exact .agg cs c hl h1 ih
  | fn f caps c hl _ ih => exact .fn f caps c hl ih
  | tup vs c hl _ ih => exact .tup vs c hl ih
  | dref k off len c hk h1 => exact .dref _ _ _ _ ((E.key k _ hk).resolve_right (fun f => f)) h1
  | dptr k i off c hk h1 => exact .dptr _ _ _ _ ((E.key k _ hk).resolve_right (fun f => f)) h1
  | ref k off len sz xs st b n cap hk hb hn hc hs =>
    rcases E.key k _ hk with hd | ⟨⟨xs', st', hk', _⟩, hm⟩
    · exact .dref _ _ _ _ hd rfl
    · obtain ⟨n', hn', hb'⟩ := hm b n hb
      exact .ref k off len sz xs' st' b n' cap hk' hb' (Nat.le_trans hn hn') hc (by rw [E.bs k b n hb]; exact hs)
  | ref0 k off sz xs st a hk hn =>
    rcases E.key k _ hk with hd | ⟨⟨xs', st', hk', hl⟩, hm⟩
    · exact .dref _ _ _ _ hd rfl
    · exact .ref0 k off sz xs' st' a hk' (Nat.le_trans hn hl)
  | pbox k off cs b n hk hb =>
    rcases E.key k _ hk with hd | ⟨⟨cs', hk'⟩, hm⟩
    · exact .dptr _ _ _ _ hd rfl
    · exact .pbox k off cs' b n hk' (hm b n hb)
  | parr k i off sz xs st b n hk hb hi ho =>
    rcases E.key k _ hk with hd | ⟨⟨xs', st', hk', hl⟩, hm⟩
    · exact .dptr _ _ _ _ hd rfl
    · obtain ⟨n', hn', hb'⟩ := hm b n hb
      exact .parr k i off sz xs' st' b n' hk' hb' (Nat.lt_of_lt_of_le hi hn') ho

/-- What a step makes of a world and of what is owned in it. -/
structure Goes (X : Nat → Prop) (w : World) (h : Heap) (β : Map) (w' : World) (h' : Heap) (β' : Map) : Prop where
  size : w.heap.size ≤ w'.heap.size
  keep : ∀ b, b < w.heap.size → (∀ k n, (b, n) ∉ β k) → w'.heap[b]? = w.heap[b]?
  own : ∀ k b n, (b, n) ∈ β' k → (∃ k' n', (b, n') ∈ β k') ∨ w.heap.size ≤ b
  bs : ∀ k b n, (b, n) ∈ β k → bsize w' b = bsize w b
  key : ∀ k e, h k = some e → h' k = some .dead ∨ match e with
    | .dead => False
    | .box _ => (∃ cs', h' k = some (.box cs')) ∧ ∀ b n, (b, n) ∈ β k → (b, n) ∈ β' k
    | .arr sz xs _ => (∃ xs' st', h' k = some (.arr sz xs' st') ∧ xs.length ≤ xs'.length) ∧ ∀ b n, (b, n) ∈ β k → ∃ n', n ≤ n' ∧ (b, n') ∈ β' k
  hok : HOK X h' β' w'
  os : w'.os = w.os
  tape : w'.tape = w.tape
  output : w'.output = w.output

theorem Goes.evo {X : Nat → Prop} {w w' : World} {h h' : Heap} {β β' : Map} (G : Goes X w h β w' h' β') : Evo w (Dom X β) h β w' (Dom X β') h' β' where
  size := G.size
  fz b hb hd := by
    have h1 : ∀ k n, (b, n) ∉ β k := fun k n hm => hd (.inr ⟨k, n, hm⟩)
    refine ⟨G.keep b hb h1, ?_⟩
    rintro (hx | ⟨k, n, hm⟩)
    · exact hd (.inl hx)
    · rcases G.own k b n hm with ⟨k', n', h2⟩ | h2
      · exact h1 _ _ h2
      · omega
  bs := G.bs
  key := G.key
theorem keyRefl (h : Heap) (β : Map) : ∀ k e, h k = some e → h k = some .dead ∨ match e with
    | .dead => False
    | .box _ => (∃ cs', h k = some (.box cs')) ∧ ∀ b n, (b, n) ∈ β k → (b, n) ∈ β k
    | .arr sz xs _ => (∃ xs' st', h k = some (.arr sz xs' st') ∧ xs.length ≤ xs'.length) ∧ ∀ b n, (b, n) ∈ β k → ∃ n', n ≤ n' ∧ (b, n') ∈ β k := by
  intro k e he
  cases e with
  | dead => exact .inl he
  | box cs => exact .inr ⟨⟨cs, he⟩, fun _ _ h => h⟩
  | arr sz xs st => exact .inr ⟨⟨xs, st, he, Nat.le_refl _⟩, fun _ n h => ⟨n, Nat.le_refl _, h⟩⟩
theorem Goes.refl {X : Nat → Prop} {h : Heap} {β : Map} {w : World} (H : HOK X h β w) : Goes X w h β w h β :=
  ⟨Nat.le_refl _, fun _ _ _ => rfl, fun k _ n hm => .inl ⟨k, n, hm⟩, fun _ _ _ _ => rfl, keyRefl h β, H, rfl, rfl, rfl⟩
theorem HOK.drew {X : Nat → Prop} {h : Heap} {β : Map} {w : World} (H : HOK X h β w) (n : Nat) : HOK X h β { w with drawn := n } := by
  have ev : ∀ {v c}, RepV w (Dom X β) h β v c → RepV { w with drawn := n } (Dom X β) h β v c := fun hv =>
    RepV.evo (w := w) (w' := { w with drawn := n }) (D' := Dom X β) (h' := h) (β' := β) ⟨Nat.le_refl _, fun _ _ hd => ⟨rfl, hd⟩, fun _ _ _ _ => rfl, keyRefl h β⟩ hv
  have ef : ∀ {v c}, RepF w (Dom X β) v c → RepF { w with drawn := n } (Dom X β) v c := fun hv => RepF.evo (w := w) (w' := { w with drawn := n }) (D' := Dom X β) (Nat.le_refl _) (fun _ _ hd => ⟨rfl, hd⟩) hv
  refine ⟨fun k e he => ?_, H.off, H.disj, H.free, H.lt⟩
  have := H.ent k e he
  cases e with
  | dead => exact this
  | box cs =>
    obtain ⟨b, c, el, h1, h2, h3, h4, h5⟩ := this
    exact ⟨b, c, el, h1, h2, h3, h4, fun i v hv => ev (h5 i v hv)⟩
  | arr sz xs st =>
    obtain ⟨h1, h2, h3, h4, h5, f, h6, h7⟩ := this
    exact ⟨h1, h2, h3, h4, h5, f, fun i x j v hx hv => ef (h6 i x j v hx hv), h7⟩
theorem Goes.drew {X : Nat → Prop} {h : Heap} {β : Map} {w : World} (H : HOK X h β w) (n : Nat) : Goes X w h β { w with drawn := n } h β :=
  ⟨Nat.le_refl _, fun _ _ _ => rfl, fun k _ n hm => .inl ⟨k, n, hm⟩, fun _ _ _ _ => rfl, keyRefl h β, H.drew n, rfl, rfl, rfl⟩
theorem Goes.trans {X : Nat → Prop} {w w' w'' : World} {h h' h'' : Heap} {β β' β'' : Map} (H : HOK X h β w) (G : Goes X w h β w' h' β') (K : Goes X w' h' β' w'' h'' β'') : Goes X w h β w'' h'' β'' where
  size := Nat.le_trans G.size K.size
  keep b hb hn := by
    rw [K.keep b (Nat.lt_of_lt_of_le hb G.size), G.keep b hb hn]
    intro k n hm
    rcases G.own k b n hm with ⟨k', n', h2⟩ | h2
    · exact hn _ _ h2
    · omega
  own k b n hm := by
    rcases K.own k b n hm with ⟨k', n', h2⟩ | h2
    · exact G.own k' b n' h2
    · exact .inr (Nat.le_trans G.size h2)
  bs k b n hm := by
    have hb := H.lt b (.inr ⟨k, n, hm⟩)
    by_cases hd : ∃ k n, (b, n) ∈ β' k
    · obtain ⟨k', n', hm'⟩ := hd
      rw [K.bs k' b n' hm', G.bs k b n hm]
    · rw [← G.bs k b n hm]
      unfold bsize World.shape?
      rw [K.keep b (Nat.lt_of_lt_of_le hb G.size) fun k n hm => hd ⟨k, n, hm⟩]
  key k e he := by
    rcases G.key k e he with h1 | h1
    · rcases K.key k _ h1 with h2 | h2
      · exact .inl h2
      · exact h2.elim
    · cases e with
      | dead => exact h1.elim
      | box cs =>
        obtain ⟨⟨cs', h2⟩, h3⟩ := h1
        rcases K.key k _ h2 with h4 | ⟨h4, h5⟩
        · exact .inl h4
        · exact .inr ⟨h4, fun b n hm => h5 b n (h3 b n hm)⟩
      | arr sz xs st =>
        obtain ⟨⟨xs', st', h2, hl⟩, h3⟩ := h1
        rcases K.key k _ h2 with h4 | ⟨⟨xs'', st'', h4, hl'⟩, h5⟩
        · exact .inl h4
        · refine .inr ⟨⟨xs'', st'', h4, Nat.le_trans hl hl'⟩, fun b n hm => ?_⟩
          obtain ⟨n', hn', hm'⟩ := h3 b n hm
          obtain ⟨n'', hn'', hm''⟩ := h5 b n' hm'
          exact ⟨n'', Nat.le_trans hn' hn'', hm''⟩
  hok := K.hok
  os := K.os.trans G.os
  tape := K.tape.trans G.tape
  output := K.output.trans G.output
end Av
end Go.Proofs.Ytjbldhhgooihfaa
