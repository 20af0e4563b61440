/- Library: abstract values. -/
import Derived.Below
import Derived.Orders
import Derived.LoopN
import Derived.Laws.Sem
import Derived.KernelRfl
import Derived.Laws.AppendOwn
import Derived.Laws.CopyRow
import Derived.IntWalk
import Derived.Laws.Append
import Derived.Great.FillDense
import Derived.Laws.Tables
import Derived.Laws.MakeOwn
/- Abstract values, and what they say of a world: trees for what no one changes any more, keys for the blocks that a call owns. -/
namespace Go.Proofs.Ytianonghhmiooaa
namespace Av
set_option linter.unusedSimpArgs false
set_option linter.unusedVariables false

/-- An abstract value. 'sl': a slice whose cells stay as they are ('nn': it is not nil); 'ref': a slice of an owned array; 'ptr': the address of a cell of an owned block; 'fp': the address of a cell that stays as it is. -/
inductive AV where
  | bot
  | gh (n : Nat)
  | s (v : Value)
  | agg (cs : List AV)
  | sl (nn : Bool) (xs : List AV)
  | ref (k off len : Nat)
  | ptr (k i off : Nat)
  | fp (xs : List AV) (i off : Nat)
  | fn (f : Nat) (caps : List AV)
  | tup (vs : List AV)
  deriving Inhabited
def AV.cells : AV → List AV
  | .agg cs => cs
  | v => [v]
def AV.isAgg : AV → Bool
  | .agg _ => true
  | _ => false

def maxN : Nat := 9223372036854775807

/-- The elements xs lie at ⟨b, o⟩, each sz cells wide, in a block that no one owns; f: what the cells hold. -/
structure Lay (w : World) (D : Nat → Prop) (xs : List AV) (b o sz : Nat) (f : Nat → Nat → Value) : Prop where
  lt : b < w.heap.size
  nd : ¬ D b
  pos : 1 ≤ sz
  max : xs.length ≤ maxN
  wide : ∀ (i : Nat) (x : AV), xs[i]? = some x → x.cells.length = sz
  cell : ∀ i j, i < xs.length → j < sz → w.cell? ⟨b, o + i * sz + j, none⟩ = some (f i j)
  one : ∀ i j, i < xs.length → j < sz → (f i j).oneCell' = true

/-- The abstract value v, in which nothing is owned, reads as c. -/
inductive RepF (w : World) (D : Nat → Prop) : AV → Value → Prop
  | bot (c : Value) : RepF w D .bot c
  | gh (n : Nat) (c : Value) : RepF w D (.gh n) c
  | s (v : Value) : RepF w D (.s v) v
  | agg (cs : List AV) (c : Array Value) (hl : c.size = cs.length) (h1 : ∀ i, i < c.size → (c.getD i undef).oneCell' = true) (h : ∀ (i : Nat) v, cs[i]? = some v → RepF w D v (c.getD i undef)) : RepF w D (.agg cs) (.agg c)
  | nil (a : Option Addr) (cap : Nat) : RepF w D (.sl false []) (.slice a 0 cap)
  | nil1 (a : Addr) (cap : Nat) : RepF w D (.sl true []) (.slice (some a) 0 cap)
  | sl (nn : Bool) (xs : List AV) (b o sz cap : Nat) (f : Nat → Nat → Value) (hx : xs ≠ []) (hL : Lay w D xs b o sz f) (hc : xs.length ≤ cap)
      (h : ∀ (i : Nat) (x : AV) (j : Nat) v, xs[i]? = some x → x.cells[j]? = some v → RepF w D v (f i j)) : RepF w D (.sl nn xs) (.slice (some ⟨b, o, none⟩) xs.length cap)
  | fp (xs : List AV) (b o sz i off : Nat) (f : Nat → Nat → Value) (hL : Lay w D xs b o sz f) (hi : i < xs.length) (ho : off < sz)
      (h : ∀ (i : Nat) (x : AV) (j : Nat) v, xs[i]? = some x → x.cells[j]? = some v → RepF w D v (f i j)) : RepF w D (.fp xs i off) (.pointer (some ⟨b, o + i * sz + off, none⟩))

/-- Of an array: 'stale': older blocks hold what was; 'nest': its cells may hold keys. -/
structure Fl where
  stale : Bool
  nest : Bool
instance : Coe Bool Fl := ⟨fun b => ⟨b, false⟩⟩
/-- What an owned key holds. -/
inductive Ent where
  | box (cs : List AV)
  | arr (sz : Nat) (xs : List AV) (fl : Fl)
  | dead
abbrev Heap := Nat → Option Ent
abbrev Map := Nat → List (Nat × Nat)
def bsize (w : World) (b : Nat) : Nat := ((w.shape? b).map (·.2)).getD 0

/-- The abstract value v reads as c; the keys' blocks are told by β. -/
inductive RepV (w : World) (D : Nat → Prop) (h : Heap) (β : Map) : AV → Value → Prop
  | fz (v : AV) (c : Value) (hf : RepF w D v c) : RepV w D h β v c
  | agg (cs : List AV) (c : Array Value) (hl : c.size = cs.length) (h1 : ∀ i, i < c.size → (c.getD i undef).oneCell' = true) (hh : ∀ (i : Nat) v, cs[i]? = some v → RepV w D h β v (c.getD i undef)) : RepV w D h β (.agg cs) (.agg c)
  | fn (f : Nat) (caps : List AV) (c : Array Value) (hl : c.size = caps.length) (hh : ∀ (i : Nat) v, caps[i]? = some v → RepV w D h β v (c.getD i undef)) : RepV w D h β (.fn f caps) (.func (.func f) #[] c)
  | tup (vs : List AV) (c : Array Value) (hl : c.size = vs.length) (hh : ∀ (i : Nat) v, vs[i]? = some v → RepV w D h β v (c.getD i undef)) : RepV w D h β (.tup vs) (.tuple c)
  | dref (k off len : Nat) (c : Value) (hk : h k = some .dead) (h1 : c.oneCell' = true) : RepV w D h β (.ref k off len) c
  | dptr (k i off : Nat) (c : Value) (hk : h k = some .dead) (h1 : c.oneCell' = true) : RepV w D h β (.ptr k i off) c
  | ref (k off len sz : Nat) (xs : List AV) (st : Fl) (b n cap : Nat) (hk : h k = some (.arr sz xs st)) (hb : (b, n) ∈ β k) (hn : off + len ≤ n) (hc : len ≤ cap) (hs : (off + cap) * sz ≤ bsize w b) :
      RepV w D h β (.ref k off len) (.slice (some ⟨b, off * sz, none⟩) len cap)
  | ref0 (k off sz : Nat) (xs : List AV) (st : Fl) (a : Option Addr) (hk : h k = some (.arr sz xs st)) (hn : off ≤ xs.length) : RepV w D h β (.ref k off 0) (.slice a 0 0)
  | pbox (k off : Nat) (cs : List AV) (b n : Nat) (hk : h k = some (.box cs)) (hb : (b, n) ∈ β k) : RepV w D h β (.ptr k 0 off) (.pointer (some ⟨b, off, none⟩))
  | parr (k i off sz : Nat) (xs : List AV) (st : Fl) (b n : Nat) (hk : h k = some (.arr sz xs st)) (hb : (b, n) ∈ β k) (hi : i < n) (ho : off < sz) :
      RepV w D h β (.ptr k i off) (.pointer (some ⟨b, i * sz + off, none⟩))

/-- The blocks that are owned, and those that X keeps. -/
def Dom (X : Nat → Prop) (β : Map) (b : Nat) : Prop := X b ∨ ∃ k n, (b, n) ∈ β k

/-- What the cells of an array hold. -/
def ContOK (w : World) (D : Nat → Prop) (h : Heap) (β : Map) (nest : Bool) (xs : List AV) (f : Nat → Nat → Value) : Prop :=
  ∀ (i : Nat) (x : AV) (j : Nat) v, xs[i]? = some x → x.cells[j]? = some v → RepV w D h β v (f i j) ∧ (nest = false → RepF w D v (f i j))
theorem ContOK.ofF {w : World} {D : Nat → Prop} {h : Heap} {β : Map} {nest : Bool} {xs : List AV} {f : Nat → Nat → Value} (H : ∀ (i : Nat) (x : AV) (j : Nat) v, xs[i]? = some x → x.cells[j]? = some v → RepF w D v (f i j)) : ContOK w D h β nest xs f :=
  fun i x j v hx hv => ⟨.fz _ _ (H i x j v hx hv), fun _ => H i x j v hx hv⟩
theorem ContOK.toF {w : World} {D : Nat → Prop} {h : Heap} {β : Map} {nest : Bool} {xs : List AV} {f : Nat → Nat → Value} (H : ContOK w D h β nest xs f) (hn : nest = false) (i : Nat) (x : AV) (j : Nat) (v : AV) (hx : xs[i]? = some x) (hv : x.cells[j]? = some v) : RepF w D v (f i j) :=
  (H i x j v hx hv).2 hn
theorem ContOK.toV {w : World} {D : Nat → Prop} {h : Heap} {β : Map} {nest : Bool} {xs : List AV} {f : Nat → Nat → Value} (H : ContOK w D h β nest xs f) (i : Nat) (x : AV) (j : Nat) (v : AV) (hx : xs[i]? = some x) (hv : x.cells[j]? = some v) : RepV w D h β v (f i j) :=
  (H i x j v hx hv).1

def EntOK (w : World) (D : Nat → Prop) (h : Heap) (β : Map) (k : Nat) : Ent → Prop
  | .box cs => ∃ b c el, β k = [(b, 0)] ∧ w.heap[b]? = some (.cells c el (0, 0)) ∧ c.size = cs.length ∧ (∀ i, i < c.size → (c.getD i undef).oneCell' = true) ∧ ∀ (i : Nat) v, cs[i]? = some v → RepV w D h β v (c.getD i undef)
  | .arr sz xs st => 1 ≤ sz ∧ xs.length ≤ maxN ∧ (xs ≠ [] → β k ≠ []) ∧ (∀ (i : Nat) (x : AV), xs[i]? = some x → x.cells.length = sz) ∧
      (∀ b n r, β k = (b, n) :: r → n = xs.length ∧ (st.stale = false → ∀ b' n', (b', n') ∈ r → n' = 0) ∧ ∀ b' n', (b', n') ∈ r → n' < xs.length) ∧
      ∃ f : Nat → Nat → Value, ContOK w D h β st.nest xs f ∧ (∀ i j, i < xs.length → j < sz → (f i j).oneCell' = true) ∧
        ∀ b n, (b, n) ∈ β k → ∃ c el, w.heap[b]? = some (.cells c el (0, 0)) ∧ n * sz ≤ c.size ∧ ∀ i j, i < n → j < sz → c[i * sz + j]? = some (f i j)
  | .dead => β k = []

structure HOK (X : Nat → Prop) (h : Heap) (β : Map) (w : World) : Prop where
  ent : ∀ k e, h k = some e → EntOK w (Dom X β) h β k e
  off : ∀ k, h k = none → β k = []
  disj : ∀ k k' b n n', (b, n) ∈ β k → (b, n') ∈ β k' → k = k'
  free : ∀ k b n, (b, n) ∈ β k → ¬ X b
  lt : ∀ b, Dom X β b → b < w.heap.size

/-- How a world and what is known of it goes on: what nobody owns stays, what is owned keeps its place. -/
structure Evo (w : World) (D : Nat → Prop) (h : Heap) (β : Map) (w' : World) (D' : Nat → Prop) (h' : Heap) (β' : Map) : Prop where
  size : w.heap.size ≤ w'.heap.size
  fz : ∀ b, b < w.heap.size → ¬ D b → w'.heap[b]? = w.heap[b]? ∧ ¬ D' b
  bs : ∀ k b n, (b, n) ∈ β k → bsize w' b = bsize w b
  key : ∀ k e, h k = some e → h' k = some .dead ∨ match e with
    | .dead => False
    | .box _ => (∃ cs', h' k = some (.box cs')) ∧ ∀ b n, (b, n) ∈ β k → (b, n) ∈ β' k
    | .arr sz xs _ => (∃ xs' st', h' k = some (.arr sz xs' st') ∧ xs.length ≤ xs'.length) ∧ ∀ b n, (b, n) ∈ β k → ∃ n', n ≤ n' ∧ (b, n') ∈ β' k

theorem Lay.evo {w w' : World} {D D' : Nat → Prop} {xs : List AV} {b o sz : Nat} {f : Nat → Nat → Value} (hL : Lay w D xs b o sz f) (hs : w.heap.size ≤ w'.heap.size)
    (hf : ∀ b, b < w.heap.size → ¬ D b → w'.heap[b]? = w.heap[b]? ∧ ¬ D' b) : Lay w' D' xs b o sz f :=
  ⟨Nat.lt_of_lt_of_le hL.lt hs, (hf b hL.lt hL.nd).2, hL.pos, hL.max, hL.wide, fun i j hi hj => (World.cell?_of_block (a := ⟨b, o + i * sz + j, none⟩) (hf b hL.lt hL.nd).1).trans (hL.cell i j hi hj), hL.one⟩
theorem RepF.evo {w w' : World} {D D' : Nat → Prop} (hs : w.heap.size ≤ w'.heap.size) (hf : ∀ b, b < w.heap.size → ¬ D b → w'.heap[b]? = w.heap[b]? ∧ ¬ D' b)
    {v : AV} {c : Value} (h : RepF w D v c) : RepF w' D' v c := by
  induction h with
  | bot c => exact .bot c
  | gh n c => exact .gh n c
  | s v => exact .s v
  | agg cs c hl h1 _ ih => exact .agg cs c hl h1 ih
  | nil a cap => exact .nil a cap
  | nil1 a cap => exact .nil1 a cap
  | sl nn xs b o sz cap f hx hL hc _ ih => exact .sl nn xs b o sz cap f hx (hL.evo hs hf) hc ih
  | fp xs b o sz i off f hL hi ho _ ih => exact .fp xs b o sz i off f (hL.evo hs hf) hi ho ih
theorem RepV.evo {w w' : World} {D D' : Nat → Prop} {h h' : Heap} {β β' : Map} (E : Evo w D h β w' D' h' β') {v : AV} {c : Value} (hv : RepV w D h β v c) : RepV w' D' h' β' v c := by
  induction hv with
  | fz v c hf => exact .fz v c (hf.evo E.size E.fz)
  | agg cs c hl h1 _ ih => exact .agg cs c hl h1 ih
  | fn f caps c hl _ ih => exact .fn f caps c hl ih
  | tup vs c hl _ ih => exact .tup vs c hl ih
  | dref k off len c hk h1 => exact .dref _ _ _ _ ((E.key k _ hk).resolve_right (fun f => f)) h1
  | dptr k i off c hk h1 => exact .dptr _ _ _ _ ((E.key k _ hk).resolve_right (fun f => f)) h1
  | ref k off len sz xs st b n cap hk hb hn hc hs =>
    rcases E.key k _ hk with hd | ⟨⟨xs', st', hk', _⟩, hm⟩
    · exact .dref _ _ _ _ hd rfl
    · obtain ⟨n', hn', hb'⟩ := hm b n hb
      exact .ref k off len sz xs' st' b n' cap hk' hb' (Nat.le_trans hn hn') hc (by rw [E.bs k b n hb]; exact hs)
  | ref0 k off sz xs st a hk hn =>
    rcases E.key k _ hk with hd | ⟨⟨xs', st', hk', hl⟩, hm⟩
    · exact .dref _ _ _ _ hd rfl
    · exact .ref0 k off sz xs' st' a hk' (Nat.le_trans hn hl)
  | pbox k off cs b n hk hb =>
    rcases E.key k _ hk with hd | ⟨⟨cs', hk'⟩, hm⟩
    · exact .dptr _ _ _ _ hd rfl
    · exact .pbox k off cs' b n hk' (hm b n hb)
  | parr k i off sz xs st b n hk hb hi ho =>
    rcases E.key k _ hk with hd | ⟨⟨xs', st', hk', hl⟩, hm⟩
    · exact .dptr _ _ _ _ hd rfl
    · obtain ⟨n', hn', hb'⟩ := hm b n hb
      exact .parr k i off sz xs' st' b n' hk' hb' (Nat.lt_of_lt_of_le hi hn') ho

theorem ContOK.evo {w w' : World} {D D' : Nat → Prop} {h h' : Heap} {β β' : Map} (E : Evo w D h β w' D' h' β') {nest : Bool} {xs : List AV} {f : Nat → Nat → Value} (H : ContOK w D h β nest xs f) : ContOK w' D' h' β' nest xs f :=
  fun i x j v hx hv => ⟨(H i x j v hx hv).1.evo E, fun hn => ((H i x j v hx hv).2 hn).evo E.size E.fz⟩

/-- What a step makes of a world and of what is owned in it. -/
structure Goes (X : Nat → Prop) (w : World) (h : Heap) (β : Map) (w' : World) (h' : Heap) (β' : Map) : Prop where
  size : w.heap.size ≤ w'.heap.size
  keep : ∀ b, b < w.heap.size → (∀ k n, (b, n) ∉ β k) → w'.heap[b]? = w.heap[b]?
  own : ∀ k b n, (b, n) ∈ β' k → (∃ k' n', (b, n') ∈ β k') ∨ w.heap.size ≤ b
  bs : ∀ k b n, (b, n) ∈ β k → bsize w' b = bsize w b
  key : ∀ k e, h k = some e → h' k = some .dead ∨ match e with
    | .dead => False
    | .box _ => (∃ cs', h' k = some (.box cs')) ∧ ∀ b n, (b, n) ∈ β k → (b, n) ∈ β' k
    | .arr sz xs _ => (∃ xs' st', h' k = some (.arr sz xs' st') ∧ xs.length ≤ xs'.length) ∧ ∀ b n, (b, n) ∈ β k → ∃ n', n ≤ n' ∧ (b, n') ∈ β' k
  hok : HOK X h' β' w'
  os : w'.os = w.os
  tape : w'.tape = w.tape
  output : w'.output = w.output

theorem Goes.evo {X : Nat → Prop} {w w' : World} {h h' : Heap} {β β' : Map} (G : Goes X w h β w' h' β') : Evo w (Dom X β) h β w' (Dom X β') h' β' where
  size := G.size
  fz b hb hd := by
    have h1 : ∀ k n, (b, n) ∉ β k := fun k n hm => hd (.inr ⟨k, n, hm⟩)
    refine ⟨G.keep b hb h1, ?_⟩
    rintro (hx | ⟨k, n, hm⟩)
    · exact hd (.inl hx)
    · rcases G.own k b n hm with ⟨k', n', h2⟩ | h2
      · exact h1 _ _ h2
      · omega
  bs := G.bs
  key := G.key
theorem keyRefl (h : Heap) (β : Map) : ∀ k e, h k = some e → h k = some .dead ∨ match e with
    | .dead => False
    | .box _ => (∃ cs', h k = some (.box cs')) ∧ ∀ b n, (b, n) ∈ β k → (b, n) ∈ β k
    | .arr sz xs _ => (∃ xs' st', h k = some (.arr sz xs' st') ∧ xs.length ≤ xs'.length) ∧ ∀ b n, (b, n) ∈ β k → ∃ n', n ≤ n' ∧ (b, n') ∈ β k := by
  intro k e he
  cases e with
  | dead => exact .inl he
  | box cs => exact .inr ⟨⟨cs, he⟩, fun _ _ h => h⟩
  | arr sz xs st => exact .inr ⟨⟨xs, st, he, Nat.le_refl _⟩, fun _ n h => ⟨n, Nat.le_refl _, h⟩⟩
theorem Goes.refl {X : Nat → Prop} {h : Heap} {β : Map} {w : World} (H : HOK X h β w) : Goes X w h β w h β :=
  ⟨Nat.le_refl _, fun _ _ _ => rfl, fun k _ n hm => .inl ⟨k, n, hm⟩, fun _ _ _ _ => rfl, keyRefl h β, H, rfl, rfl, rfl⟩
theorem HOK.drew {X : Nat → Prop} {h : Heap} {β : Map} {w : World} (H : HOK X h β w) (n : Nat) : HOK X h β { w with drawn := n } := by
  have ev : ∀ {v c}, RepV w (Dom X β) h β v c → RepV { w with drawn := n } (Dom X β) h β v c := fun hv =>
    RepV.evo (w := w) (w' := { w with drawn := n }) (D' := Dom X β) (h' := h) (β' := β) ⟨Nat.le_refl _, fun _ _ hd => ⟨rfl, hd⟩, fun _ _ _ _ => rfl, keyRefl h β⟩ hv
  have ef : ∀ {v c}, RepF w (Dom X β) v c → RepF { w with drawn := n } (Dom X β) v c := fun hv => RepF.evo (w := w) (w' := { w with drawn := n }) (D' := Dom X β) (Nat.le_refl _) (fun _ _ hd => ⟨rfl, hd⟩) hv
  refine ⟨fun k e he => ?_, H.off, H.disj, H.free, H.lt⟩
  have := H.ent k e he
  cases e with
  | dead => exact this
  | box cs =>
    obtain ⟨b, c, el, h1, h2, h3, h4, h5⟩ := this
    exact ⟨b, c, el, h1, h2, h3, h4, fun i v hv => ev (h5 i v hv)⟩
  | arr sz xs st =>
    obtain ⟨h1, h2, h3, h4, h5, f, h6, h7⟩ := this
    exact ⟨h1, h2, h3, h4, h5, f, fun i x j v hx hv => ⟨ev (h6 i x j v hx hv).1, fun hn => ef ((h6 i x j v hx hv).2 hn)⟩, h7⟩
theorem Goes.drew {X : Nat → Prop} {h : Heap} {β : Map} {w : World} (H : HOK X h β w) (n : Nat) : Goes X w h β { w with drawn := n } h β :=
  ⟨Nat.le_refl _, fun _ _ _ => rfl, fun k _ n hm => .inl ⟨k, n, hm⟩, fun _ _ _ _ => rfl, keyRefl h β, H.drew n, rfl, rfl, rfl⟩
theorem Goes.trans {X : Nat → Prop} {w w' w'' : World} {h h' h'' : Heap} {β β' β'' : Map} (H : HOK X h β w) (G : Goes X w h β w' h' β') (K : Goes X w' h' β' w'' h'' β'') : Goes X w h β w'' h'' β'' where
  size := Nat.le_trans G.size K.size
  keep b hb hn := by
    rw [K.keep b (Nat.lt_of_lt_of_le hb G.size), G.keep b hb hn]
    intro k n hm
    rcases G.own k b n hm with ⟨k', n', h2⟩ | h2
    · exact hn _ _ h2
    · omega
  own k b n hm := by
    rcases K.own k b n hm with ⟨k', n', h2⟩ | h2
    · exact G.own k' b n' h2
    · exact .inr (Nat.le_trans G.size h2)
  bs k b n hm := by
    have hb := H.lt b (.inr ⟨k, n, hm⟩)
    by_cases hd : ∃ k n, (b, n) ∈ β' k
    · obtain ⟨k', n', hm'⟩ := hd
      rw [K.bs k' b n' hm', G.bs k b n hm]
    · rw [← G.bs k b n hm]
      unfold bsize World.shape?
      rw [K.keep b (Nat.lt_of_lt_of_le hb G.size) fun k n hm => hd ⟨k, n, hm⟩]
  key k e he := by
    rcases G.key k e he with h1 | h1
    · rcases K.key k _ h1 with h2 | h2
      · exact .inl h2
      · exact h2.elim
    · cases e with
      | dead => exact h1.elim
      | box cs =>
        obtain ⟨⟨cs', h2⟩, h3⟩ := h1
        rcases K.key k _ h2 with h4 | ⟨h4, h5⟩
        · exact .inl h4
        · exact .inr ⟨h4, fun b n hm => h5 b n (h3 b n hm)⟩
      | arr sz xs st =>
        obtain ⟨⟨xs', st', h2, hl⟩, h3⟩ := h1
        rcases K.key k _ h2 with h4 | ⟨⟨xs'', st'', h4, hl'⟩, h5⟩
        · exact .inl h4
        · refine .inr ⟨⟨xs'', st'', h4, Nat.le_trans hl hl'⟩, fun b n hm => ?_⟩
          obtain ⟨n', hn', hm'⟩ := h3 b n hm
          obtain ⟨n'', hn'', hm''⟩ := h5 b n' hm'
          exact ⟨n'', Nat.le_trans hn' hn'', hm''⟩
  hok := K.hok
  os := K.os.trans G.os
  tape := K.tape.trans G.tape
  output := K.output.trans G.output
end Av
end Go.Proofs.Ytianonghhmiooaa
/- Abstract values: what an operation makes of an abstract state; operations that leave memory alone. -/
namespace Go.Proofs.Ytianonghhmiooaa
namespace Av
set_option linter.unusedSimpArgs false
set_option linter.unusedVariables false

/-- What is used of a type. -/
inductive TD where
  | str (fs : List (Nat × Nat))
  | slice (e : Nat)
  | arr (n e : Nat)
  | int (k : IntKind)
  | bool
  | string
  | ptr (e : Nat)
  | func
  | other
structure TI where
  d : TD
  size : Nat
  bytes : Nat
  zero : List Value
def TD.agg : TD → Bool
  | .str _ | .arr _ _ => true
  | _ => false
def tdOf : TypeDesc → TD
  | .struct fs => .str (fs.toList.map fun f => (f.offset, f.type))
  | .slice e => .slice e
  | .array n e => .arr n e
  | .int k => .int k
  | .bool => .bool
  | .string => .string
  | .pointer e => .ptr e
  | .func .. => .func
  | _ => .other
def tiOf (P : Program) (t : Nat) : Option TI :=
  match P.info? t, P.underlying t with
  | some i, some u => i.zero.map fun z => ⟨tdOf u, i.size, i.bytes, z.cells.toList⟩
  | _, _ => none
/-- The table TT says of the program's types what is so. -/
def TOK (P : Program) (TT : List TI) : Prop := ∀ (t : Nat) ti, TT[t]? = some ti → tiOf P t = some ti
theorem tok_of_all {P : Program} : ∀ (TT : List TI) (n : Nat), (∀ (t : Nat) ti, TT[t]? = some ti → tiOf P (n + t) = some ti) ↔ (match TT with | [] => True | x :: r => tiOf P n = some x ∧ ∀ (t : Nat) ti, r[t]? = some ti → tiOf P (n + 1 + t) = some ti)
  | [], n => by simp
  | x :: r, n => by
    constructor
    · intro h
      refine ⟨h 0 x rfl, fun t ti ht => ?_⟩
      have := h (t + 1) ti ht
      rwa [show n + 1 + t = n + (t + 1) by omega]
    · rintro ⟨h0, h1⟩ t ti ht
      cases t with
      | zero => simp at ht; subst ht; exact h0
      | succ t => rw [show n + (t + 1) = n + 1 + t by omega]; exact h1 t ti ht

theorem tiOf_some {P : Program} {t : Nat} {ti : TI} (h : tiOf P t = some ti) : ∃ i u z, P.info? t = some i ∧ P.underlying t = some u ∧ i.zero = some z ∧ ti.d = tdOf u ∧ ti.size = i.size ∧ ti.bytes = i.bytes ∧ ti.zero = z.cells.toList := by
  unfold tiOf at h
  split at h
  · rename_i i u hi hu
    cases hz : i.zero with
    | none => simp [hz] at h
    | some z =>
      simp [hz] at h
      exact ⟨i, u, z, hi, hu, hz, by rw [← h], by rw [← h], by rw [← h], by rw [← h]⟩
  · cases h
section runs
variable {P : Program} {t : Nat} {ti : TI} (h : tiOf P t = some ti) (w : World)
include h
theorem run_info : ∃ i z, (typeInfo t).run P w = .ok i w ∧ i.size = ti.size ∧ i.bytes = ti.bytes ∧ i.zero = some z ∧ z.cells.toList = ti.zero := by
  obtain ⟨i, u, z, hi, _, hz, _, hs, hb, hzz⟩ := tiOf_some h
  exact ⟨i, z, by simp [typeInfo, hi], hs.symm, hb.symm, hz, hzz.symm⟩
theorem run_size : (sizeOf t).run P w = .ok ti.size w := by
  obtain ⟨i, z, hr, hs, _⟩ := run_info h w
  simp [sizeOf, hr, hs]
theorem run_zero : ∃ z, (zeroValue t).run P w = .ok z w ∧ z.cells.toList = ti.zero := by
  obtain ⟨i, z, hr, _, _, hz, hzz⟩ := run_info h w
  exact ⟨z, by simp [zeroValue, hr, hz], hzz⟩
theorem run_under : ∃ u, (underlying t).run P w = .ok u w ∧ tdOf u = ti.d := by
  obtain ⟨i, u, z, _, hu, _, hd, _⟩ := tiOf_some h
  exact ⟨u, by simp [underlying, hu], hd.symm⟩
theorem run_agg : (isAgg t).run P w = .ok ti.d.agg w := by
  obtain ⟨u, hr, hd⟩ := run_under h w
  rw [← hd]
  simp only [isAgg, Sem.run_bind, hr, Result.andThen_ok]
  cases u <;> rfl
end runs
theorem under_of {P : Program} {t : Nat} (w : World) {u : TypeDesc} (hu : P.underlying t = some u) : (underlying t).run P w = .ok u w := by simp [underlying, hu]
theorem td_slice {u : TypeDesc} {e : Nat} (h : tdOf u = .slice e) : u = .slice e := by cases u <;> simp [tdOf] at h; rw [h]
theorem td_arr {u : TypeDesc} {n e : Nat} (h : tdOf u = .arr n e) : u = .array n e := by cases u <;> simp [tdOf] at h; rw [h.1, h.2]
theorem td_int {u : TypeDesc} {k : IntKind} (h : tdOf u = .int k) : u = .int k := by cases u <;> simp [tdOf] at h; rw [h]
theorem td_bool {u : TypeDesc} (h : tdOf u = .bool) : u = .bool := by cases u <;> simp [tdOf] at h; rfl
theorem td_string {u : TypeDesc} (h : tdOf u = .string) : u = .string := by cases u <;> simp [tdOf] at h; rfl
theorem td_str {u : TypeDesc} {fs : List (Nat × Nat)} (h : tdOf u = .str fs) : ∃ f, u = .struct f ∧ f.toList.map (fun f => (f.offset, f.type)) = fs := by
  cases u with
  | struct f => exact ⟨f, rfl, by simpa [tdOf] using h⟩
  | _ => simp [tdOf] at h

/-- An abstract state: what the slots hold, what is owned. -/
structure St where
  tm : List (Nat × AV)
  h : List (Nat × Ent)
def look : List (Nat × AV) → Nat → AV
  | [], _ => .bot
  | (k, v) :: r, t => bif Nat.beq t k then v else look r t
def lookE : List (Nat × Ent) → Nat → Option Ent
  | [], _ => none
  | (k, e) :: r, t => bif Nat.beq t k then some e else lookE r t
def over (d : List (Nat × Ent)) (h : Heap) : Heap := fun k => match lookE d k with
  | some e => some e
  | none => h k
def opv (tm : Nat → AV) : Operand → AV
  | .tmp t => tm t
  | .const v => .s v
  | .func f => .fn f []
  | .global _ => .bot
def tmpsOf (op : Op) : List Nat := op.operands.toList.filterMap fun | .tmp t => some t | _ => none

/-- An operation comes to a value. -/
def OpDone (P : Program) (N : Value → World → Prop) : Result Next → Prop
  | .ok (.value c) w' => N c w'
  | .ok .skip w' => N undef w'
  | .ok (.enter f args) w' => Calls P f args w' fun e w'' => ∃ c, e = .returned c ∧ N c w''
  | _ => False
def OpSim (P : Program) (X : Nat → Prop) (tm : Nat → AV) (h : Heap) (op : Op) (v : AV) (h' : Heap) : Prop :=
  ∀ (o : Oper) (a : Act) (w : World) (β : Map), o.op = op → HOK X h β w → (∀ t, RepV w (Dom X β) h β (tm t) (a.eval (.tmp t))) →
    OpDone P (fun c w' => ∃ β', Goes X w h β w' h' β' ∧ RepV w' (Dom X β') h' β' v c) ((execOp a.eval o).run P w)
/-- The operation, in each state that agrees with st in the slots that it reads and in the keys r, and in which the keys nw are free, comes to v and writes d. -/
structure Stp (P : Program) (st : St) (op : Op) (v : AV) (d : List (Nat × Ent)) (r nw : List Nat) : Prop where
  run : ∀ (X : Nat → Prop) (tm : Nat → AV) (h : Heap), (∀ t, t ∈ tmpsOf op → tm t = look st.tm t) → (∀ k, k ∈ r → h k = lookE st.h k) → (∀ k, k ∈ nw → h k = none) → OpSim P X tm h op v (over d h)

section
variable {w : World} {D : Nat → Prop} {h : Heap} {β : Map}
theorem opv_rep {tm : Nat → AV} {a : Act} (H : ∀ t, RepV w D h β (tm t) (a.eval (.tmp t))) (x : Operand) : RepV w D h β (opv tm x) (a.eval x) := by
  cases x with
  | tmp t => exact H t
  | const v => exact .fz _ _ (.s v)
  | global g => exact .fz _ _ (.bot _)
  | func f => exact .fn f [] #[] rfl (fun i v hv => by simp at hv)
theorem opv_agree {op : Op} {tm tm' : Nat → AV} (H : ∀ t, t ∈ tmpsOf op → tm t = tm' t) {x : Operand} (hx : x ∈ op.operands) : opv tm x = opv tm' x := by
  cases x with
  | tmp t => exact H t (by simp only [tmpsOf, List.mem_filterMap]; exact ⟨.tmp t, by simpa using hx, rfl⟩)
  | _ => rfl
theorem RepV.s_inv {x c : Value} (hv : RepV w D h β (.s x) c) : c = x := by
  cases hv with
  | fz _ _ hf => cases hf; rfl
theorem arg {op : Op} {tm : Nat → AV} {st : St} {a : Act} (H : ∀ t, RepV w D h β (tm t) (a.eval (.tmp t))) (hg : ∀ t, t ∈ tmpsOf op → tm t = look st.tm t) {x : Operand} (hx : x ∈ op.operands) {v : AV}
    (hv : opv (look st.tm) x = v) : RepV w D h β v (a.eval x) := by
  rw [← hv, ← opv_agree hg hx]
  exact opv_rep H x
theorem arg_s {op : Op} {tm : Nat → AV} {st : St} {a : Act} (H : ∀ t, RepV w D h β (tm t) (a.eval (.tmp t))) (hg : ∀ t, t ∈ tmpsOf op → tm t = look st.tm t) {x : Operand} (hx : x ∈ op.operands) {v : Value}
    (hv : opv (look st.tm) x = .s v) : a.eval x = v := (arg H hg hx hv).s_inv
end
theorem over_nil (h : Heap) : over [] h = h := rfl

/-- An operation that leaves memory alone. -/
theorem stp_val {P : Program} {st : St} {op : Op} {v : AV} {r : List Nat}
    (H : ∀ (o : Oper) (X : Nat → Prop) (tm : Nat → AV) (h : Heap) (w : World) (β : Map) (a : Act), o.op = op → (∀ t, t ∈ tmpsOf op → tm t = look st.tm t) → (∀ k, k ∈ r → h k = lookE st.h k) → HOK X h β w →
      (∀ t, RepV w (Dom X β) h β (tm t) (a.eval (.tmp t))) → ∃ c, (execOp a.eval o).run P w = .ok (.value c) w ∧ RepV w (Dom X β) h β v c) : Stp P st op v [] r [] := by
  refine ⟨?_⟩
  intro X tm h hg hr _ o a w β ho HH Ht
  obtain ⟨c, hc, hv⟩ := H o X tm h w β a ho hg hr HH Ht
  rw [hc, over_nil]
  exact ⟨β, Goes.refl HH, hv⟩

section ops
variable {P : Program} {TT : List TI} {st : St}

theorem stp_move {x : Operand} {v : AV} (hv : opv (look st.tm) x = v) : Stp P st (.move x) v [] [] [] :=
  stp_val fun o X tm h w β a ho hg _ _ Ht => by
    obtain ⟨dst, op', type, pos, after, guard⟩ := o
    dsimp only at ho; subst ho
    exact ⟨a.eval x, rfl, arg Ht hg (by simp [Op.operands]) hv⟩
theorem stp_assign {x : Operand} {v : AV} (hv : opv (look st.tm) x = v) : Stp P st (.assign x) v [] [] [] :=
  stp_val fun o X tm h w β a ho hg _ _ Ht => by
    obtain ⟨dst, op', type, pos, after, guard⟩ := o
    dsimp only at ho; subst ho
    exact ⟨a.eval x, rfl, arg Ht hg (by simp [Op.operands]) hv⟩
theorem stp_pick {c x y : Operand} {t : Bool} {v : AV} (hc : opv (look st.tm) c = .s (.bool t)) (hv : (bif t then opv (look st.tm) x else opv (look st.tm) y) = v) : Stp P st (.pick c x y) v [] [] [] :=
  stp_val fun o X tm h w β a ho hg _ _ Ht => by
    obtain ⟨dst, op', type, pos, after, guard⟩ := o
    dsimp only at ho; subst ho
    have h1 := arg_s Ht hg (x := c) (by simp [Op.operands]) hc
    refine ⟨if t then a.eval x else a.eval y, by simp [execOp, h1, asBool], ?_⟩
    cases t
    · exact arg Ht hg (by simp [Op.operands]) hv
    · exact arg Ht hg (by simp [Op.operands]) hv
theorem stp_extract {x : Operand} {vs : List AV} {i : Nat} {v : AV} (hx : opv (look st.tm) x = .tup vs) (hv : vs[i]? = some v) : Stp P st (.extract x i) v [] [] [] :=
  stp_val fun o X tm h w β a ho hg _ _ Ht => by
    obtain ⟨dst, op', type, pos, after, guard⟩ := o
    dsimp only at ho; subst ho
    have h1 := arg Ht hg (x := x) (by simp [Op.operands]) hx
    have hi := (List.getElem?_eq_some_iff.1 hv).1
    generalize he : a.eval x = cx at h1
    cases h1 with
    | fz _ _ hf => cases hf
    | tup _ c hl hh =>
      obtain ⟨u, hc⟩ : ∃ u, c[i]? = some u := ⟨c[i], by simp [show i < c.size by omega]⟩
      have hu : c.getD i undef = u := by simp [Array.getD_eq_getD_getElem?, hc]
      exact ⟨u, by simp [execOp, Instr.extract, he, hc], hu ▸ hh i v hv⟩

/-! ### Numbers -/
/-- A kind of integer holds a number. -/
def InR : IntKind → Int → Prop
  | .i64, n => -9223372036854775808 ≤ n ∧ n ≤ 9223372036854775807
  | .u8, n => 0 ≤ n ∧ n ≤ 255
  | .i32, n => -2147483648 ≤ n ∧ n ≤ 2147483647
  | .u32, n => 0 ≤ n ∧ n ≤ 4294967295
  | .u64, n => 0 ≤ n ∧ n ≤ 18446744073709551615
  | .i8, n => -128 ≤ n ∧ n ≤ 127
  | .i16, n => -32768 ≤ n ∧ n ≤ 32767
  | .u16, n => 0 ≤ n ∧ n ≤ 65535
theorem wrap_in {k : IntKind} {n : Int} (h : InR k n) : k.wrap n = n := by
  cases k <;> first
    | exact IntWalk.i64_in n h
    | exact IntWalk.u8_in n h
    | exact IntWalk.i32_in n h
    | exact IntWalk.u32_in n h
    | exact IntWalk.u64_in n h
    | exact IntWalk.i8_in n h
    | exact IntWalk.i16_in n h
    | exact IntWalk.u16_in n h
/-- Two integers of one kind. -/
theorem stp_int2 {op : BinOp} {tx ty : Nat} {x y : Operand} {k : IntKind} {m n : Int} {v : Value} (hx : opv (look st.tm) x = .s (.int k m)) (hy : opv (look st.tm) y = .s (.int k n))
    (H : ∀ w, (binOp op tx (.int k m) (.int k n)).run P w = .ok v w) : Stp P st (.binOp op tx x y ty) (.s v) [] [] [] :=
  stp_val fun o X tm h w β a ho hg _ _ Ht => by
    obtain ⟨dst, op', type, pos, after, guard⟩ := o
    dsimp only at ho; subst ho
    have h1 := arg_s Ht hg (x := x) (by simp [Op.operands]) hx
    have h2 := arg_s Ht hg (x := y) (by simp [Op.operands]) hy
    refine ⟨v, ?_, .fz _ _ (.s v)⟩
    have hgd : (eqGuard op tx x y (.int k m) (.int k n)).run P w = .ok () w := by
      unfold eqGuard; cases op <;> rfl
    simp only [execOp, h1, h2, Sem.run_bind, hgd, Result.andThen_ok, H, Sem.run_pure]
section
variable {tx ty : Nat} {x y : Operand} {k : IntKind} {m n : Int} (hx : opv (look st.tm) x = .s (.int k m)) (hy : opv (look st.tm) y = .s (.int k n))
include hx hy
theorem stp_add (hr : InR k (m + n)) : Stp P st (.binOp .add tx x y ty) (.s (.int k (m + n))) [] [] [] := stp_int2 hx hy fun w => by simp [binOp, Op.intArith, wrap_in hr]
theorem stp_sub (hr : InR k (m - n)) : Stp P st (.binOp .sub tx x y ty) (.s (.int k (m - n))) [] [] [] := stp_int2 hx hy fun w => by simp [binOp, Op.intArith, wrap_in hr]
theorem stp_mul (hr : InR k (m * n)) : Stp P st (.binOp .mul tx x y ty) (.s (.int k (m * n))) [] [] [] := stp_int2 hx hy fun w => by simp [binOp, Op.intArith, wrap_in hr]
theorem stp_addw : Stp P st (.binOp .add tx x y ty) (.s (.int k (k.wrap (m + n)))) [] [] [] := stp_int2 hx hy fun w => by simp [binOp, Op.intArith]
theorem stp_subw : Stp P st (.binOp .sub tx x y ty) (.s (.int k (k.wrap (m - n)))) [] [] [] := stp_int2 hx hy fun w => by simp [binOp, Op.intArith]
theorem stp_mulw : Stp P st (.binOp .mul tx x y ty) (.s (.int k (k.wrap (m * n)))) [] [] [] := stp_int2 hx hy fun w => by simp [binOp, Op.intArith]
theorem stp_quo (hr : InR k (m.tdiv n)) (h0 : n ≠ 0) : Stp P st (.binOp .quo tx x y ty) (.s (.int k (m.tdiv n))) [] [] [] := stp_int2 hx hy fun w => by simp [binOp, Op.intDiv, h0, wrap_in hr]
theorem stp_rem (h0 : n ≠ 0) : Stp P st (.binOp .rem tx x y ty) (.s (.int k (m.tmod n))) [] [] [] := stp_int2 hx hy fun w => by simp [binOp, Op.intDiv, h0]
theorem stp_and : Stp P st (.binOp .and tx x y ty) (.s (.int k (k.wrap (BitVec.ofInt k.bits m &&& BitVec.ofInt k.bits n).toNat))) [] [] [] := stp_int2 hx hy fun w => by simp only [binOp, Op.intBits]; simp
theorem stp_or : Stp P st (.binOp .or tx x y ty) (.s (.int k (k.wrap (BitVec.ofInt k.bits m ||| BitVec.ofInt k.bits n).toNat))) [] [] [] := stp_int2 hx hy fun w => by simp only [binOp, Op.intBits]; simp
theorem stp_xor : Stp P st (.binOp .xor tx x y ty) (.s (.int k (k.wrap (BitVec.ofInt k.bits m ^^^ BitVec.ofInt k.bits n).toNat))) [] [] [] := stp_int2 hx hy fun w => by simp only [binOp, Op.intBits]; simp
theorem stp_andNot : Stp P st (.binOp .andNot tx x y ty) (.s (.int k (k.wrap (BitVec.ofInt k.bits m &&& ~~~BitVec.ofInt k.bits n).toNat))) [] [] [] := stp_int2 hx hy fun w => by simp only [binOp, Op.intBits]; simp
theorem stp_eql : Stp P st (.binOp .eql tx x y ty) (.s (.bool (m == n))) [] [] [] := stp_int2 hx hy fun w => by simp [binOp, Op.intCmp]
theorem stp_neq : Stp P st (.binOp .neq tx x y ty) (.s (.bool (m != n))) [] [] [] := stp_int2 hx hy fun w => by simp [binOp, Op.intCmp]
theorem stp_lss : Stp P st (.binOp .lss tx x y ty) (.s (.bool (decide (m < n)))) [] [] [] := stp_int2 hx hy fun w => by simp [binOp, Op.intCmp]
theorem stp_leq : Stp P st (.binOp .leq tx x y ty) (.s (.bool (decide (m ≤ n)))) [] [] [] := stp_int2 hx hy fun w => by simp [binOp, Op.intCmp]
theorem stp_gtr : Stp P st (.binOp .gtr tx x y ty) (.s (.bool (decide (n < m)))) [] [] [] := stp_int2 hx hy fun w => by simp [binOp, Op.intCmp]
theorem stp_geq : Stp P st (.binOp .geq tx x y ty) (.s (.bool (decide (n ≤ m)))) [] [] [] := stp_int2 hx hy fun w => by simp [binOp, Op.intCmp]
end
theorem stp_shift {op : BinOp} {tx ty : Nat} {x y : Operand} {k k' : IntKind} {m n : Int} {v : Int} (hop : op = .shl ∧ v = k.wrap (m * 2 ^ (min n.toNat k.bits)) ∨ op = .shr ∧ v = m.fdiv (2 ^ (min n.toNat k.bits)))
    (hx : opv (look st.tm) x = .s (.int k m)) (hy : opv (look st.tm) y = .s (.int k' n)) (h0 : 0 ≤ n) : Stp P st (.binOp op tx x y ty) (.s (.int k v)) [] [] [] :=
  stp_val fun o X tm h w β a ho hg _ _ Ht => by
    obtain ⟨dst, op', type, pos, after, guard⟩ := o
    dsimp only at ho; subst ho
    have h1 := arg_s Ht hg (x := x) (by simp [Op.operands]) hx
    have h2 := arg_s Ht hg (x := y) (by simp [Op.operands]) hy
    have h3 : ¬ n < 0 := by omega
    refine ⟨.int k v, ?_, .fz _ _ (.s _)⟩
    rcases hop with ⟨rfl, rfl⟩ | ⟨rfl, rfl⟩ <;> simp [execOp, h1, h2, eqGuard, binOp, Op.shift, h3]
theorem stp_not {tx : Nat} {x : Operand} {b : Bool} (hx : opv (look st.tm) x = .s (.bool b)) : Stp P st (.unOp .not tx x) (.s (.bool !b)) [] [] [] :=
  stp_val fun o X tm h w β a ho hg _ _ Ht => by
    obtain ⟨dst, op', type, pos, after, guard⟩ := o
    dsimp only at ho; subst ho
    have h1 := arg_s Ht hg (x := x) (by simp [Op.operands]) hx
    exact ⟨_, by simp [execOp, h1, Op.unary], .fz _ _ (.s _)⟩
theorem stp_neg {tx : Nat} {x : Operand} {k : IntKind} {n : Int} (hx : opv (look st.tm) x = .s (.int k n)) (hr : InR k (-n)) : Stp P st (.unOp .neg tx x) (.s (.int k (-n))) [] [] [] :=
  stp_val fun o X tm h w β a ho hg _ _ Ht => by
    obtain ⟨dst, op', type, pos, after, guard⟩ := o
    dsimp only at ho; subst ho
    have h1 := arg_s Ht hg (x := x) (by simp [Op.operands]) hx
    exact ⟨.int k (-n), by simp [execOp, h1, Op.unary, Op.intArith, wrap_in hr], .fz _ _ (.s _)⟩
theorem stp_conv {src dst : Nat} {x : Operand} {k k' : IntKind} {n : Int} {ts td : TI} (hP : TOK P TT) (hs : TT[src]? = some ts) (hd : TT[dst]? = some td) (hk : td.d = .int k') (hx : opv (look st.tm) x = .s (.int k n)) :
    Stp P st (.convert src dst x) (.s (.int k' (k'.wrap n))) [] [] [] :=
  stp_val fun o X tm h w β a ho hg _ _ Ht => by
    obtain ⟨dst', op', type, pos, after, guard⟩ := o
    dsimp only at ho; subst ho
    have h1 := arg_s Ht hg (x := x) (by simp [Op.operands]) hx
    obtain ⟨u, hu, _⟩ := run_under (hP _ _ hs) w
    obtain ⟨u', hu', hd'⟩ := run_under (hP _ _ hd) w
    obtain rfl := td_int (hd'.trans hk)
    exact ⟨.int k' (k'.wrap n), by simp [execOp, convert, h1, hu, hu', Conv.intToInt], .fz _ _ (.s _)⟩
/-- Two bools. -/
theorem stp_bool2 {op : BinOp} {tx ty : Nat} {x y : Operand} {p q : Bool} {v : Bool} {ti : TI} (hP : TOK P TT) (ht : TT[tx]? = some ti) (hd : ti.d = .bool) (hx : opv (look st.tm) x = .s (.bool p)) (hy : opv (look st.tm) y = .s (.bool q))
    (hop : op = .eql ∧ v = (p == q) ∨ op = .neq ∧ v = (p != q)) : Stp P st (.binOp op tx x y ty) (.s (.bool v)) [] [] [] :=
  stp_val fun o X tm h w β a ho hg _ _ Ht => by
    obtain ⟨dst, op', type, pos, after, guard⟩ := o
    dsimp only at ho; subst ho
    have h1 := arg_s Ht hg (x := x) (by simp [Op.operands]) hx
    have h2 := arg_s Ht hg (x := y) (by simp [Op.operands]) hy
    obtain ⟨u, hu, hd'⟩ := run_under (hP _ _ ht) w
    obtain rfl := td_bool (hd'.trans hd)
    have he : (Op.equal tx (.bool p) (.bool q)).run P w = .ok (p == q) w := by
      show (Op.equalIn (9999 + 1) tx (.bool p) (.bool q)).run P w = _
      unfold Op.equalIn
      simp [hu]
    refine ⟨.bool v, ?_, .fz _ _ (.s _)⟩
    rcases hop with ⟨rfl, rfl⟩ | ⟨rfl, rfl⟩ <;> simp [execOp, h1, h2, eqGuard, binOp, he, bne]
theorem stp_makeFunc {f : Nat} {cap : Array Operand} : Stp P st (.makeFunc (.func f) #[] cap) (.fn f (cap.toList.map (opv (look st.tm)))) [] [] [] :=
  stp_val fun o X tm h w β a ho hg _ _ Ht => by
    obtain ⟨dst, op', type, pos, after, guard⟩ := o
    dsimp only at ho; subst ho
    refine ⟨.func (.func f) #[] (cap.map a.eval), by simp [execOp, Instr.makeFunc], .fn _ _ _ (by simp) fun i v hv => ?_⟩
    simp only [List.getElem?_map, Option.map_eq_some_iff] at hv
    obtain ⟨x, hx, rfl⟩ := hv
    have : (cap.map a.eval).getD i undef = a.eval x := by
      have : cap[i]? = some x := by simpa using hx
      simp [Array.getD_eq_getD_getElem?, this]
    rw [this]
    refine arg Ht hg ?_ rfl
    have : x ∈ cap := by
      have := List.mem_of_getElem? hx
      simpa using this
    simp [Op.operands, this]
end ops
end Av
end Go.Proofs.Ytianonghhmiooaa
/- Abstract values: one owned key changes; new blocks. -/
namespace Go.Proofs.Ytianonghhmiooaa
namespace Av
set_option linter.unusedSimpArgs false
set_option linter.unusedVariables false

def upd (β : Map) (k : Nat) (l : List (Nat × Nat)) : Map := fun j => if j = k then l else β j
theorem upd_same (β : Map) (k : Nat) (l : List (Nat × Nat)) : upd β k l k = l := by simp [upd]
theorem upd_other (β : Map) {k j : Nat} (l : List (Nat × Nat)) (h : j ≠ k) : upd β k l j = β j := by simp [upd, h]
theorem beq_self' (k : Nat) : Nat.beq k k = true := by simp
theorem beq_other {j k : Nat} (h : j ≠ k) : Nat.beq j k = false := by
  cases e : Nat.beq j k with
  | false => rfl
  | true => exact absurd (Nat.eq_of_beq_eq_true e) h
theorem over_same (k : Nat) (e : Ent) (h : Heap) : over [(k, e)] h k = some e := by simp [over, lookE]
theorem over_other {k j : Nat} (e : Ent) (h : Heap) (hj : j ≠ k) : over [(k, e)] h j = h j := by simp [over, lookE, beq_other hj]

theorem EntOK.evo {w w' : World} {D D' : Nat → Prop} {h h' : Heap} {β β' : Map} (E : Evo w D h β w' D' h' β') {k : Nat} {e : Ent} (hb : β' k = β k) (hk : ∀ b n, (b, n) ∈ β k → w'.heap[b]? = w.heap[b]?)
    (H : EntOK w D h β k e) : EntOK w' D' h' β' k e := by
  cases e with
  | dead => exact hb.trans H
  | box cs =>
    obtain ⟨b, c, el, h1, h2, h3, h4, h5⟩ := H
    exact ⟨b, c, el, hb.trans h1, (hk b 0 (by rw [h1]; simp)).trans h2, h3, h4, fun i v hv => (h5 i v hv).evo E⟩
  | arr sz xs st =>
    obtain ⟨h1, h2, h3, h4, h5, f, h6, h7, h8⟩ := H
    refine ⟨h1, h2, by rwa [hb], h4, by rwa [hb], f, h6.evo E, h7, fun b n hm => ?_⟩
    rw [hb] at hm
    obtain ⟨c, el, h9, h10⟩ := h8 b n hm
    exact ⟨c, el, (hk b n hm).trans h9, h10⟩

theorem Goes.step {X : Nat → Prop} {h : Heap} {β : Map} {w w' : World} (H : HOK X h β w) (k : Nat) (e' : Ent) (l : List (Nat × Nat)) (size : w.heap.size ≤ w'.heap.size)
    (keep : ∀ b, b < w.heap.size → (∀ n, (b, n) ∉ β k) → w'.heap[b]? = w.heap[b]?) (os : w'.os = w.os) (tape : w'.tape = w.tape) (output : w'.output = w.output)
    (own : ∀ b n, (b, n) ∈ l → (∃ n', (b, n') ∈ β k) ∨ (w.heap.size ≤ b ∧ b < w'.heap.size)) (bs : ∀ b n, (b, n) ∈ β k → bsize w' b = bsize w b)
    (key : ∀ e, h k = some e → e' = .dead ∨ match e with
      | .dead => False
      | .box _ => (∃ cs', e' = .box cs') ∧ ∀ b n, (b, n) ∈ β k → (b, n) ∈ l
      | .arr sz xs _ => (∃ xs' st', e' = .arr sz xs' st' ∧ xs.length ≤ xs'.length) ∧ ∀ b n, (b, n) ∈ β k → ∃ n', n ≤ n' ∧ (b, n') ∈ l)
    (ent : Evo w (Dom X β) h β w' (Dom X (upd β k l)) (over [(k, e')] h) (upd β k l) → EntOK w' (Dom X (upd β k l)) (over [(k, e')] h) (upd β k l) k e') :
    Goes X w h β w' (over [(k, e')] h) (upd β k l) := by
  have own' : ∀ j b n, (b, n) ∈ upd β k l j → (∃ k' n', (b, n') ∈ β k') ∨ w.heap.size ≤ b := by
    intro j b n hm
    by_cases hj : j = k
    · subst hj; rw [upd_same] at hm
      rcases own b n hm with ⟨n', h1⟩ | ⟨h1, _⟩
      · exact .inl ⟨_, _, h1⟩
      · exact .inr h1
    · rw [upd_other _ _ hj] at hm; exact .inl ⟨_, _, hm⟩
  have apart : ∀ j b n n', j ≠ k → (b, n) ∈ β j → (b, n') ∉ β k := fun j b n n' hj h1 h2 => hj (H.disj _ _ _ _ _ h1 h2)
  have keep' : ∀ b, b < w.heap.size → (∀ k n, (b, n) ∉ β k) → w'.heap[b]? = w.heap[b]? := fun b hb hn => keep b hb (hn k)
  have bs' : ∀ j b n, (b, n) ∈ β j → bsize w' b = bsize w b := by
    intro j b n hm
    by_cases hj : j = k
    · subst hj; exact bs b n hm
    · unfold bsize World.shape?
      rw [keep b (H.lt b (.inr ⟨j, n, hm⟩)) fun n' h1 => apart j b n n' hj hm h1]
  have key' : ∀ j e, h j = some e → over [(k, e')] h j = some .dead ∨ match e with
      | .dead => False
      | .box _ => (∃ cs', over [(k, e')] h j = some (.box cs')) ∧ ∀ b n, (b, n) ∈ β j → (b, n) ∈ upd β k l j
      | .arr sz xs _ => (∃ xs' st', over [(k, e')] h j = some (.arr sz xs' st') ∧ xs.length ≤ xs'.length) ∧ ∀ b n, (b, n) ∈ β j → ∃ n', n ≤ n' ∧ (b, n') ∈ upd β k l j := by
    intro j e he
    by_cases hj : j = k
    · subst hj
      rw [over_same, upd_same]
      rcases key e he with h1 | h1
      · exact .inl (by rw [h1])
      · cases e with
        | dead => exact h1.elim
        | box cs => obtain ⟨⟨cs', h2⟩, h3⟩ := h1; exact .inr ⟨⟨cs', by rw [h2]⟩, h3⟩
        | arr sz xs st => obtain ⟨⟨xs', st', h2, h2'⟩, h3⟩ := h1; exact .inr ⟨⟨xs', st', by rw [h2], h2'⟩, h3⟩
    · rw [over_other _ _ hj, upd_other _ _ hj]
      exact keyRefl h β j e he
  have E : Evo w (Dom X β) h β w' (Dom X (upd β k l)) (over [(k, e')] h) (upd β k l) := by
    refine ⟨size, fun b hb hd => ?_, bs', key'⟩
    have h1 : ∀ k n, (b, n) ∉ β k := fun k n hm => hd (.inr ⟨k, n, hm⟩)
    refine ⟨keep' b hb h1, ?_⟩
    rintro (hx | ⟨j, n, hm⟩)
    · exact hd (.inl hx)
    · rcases own' j b n hm with ⟨k', n', h2⟩ | h2
      · exact h1 _ _ h2
      · omega
  refine ⟨size, keep', own', bs', key', ⟨fun j e he => ?_, fun j he => ?_, fun j j' b n n' h1 h2 => ?_, fun j b n hm hx => ?_, fun b hd => ?_⟩, os, tape, output⟩
  · by_cases hj : j = k
    · subst hj
      rw [over_same] at he
      cases he
      exact ent E
    · rw [over_other _ _ hj] at he
      exact (H.ent j e he).evo E (upd_other _ _ hj) fun b n hm => keep b (H.lt b (.inr ⟨j, n, hm⟩)) fun n' h1 => apart j b n n' hj hm h1
  · by_cases hj : j = k
    · subst hj; rw [over_same] at he; cases he
    · rw [over_other _ _ hj] at he; rw [upd_other _ _ hj]; exact H.off j he
  · by_cases hj : j = k <;> by_cases hj' : j' = k
    · rw [hj, hj']
    · subst hj; rw [upd_same] at h1; rw [upd_other _ _ hj'] at h2
      rcases own b n h1 with ⟨m, h3⟩ | ⟨h3, _⟩
      · exact absurd h3 (apart j' b n' m hj' h2)
      · have := H.lt b (.inr ⟨_, _, h2⟩); omega
    · subst hj'; rw [upd_same] at h2; rw [upd_other _ _ hj] at h1
      rcases own b n' h2 with ⟨m, h3⟩ | ⟨h3, _⟩
      · exact absurd h3 (apart j b n m hj h1)
      · have := H.lt b (.inr ⟨_, _, h1⟩); omega
    · rw [upd_other _ _ hj] at h1; rw [upd_other _ _ hj'] at h2; exact H.disj _ _ _ _ _ h1 h2
  · by_cases hj : j = k
    · subst hj; rw [upd_same] at hm
      rcases own b n hm with ⟨m, h3⟩ | ⟨h3, _⟩
      · exact H.free _ _ _ h3 hx
      · have := H.lt b (.inl hx); omega
    · rw [upd_other _ _ hj] at hm; exact H.free _ _ _ hm hx
  · rcases hd with hx | ⟨j, n, hm⟩
    · exact Nat.lt_of_lt_of_le (H.lt b (.inl hx)) size
    · by_cases hj : j = k
      · subst hj; rw [upd_same] at hm
        rcases own b n hm with ⟨m, h3⟩ | ⟨_, h3⟩
        · exact Nat.lt_of_lt_of_le (H.lt b (.inr ⟨_, _, h3⟩)) size
        · exact h3
      · rw [upd_other _ _ hj] at hm; exact Nat.lt_of_lt_of_le (H.lt b (.inr ⟨_, _, hm⟩)) size

/-- A new block. -/
theorem Goes.new {X : Nat → Prop} {h : Heap} {β : Map} {w : World} (H : HOK X h β w) {k : Nat} (hk : h k = none) (e' : Ent) (n : Nat) (c : Array Value) (el : Nat)
    (ent : Evo w (Dom X β) h β (w.alloc (.cells c el)) (Dom X (upd β k [(w.heap.size, n)])) (over [(k, e')] h) (upd β k [(w.heap.size, n)]) →
      EntOK (w.alloc (.cells c el)) (Dom X (upd β k [(w.heap.size, n)])) (over [(k, e')] h) (upd β k [(w.heap.size, n)]) k e') :
    Goes X w h β (w.alloc (.cells c el)) (over [(k, e')] h) (upd β k [(w.heap.size, n)]) := by
  refine Goes.step H k e' _ (by simp) (fun b hb _ => heap_alloc_old w _ b hb) rfl rfl rfl (fun b n hm => ?_) (fun b n hm => ?_) (fun e he => ?_) ent
  · simp at hm; refine .inr ?_; simp [hm.1]
  · rw [H.off k hk] at hm; simp at hm
  · rw [hk] at he; cases he
theorem Goes.newBox {X : Nat → Prop} {h : Heap} {β : Map} {w : World} (H : HOK X h β w) {k : Nat} (hk : h k = none) (c : Array Value) (el : Nat) (cs : List AV) (hl : c.size = cs.length) (h1 : ∀ i, i < c.size → (c.getD i undef).oneCell' = true)
    (hv : ∀ (i : Nat) v, cs[i]? = some v → RepV w (Dom X β) h β v (c.getD i undef)) :
    ∃ β', Goes X w h β (w.alloc (.cells c el)) (over [(k, .box cs)] h) β' ∧ RepV (w.alloc (.cells c el)) (Dom X β') (over [(k, .box cs)] h) β' (.ptr k 0 0) (.pointer (some ⟨w.heap.size, 0, none⟩)) :=
  ⟨_, Goes.new H hk (.box cs) 0 c el fun E => ⟨_, c, el, upd_same _ _ _, heap_alloc_new w _, hl, h1, fun i v hx => (hv i v hx).evo E⟩,
    .pbox k 0 cs w.heap.size 0 (over_same _ _ _) (by rw [upd_same]; simp)⟩
/-- A new array. -/
theorem Goes.newArr {X : Nat → Prop} {h : Heap} {β : Map} {w : World} (H : HOK X h β w) {k : Nat} (hk : h k = none) (c : Array Value) (el sz : Nat) (xs : List AV) (cap : Nat) (f : Nat → Nat → Value) (hp : 1 ≤ sz) (hm : xs.length ≤ maxN)
    (hcap : xs.length ≤ cap) (hc : cap * sz ≤ c.size) (hw : ∀ (i : Nat) (x : AV), xs[i]? = some x → x.cells.length = sz) (hf : ∀ i j, i < xs.length → j < sz → c[i * sz + j]? = some (f i j)) (h1 : ∀ i j, i < xs.length → j < sz → (f i j).oneCell' = true)
    (hv : ∀ (i : Nat) (x : AV) (j : Nat) v, xs[i]? = some x → x.cells[j]? = some v → RepF w (Dom X β) v (f i j)) :
    ∃ β', Goes X w h β (w.alloc (.cells c el)) (over [(k, .arr sz xs false)] h) β' ∧ RepV (w.alloc (.cells c el)) (Dom X β') (over [(k, .arr sz xs false)] h) β' (.ref k 0 xs.length) (.slice (some ⟨w.heap.size, 0, none⟩) xs.length cap) := by
  refine ⟨_, Goes.new H hk (.arr sz xs false) xs.length c el fun E => ⟨hp, hm, fun _ => by rw [upd_same]; simp, hw, fun b n r hr => ?_, f, .ofF fun i x j v hx hy => (hv i x j v hx hy).evo E.size E.fz, h1, fun b n hb => ?_⟩, ?_⟩
  · rw [upd_same] at hr
    simp at hr
    exact ⟨hr.1.2.symm, fun _ b' n' hm => by rw [hr.2] at hm; simp at hm, fun b' n' hm => by rw [hr.2] at hm; simp at hm⟩
  · rw [upd_same] at hb
    simp at hb
    obtain ⟨rfl, rfl⟩ := hb
    exact ⟨c, el, heap_alloc_new w _, Nat.le_trans (Nat.mul_le_mul_right _ hcap) hc, hf⟩
  · have := RepV.ref (w := w.alloc (.cells c el)) (D := Dom X (upd β k [(w.heap.size, xs.length)])) (h := over [(k, .arr sz xs false)] h) (β := upd β k [(w.heap.size, xs.length)]) k 0 xs.length sz xs false w.heap.size xs.length cap (over_same _ _ _)
      (by rw [upd_same]; simp) (by omega) hcap (by
        have : bsize (w.alloc (.cells c el)) w.heap.size = c.size := by
          unfold bsize World.shape?
          rw [heap_alloc_new]
          rfl
        rw [this]; simpa using hc)
    simpa using this
/-- A new array in which keys may be. -/
theorem Goes.newArrN {X : Nat → Prop} {h : Heap} {β : Map} {w : World} (H : HOK X h β w) {k : Nat} (hk : h k = none) (c : Array Value) (el sz : Nat) (xs : List AV) (cap : Nat) (f : Nat → Nat → Value) (hp : 1 ≤ sz) (hm : xs.length ≤ maxN)
    (hcap : xs.length ≤ cap) (hc : cap * sz ≤ c.size) (hw : ∀ (i : Nat) (x : AV), xs[i]? = some x → x.cells.length = sz) (hf : ∀ i j, i < xs.length → j < sz → c[i * sz + j]? = some (f i j)) (h1 : ∀ i j, i < xs.length → j < sz → (f i j).oneCell' = true)
    (hv : ∀ (i : Nat) (x : AV) (j : Nat) v, xs[i]? = some x → x.cells[j]? = some v → RepV w (Dom X β) h β v (f i j)) :
    ∃ β', Goes X w h β (w.alloc (.cells c el)) (over [(k, .arr sz xs ⟨false, true⟩)] h) β' ∧ RepV (w.alloc (.cells c el)) (Dom X β') (over [(k, .arr sz xs ⟨false, true⟩)] h) β' (.ref k 0 xs.length) (.slice (some ⟨w.heap.size, 0, none⟩) xs.length cap) := by
  refine ⟨_, Goes.new H hk (.arr sz xs ⟨false, true⟩) xs.length c el fun E => ⟨hp, hm, fun _ => by rw [upd_same]; simp, hw, fun b n r hr => ?_, f, fun i x j v hx hy => ⟨(hv i x j v hx hy).evo E, fun h => by cases h⟩, h1, fun b n hb => ?_⟩, ?_⟩
  · rw [upd_same] at hr
    simp at hr
    exact ⟨hr.1.2.symm, fun _ b' n' hm => by rw [hr.2] at hm; simp at hm, fun b' n' hm => by rw [hr.2] at hm; simp at hm⟩
  · rw [upd_same] at hb
    simp at hb
    obtain ⟨rfl, rfl⟩ := hb
    exact ⟨c, el, heap_alloc_new w _, Nat.le_trans (Nat.mul_le_mul_right _ hcap) hc, hf⟩
  · have := RepV.ref (w := w.alloc (.cells c el)) (D := Dom X (upd β k [(w.heap.size, xs.length)])) (h := over [(k, .arr sz xs ⟨false, true⟩)] h) (β := upd β k [(w.heap.size, xs.length)]) k 0 xs.length sz xs ⟨false, true⟩ w.heap.size xs.length cap (over_same _ _ _)
      (by rw [upd_same]; simp) (by omega) hcap (by
        have : bsize (w.alloc (.cells c el)) w.heap.size = c.size := by
          unfold bsize World.shape?
          rw [heap_alloc_new]
          rfl
        rw [this]; simpa using hc)
    simpa using this
/-- A new block that no one owns. -/
theorem Goes.newFz {X : Nat → Prop} {h : Heap} {β : Map} {w : World} (H : HOK X h β w) (c : Array Value) (el : Nat) : Goes X w h β (w.alloc (.cells c el)) h β := by
  have hold : ∀ b, b < w.heap.size → (w.alloc (.cells c el)).heap[b]? = w.heap[b]? := fun b hb => heap_alloc_old w _ b hb
  have hbs : ∀ k b n, (b, n) ∈ β k → bsize (w.alloc (.cells c el)) b = bsize w b := fun k b n hm => by
    unfold bsize World.shape?
    rw [hold b (H.lt b (.inr ⟨k, n, hm⟩))]
  have E : Evo w (Dom X β) h β (w.alloc (.cells c el)) (Dom X β) h β := ⟨by simp, fun b hb hd => ⟨hold b hb, hd⟩, hbs, keyRefl h β⟩
  refine ⟨by simp, fun b hb _ => hold b hb, fun k _ n hm => .inl ⟨k, n, hm⟩, hbs, keyRefl h β, ⟨fun k e he => (H.ent k e he).evo E rfl fun b n hm => hold b (H.lt b (.inr ⟨k, n, hm⟩)), H.off, H.disj, H.free, fun b hd => ?_⟩, rfl, rfl, rfl⟩
  exact Nat.lt_of_lt_of_le (H.lt b hd) (by simp)
theorem RepF.newArr {X : Nat → Prop} {h : Heap} {β : Map} {w : World} (H : HOK X h β w) (c : Array Value) (el sz : Nat) (xs : List AV) (cap : Nat) (f : Nat → Nat → Value) (hp : 1 ≤ sz) (hm : xs.length ≤ maxN)
    (hcap : xs.length ≤ cap) (hw : ∀ (i : Nat) (x : AV), xs[i]? = some x → x.cells.length = sz) (hf : ∀ i j, i < xs.length → j < sz → c[i * sz + j]? = some (f i j)) (h1 : ∀ i j, i < xs.length → j < sz → (f i j).oneCell' = true)
    (hv : ∀ (i : Nat) (x : AV) (j : Nat) v, xs[i]? = some x → x.cells[j]? = some v → RepF w (Dom X β) v (f i j)) :
    RepF (w.alloc (.cells c el)) (Dom X β) (.sl true xs) (.slice (some ⟨w.heap.size, 0, none⟩) xs.length cap) := by
  have E := (Goes.newFz H c el).evo
  by_cases hx : xs = []
  · subst hx
    exact .nil1 _ _
  · refine .sl true xs w.heap.size 0 sz cap f hx ⟨by simp, fun hd => ?_, hp, hm, hw, fun i j hi hj => ?_, h1⟩ hcap fun i x j v hx hy => (hv i x j v hx hy).evo E.size E.fz
    · have := H.lt _ hd; omega
    · rw [Nat.zero_add]
      simp only [World.cell?, heap_alloc_new]
      exact hf i j hi hj
theorem RepF.wkF {w : World} {D : Nat → Prop} {nn : Bool} {xs : List AV} {c : Value} (h : RepF w D (.sl nn xs) c) : RepF w D (.sl false xs) c := by
  cases h with
  | nil a cap => exact .nil a cap
  | nil1 a cap => exact .nil _ cap
  | sl nn xs b o sz cap f hx hL hc hh => exact .sl false xs b o sz cap f hx hL hc hh
end Av
end Go.Proofs.Ytianonghhmiooaa
/- Abstract values: boxes, loads and stores. -/
namespace Go.Proofs.Ytianonghhmiooaa
namespace Av
set_option linter.unusedSimpArgs false
set_option linter.unusedVariables false

def AV.one : AV → Bool
  | .s v => v.oneCell'
  | .sl _ _ | .ref _ _ _ | .ptr _ _ _ | .fp _ _ _ | .fn _ _ => true
  | _ => false
/-- It can be kept in a variable. -/
def AV.ok : AV → Bool
  | .agg _ => true
  | v => v.one
mutual
/-- Nothing owned is in it. -/
def AV.nokey : AV → Bool
  | .bot | .s _ | .sl _ _ | .fp _ _ _ => true
  | .agg cs => nokeys cs
  | _ => false
def nokeys : List AV → Bool
  | [] => true
  | v :: r => v.nokey && nokeys r
end
theorem nokeys_at : ∀ {cs : List AV} {i : Nat} {v : AV}, nokeys cs = true → cs[i]? = some v → v.nokey = true
  | [], _, _, _, h => by simp at h
  | x :: r, 0, v, hk, h => by simp at h; subst h; simp [nokeys] at hk; exact hk.1
  | x :: r, i + 1, v, hk, h => by simp [nokeys] at hk; exact nokeys_at hk.2 (by simpa using h)

def setL {α : Type} : List α → Nat → List α → List α
  | cs, _, [] => cs
  | cs, o, v :: vs => setL (cs.set o v) (o + 1) vs
theorem setL_length {α : Type} : ∀ (vs cs : List α) (o : Nat), (setL cs o vs).length = cs.length
  | [], _, _ => rfl
  | v :: vs, cs, o => by rw [setL, setL_length vs, List.length_set]
theorem setL_at {α : Type} : ∀ (vs cs : List α) (o j : Nat), o + vs.length ≤ cs.length → (setL cs o vs)[j]? = if o ≤ j ∧ j < o + vs.length then vs[j - o]? else cs[j]?
  | [], cs, o, j, _ => by rw [setL, if_neg (by simp)]
  | v :: vs, cs, o, j, h => by
    simp at h
    rw [setL, setL_at vs _ _ _ (by simp; omega)]
    by_cases h1 : o + 1 ≤ j ∧ j < o + 1 + vs.length
    · rw [if_pos h1, if_pos (by simp; omega), show j - o = (j - (o + 1)) + 1 by omega]; simp
    · rw [if_neg h1]
      by_cases h2 : j = o
      · subst h2; rw [if_pos (by simp), List.getElem?_set_self (by omega), Nat.sub_self]; rfl
      · rw [if_neg (by simp; omega), List.getElem?_set_ne (by omega)]

section
variable {w : World} {D : Nat → Prop} {h : Heap} {β : Map}
theorem getD_of {c : Array Value} {i : Nat} {v : Value} (h : c[i]? = some v) : c.getD i undef = v := by simp [Array.getD_eq_getD_getElem?, h]
theorem getD_eq (c : Array Value) (i : Nat) (h : i < c.size) : c[i]? = some (c.getD i undef) := by
  obtain ⟨u, hu⟩ : ∃ u, c[i]? = some u := ⟨c[i], by simp [h]⟩
  rw [getD_of hu]; exact hu
theorem RepF.one_of {v : AV} {c : Value} (hv : RepF w D v c) (h1 : v.one = true) : c.oneCell' = true := by
  cases hv <;> first | rfl | (simp [AV.one] at h1; done) | simpa [AV.one] using h1
theorem RepV.one_of {v : AV} {c : Value} (hv : RepV w D h β v c) (h1 : v.one = true) : c.oneCell' = true := by
  cases hv with
  | fz _ _ hf => exact hf.one_of h1
  | dref _ _ _ _ _ h2 => exact h2
  | dptr _ _ _ _ _ h2 => exact h2
  | agg _ _ _ _ _ => simp [AV.one] at h1
  | tup _ _ _ _ => simp [AV.one] at h1
  | _ => rfl
/-- The cells of a value that can be kept. -/
theorem RepV.cells {v : AV} {c : Value} (hv : RepV w D h β v c) (h1 : v.ok = true) :
    c.cells.size = v.cells.length ∧ (∀ i, i < c.cells.size → (c.cells.getD i undef).oneCell' = true) ∧ ∀ (i : Nat) u, v.cells[i]? = some u → RepV w D h β u (c.cells.getD i undef) := by
  by_cases ha : v.isAgg = true
  · cases v <;> simp [AV.isAgg] at ha
    rename_i cs
    cases hv with
    | fz _ _ hf =>
      cases hf with
      | agg _ c hl h2 hh => exact ⟨hl, h2, fun i u hu => .fz _ _ (hh i u hu)⟩
    | agg _ c hl h2 hh => exact ⟨hl, h2, hh⟩
  · have ho : v.one = true := by cases v <;> first | exact h1 | (simp [AV.isAgg] at ha)
    have hc := hv.one_of ho
    have e1 : c.cells = #[c] := by cases c <;> first | rfl | (simp [Value.oneCell'] at hc)
    have e2 : v.cells = [v] := by cases v <;> first | rfl | (simp [AV.isAgg] at ha)
    rw [e1, e2]
    refine ⟨rfl, fun i hi => ?_, fun i u hu => ?_⟩
    · obtain rfl : i = 0 := by simpa using hi
      exact hc
    · cases i with
      | zero => simp at hu; subst hu; exact hv
      | succ i => simp at hu
theorem RepV.toF : ∀ {v : AV} {c : Value}, RepV w D h β v c → v.nokey = true → RepF w D v c := by
  intro v c hv
  induction hv with
  | fz _ _ hf => exact fun _ => hf
  | agg cs c hl h1 _ ih => exact fun hk => .agg cs c hl h1 fun i v hi => ih i v hi (nokeys_at (by simpa [AV.nokey] using hk) hi)
  | _ => intro hk; simp [AV.nokey] at hk

/-- Cells that lie one after the other and read as a row of abstract values. -/
def Row (w : World) (D : Nat → Prop) (h : Heap) (β : Map) (row : List AV) (b o : Nat) : Prop :=
  ∀ (j : Nat) u, row[j]? = some u → ∃ c, w.cell? ⟨b, o + j, none⟩ = some c ∧ c.oneCell' = true ∧ RepV w D h β u c
theorem cell_of_heap {b : Nat} {c : Array Value} {el : Nat} {fr : Nat × Nat} (hb : w.heap[b]? = some (.cells c el fr)) (j : Nat) : w.cell? ⟨b, j, none⟩ = c[j]? := by simp [World.cell?, hb]

theorem row_box {X : Nat → Prop} (H : HOK X h β w) {k off : Nat} {cs : List AV} (hk : h k = some (.box cs)) {i : Nat} {c : Value} (hv : RepV w D h β (.ptr k i off) c) :
    ∃ b, c = .pointer (some ⟨b, off, none⟩) ∧ i = 0 ∧ Row w (Dom X β) h β cs b 0 := by
  cases hv with
  | fz _ _ hf => cases hf
  | dptr _ _ _ _ hd _ => rw [hk] at hd; cases hd
  | parr _ _ _ _ _ _ _ _ hd _ _ _ => rw [hk] at hd; cases hd
  | pbox _ _ cs' b n hk' hb =>
    obtain ⟨b', c, el, h1, h2, h3, h4, h5⟩ := H.ent k _ hk
    rw [h1] at hb
    simp at hb
    obtain ⟨rfl, rfl⟩ := hb
    refine ⟨b, rfl, rfl, fun j u hu => ?_⟩
    have hj : j < c.size := by rw [h3]; exact (List.getElem?_eq_some_iff.1 hu).1
    exact ⟨c.getD j undef, by rw [cell_of_heap h2, Nat.zero_add]; exact getD_eq c j hj, h4 j hj, h5 j u hu⟩
theorem row_arr {X : Nat → Prop} (H : HOK X h β w) {k i off sz : Nat} {xs : List AV} {st : Fl} (hk : h k = some (.arr sz xs st)) {x : AV} (hx : xs[i]? = some x) {c : Value} (hv : RepV w D h β (.ptr k i off) c) :
    ∃ b n, c = .pointer (some ⟨b, i * sz + off, none⟩) ∧ (b, n) ∈ β k ∧ off < sz ∧ x.cells.length = sz ∧ Row w (Dom X β) h β x.cells b (i * sz) := by
  cases hv with
  | fz _ _ hf => cases hf
  | dptr _ _ _ _ hd _ => rw [hk] at hd; cases hd
  | pbox _ _ _ _ _ hd _ => rw [hk] at hd; cases hd
  | parr _ _ _ sz' xs' st' b n hk' hb hi ho =>
    rw [hk] at hk'
    cases hk'
    obtain ⟨_, _, _, hw, _, f, h6, h7, h8⟩ := H.ent k _ hk
    obtain ⟨c, el, h9, _, h11⟩ := h8 b n hb
    have hsz := hw i x hx
    refine ⟨b, n, rfl, hb, ho, hsz, fun j u hu => ?_⟩
    have hj : j < sz := by rw [← hsz]; exact (List.getElem?_eq_some_iff.1 hu).1
    exact ⟨f i j, by rw [cell_of_heap h9]; exact h11 i j hi hj, h7 i j (List.getElem?_eq_some_iff.1 hx).1 hj, h6.toV i x j u hx hu⟩
theorem row_arrn {X : Nat → Prop} (H : HOK X h β w) {k i off sz : Nat} {xs : List AV} {st : Fl} (hk : h k = some (.arr sz xs st)) {x : AV} (hx : xs[i]? = some x) {c : Value} (hv : RepV w D h β (.ptr k i off) c) :
    ∃ b n, c = .pointer (some ⟨b, i * sz + off, none⟩) ∧ (b, n) ∈ β k ∧ off < sz ∧ x.cells.length = sz ∧ Row w (Dom X β) h β x.cells b (i * sz) ∧ i < n := by
  cases hv with
  | fz _ _ hf => cases hf
  | dptr _ _ _ _ hd _ => rw [hk] at hd; cases hd
  | pbox _ _ _ _ _ hd _ => rw [hk] at hd; cases hd
  | parr _ _ _ sz' xs' st' b n hk' hb hi ho =>
    rw [hk] at hk'
    cases hk'
    obtain ⟨_, _, _, hw, _, f, h6, h7, h8⟩ := H.ent k _ hk
    obtain ⟨c, el, h9, _, h11⟩ := h8 b n hb
    have hsz := hw i x hx
    refine ⟨b, n, rfl, hb, ho, hsz, fun j u hu => ?_, hi⟩
    have hj : j < sz := by rw [← hsz]; exact (List.getElem?_eq_some_iff.1 hu).1
    exact ⟨f i j, by rw [cell_of_heap h9]; exact h11 i j hi hj, h7 i j (List.getElem?_eq_some_iff.1 hx).1 hj, h6.toV i x j u hx hu⟩
theorem row_fp {xs : List AV} {i off : Nat} {x : AV} (hx : xs[i]? = some x) {c : Value} (hv : RepV w D h β (.fp xs i off) c) :
    ∃ b o, c = .pointer (some ⟨b, o + off, none⟩) ∧ off < x.cells.length ∧ Row w D h β x.cells b o := by
  cases hv with
  | fz _ _ hf =>
    cases hf with
    | fp _ b o sz _ _ f hL hi ho hh =>
      have hsz := hL.wide i x hx
      refine ⟨b, o + i * sz, rfl, by omega, fun j u hu => ?_⟩
      have hj : j < sz := by rw [← hsz]; exact (List.getElem?_eq_some_iff.1 hu).1
      exact ⟨f i j, hL.cell i j hi hj, hL.one i j hi hj, .fz _ _ (hh i x j u hx hu)⟩
end

/-- What a load of a type gives out of a row of cells. -/
def ldv (agg : Bool) (n : Nat) (row : List AV) (off : Nat) : Option AV :=
  bif agg then (bif Nat.ble (off + n) row.length then some (.agg ((row.drop off).take n)) else none) else row[off]?
theorem run_ld {P : Program} {TT : List TI} (hP : TOK P TT) {T : Nat} {ti : TI} (hT : TT[T]? = some ti) {w : World} {D : Nat → Prop} {h : Heap} {β : Map} {row : List AV} {b o off : Nat} (hR : Row w D h β row b o) {v : AV}
    (hv : ldv ti.d.agg ti.size row off = some v) : ∃ c, (loadVar T ⟨b, o + off, none⟩).run P w = .ok c w ∧ RepV w D h β v c := by
  have ha := run_agg (hP _ _ hT) w
  have hs := run_size (hP _ _ hT) w
  unfold ldv at hv
  have hadd : ∀ j, (⟨b, o + off, none⟩ : Addr).add j = ⟨b, o + (off + j), none⟩ := fun j => by unfold Addr.add; split <;> simp_all <;> omega
  cases hb : ti.d.agg with
  | false =>
    simp only [hb, cond_false] at hv
    obtain ⟨c, h1, _, h3⟩ := hR off v hv
    exact ⟨c, by simp [loadVar, ha, hb, h1], h3⟩
  | true =>
    simp only [hb, cond_true] at hv
    cases hle : Nat.ble (off + ti.size) row.length with
    | false => simp [hle] at hv
    | true =>
      have hle' := Nat.le_of_ble_eq_true hle
      simp only [hle, cond_true, Option.some.injEq] at hv
      subst hv
      have hc : ∀ j, ∃ c, j < ti.size → ∃ u, row[off + j]? = some u ∧ w.cell? ((⟨b, o + off, none⟩ : Addr).add j) = some c ∧ c.oneCell' = true ∧ RepV w D h β u c := fun j => by
        by_cases hj : j < ti.size
        · obtain ⟨u, hu⟩ : ∃ u, row[off + j]? = some u := ⟨row[off + j], by simp⟩
          obtain ⟨c, h1, h2, h3⟩ := hR (off + j) u hu
          exact ⟨c, fun _ => ⟨u, hu, by rw [hadd]; exact h1, h2, h3⟩⟩
        · exact ⟨undef, fun h => absurd h hj⟩
      obtain ⟨f, hf⟩ : ∃ f : Nat → Value, ∀ j, j < ti.size → ∃ u, row[off + j]? = some u ∧ w.cell? ((⟨b, o + off, none⟩ : Addr).add j) = some (f j) ∧ (f j).oneCell' = true ∧ RepV w D h β u (f j) :=
        ⟨fun j => (hc j).choose, fun j hj => (hc j).choose_spec hj⟩
      have hl := run_loadCells (P := P) w ⟨b, o + off, none⟩ ti.size f fun j hj => (hf j hj).choose_spec.2.1
      have hat : ∀ i, i < ti.size → (((List.range ti.size).map f).toArray).getD i undef = f i := fun i hi => getD_of (by simp [hi])
      refine ⟨.agg ((List.range ti.size).map f).toArray, by simp [loadVar, ha, hb, hs, hl], .agg _ _ (by simp; omega) (fun i hi => ?_) fun i u hu => ?_⟩
      · have hi' : i < ti.size := by simpa using hi
        rw [hat i hi']
        exact (hf i hi').choose_spec.2.2.1
      · rw [List.getElem?_take] at hu
        split at hu
        · rename_i hi
          rw [hat i hi]
          obtain ⟨u', h1, _, _, h3⟩ := hf i hi
          rw [List.getElem?_drop, h1] at hu
          cases hu
          exact h3
        · cases hu

section ops
variable {P : Program} {TT : List TI} {st : St} (hP : TOK P TT)
theorem stp_box {T : Nat} {x : Operand} {v : AV} (k : Nat) (hx : opv (look st.tm) x = v) (h1 : v.ok = true) : Stp P st (.box T x) (.ptr k 0 0) [(k, .box v.cells)] [] [k] := by
  refine ⟨?_⟩
  intro X tm h hg _ hn o a w β ho HH Ht
  obtain ⟨dst, op', type, pos, after, guard⟩ := o
  dsimp only at ho; subst ho
  obtain ⟨hl, ho, hv⟩ := (arg Ht hg (x := x) (by simp [Op.operands]) hx).cells h1
  obtain ⟨β', G, hp⟩ := Goes.newBox HH (hn k (by simp)) (a.eval x).cells T v.cells hl ho hv
  have hr : (execOp a.eval ⟨dst, .box T x, type, pos, after, guard⟩).run P w = .ok (.value (.pointer (some ⟨w.heap.size, 0, none⟩))) (w.alloc (.cells (a.eval x).cells T)) := by
    simp [execOp, Instr.box, newVar, newRow]
  rw [hr]
  exact ⟨β', G, hp⟩
include hP in
theorem stp_alloc {T : Nat} {ti : TI} (k : Nat) (hT : TT[T]? = some ti) (h1 : ti.zero.all (·.oneCell') = true) : Stp P st (.alloc T) (.ptr k 0 0) [(k, .box (ti.zero.map .s))] [] [k] := by
  refine ⟨?_⟩
  intro X tm h hg _ hn o a w β ho HH Ht
  obtain ⟨dst, op', type, pos, after, guard⟩ := o
  dsimp only at ho; subst ho
  obtain ⟨z, hz, hzz⟩ := run_zero (hP _ _ hT) w
  obtain ⟨β', G, hp⟩ := Goes.newBox HH (hn k (by simp)) z.cells T (ti.zero.map .s) (by simp [← hzz]) (fun i hi => by
      have := List.all_eq_true.1 h1 (z.cells.getD i undef) (by rw [← hzz]; exact List.mem_of_getElem? (by simpa using getD_eq _ i hi))
      exact this) (fun i v hv => by
      simp only [List.getElem?_map, Option.map_eq_some_iff] at hv
      obtain ⟨u, hu, rfl⟩ := hv
      rw [← hzz] at hu
      rw [getD_of (by simpa using hu)]
      exact .fz _ _ (.s _))
  have hr : (execOp a.eval ⟨dst, .alloc T, type, pos, after, guard⟩).run P w = .ok (.value (.pointer (some ⟨w.heap.size, 0, none⟩))) (w.alloc (.cells z.cells T)) := by
    simp [execOp, Instr.alloc, hz, newVar, newRow]
  rw [hr]
  exact ⟨β', G, hp⟩

include hP in
theorem stp_load_box {T : Nat} {x : Operand} {k off : Nat} {cs : List AV} {v : AV} {ti : TI} (hx : opv (look st.tm) x = .ptr k 0 off) (hk : lookE st.h k = some (.box cs)) (hT : TT[T]? = some ti)
    (hv : ldv ti.d.agg ti.size cs off = some v) : Stp P st (.load T x) v [] [k] [] :=
  stp_val fun o X tm h w β a ho hg hr HH Ht => by
    obtain ⟨dst, op', type, pos, after, guard⟩ := o
    dsimp only at ho; subst ho
    have h1 := arg Ht hg (x := x) (by simp [Op.operands]) hx
    have hk' := (hr k (by simp)).trans hk
    obtain ⟨b, hc, _, hR⟩ := row_box HH hk' h1
    obtain ⟨c, h2, h3⟩ := run_ld hP hT hR hv
    rw [Nat.zero_add] at h2
    exact ⟨c, by simp [execOp, Instr.loadAt, hc, Instr.sureAddr, h2], h3⟩
include hP in
theorem stp_load_arr {T : Nat} {x : Operand} {k i off sz : Nat} {xs : List AV} {sl : Fl} {y v : AV} {ti : TI} (hx : opv (look st.tm) x = .ptr k i off) (hk : lookE st.h k = some (.arr sz xs sl)) (hy : xs[i]? = some y) (hT : TT[T]? = some ti)
    (hv : ldv ti.d.agg ti.size y.cells off = some v) : Stp P st (.load T x) v [] [k] [] :=
  stp_val fun o X tm h w β a ho hg hr HH Ht => by
    obtain ⟨dst, op', type, pos, after, guard⟩ := o
    dsimp only at ho; subst ho
    have h1 := arg Ht hg (x := x) (by simp [Op.operands]) hx
    have hk' := (hr k (by simp)).trans hk
    obtain ⟨b, n, hc, _, _, _, hR⟩ := row_arr HH hk' hy h1
    obtain ⟨c, h2, h3⟩ := run_ld hP hT hR hv
    exact ⟨c, by simp [execOp, Instr.loadAt, hc, Instr.sureAddr, h2], h3⟩
include hP in
theorem stp_load_fp {T : Nat} {x : Operand} {i off : Nat} {xs : List AV} {y v : AV} {ti : TI} (hx : opv (look st.tm) x = .fp xs i off) (hy : xs[i]? = some y) (hT : TT[T]? = some ti)
    (hv : ldv ti.d.agg ti.size y.cells off = some v) : Stp P st (.load T x) v [] [] [] :=
  stp_val fun o X tm h w β a ho hg hr HH Ht => by
    obtain ⟨dst, op', type, pos, after, guard⟩ := o
    dsimp only at ho; subst ho
    have h1 := arg Ht hg (x := x) (by simp [Op.operands]) hx
    obtain ⟨b, o, hc, _, hR⟩ := row_fp hy h1
    obtain ⟨c, h2, h3⟩ := run_ld hP hT hR hv
    exact ⟨c, by simp [execOp, Instr.loadAt, hc, Instr.sureAddr, h2], h3⟩
end ops

/-- Cells stored in a block of one's own. -/
theorem run_st {P : Program} {TT : List TI} (hP : TOK P TT) {T : Nat} {ti : TI} (hT : TT[T]? = some ti) {w : World} {b : Nat} {c : Array Value} {el : Nat} (hb : w.heap[b]? = some (.cells c el (0, 0))) {off : Nat} {x : Value} (hn : x.cells.size = ti.size)
    (ho : off + ti.size ≤ c.size) (h1 : ∀ i, i < x.cells.size → (x.cells.getD i undef).oneCell' = true) :
    ∃ c' : Array Value, (storeVar T ⟨b, off, none⟩ x).run P w = .ok () (w.setRow b c') ∧ c'.size = c.size ∧ ∀ j, c'.getD j undef = if off ≤ j ∧ j < off + ti.size then x.cells.getD (j - off) undef else c.getD j undef := by
  have hs := run_size (hP _ _ hT) w
  have hst := run_storeCells_at P b off el x.cells.toList 0 c w hb (by simp; omega) (fun v hv => by
    obtain ⟨i, hi, rfl⟩ := List.getElem_of_mem hv
    have := h1 i (by simpa using hi)
    simpa [Array.getD_eq_getD_getElem?, show i < x.cells.size by simpa using hi] using this)
  refine ⟨_, by simp only [storeVar, Sem.run_bind, hs, Result.andThen_ok, hn, ne_eq, not_true_eq_false, if_false, hst]; rfl, ?_, fun j => ?_⟩
  · simp; omega
  · simp only [Nat.add_zero, Array.length_toList, hn, Array.getD_eq_getD_getElem?, List.getElem?_toArray]
    by_cases h2 : off ≤ j ∧ j < off + ti.size
    · rw [if_pos h2, List.getElem?_append_left (by simp; omega), List.getElem?_append_right (by simp; omega)]
      simp [show min off c.size = off by omega]
    · rw [if_neg h2]
      by_cases h3 : j < off
      · rw [List.getElem?_append_left (by simp; omega), List.getElem?_append_left (by simp; omega), List.getElem?_take, if_pos h3]
        simp
      · rw [List.getElem?_append_right (by simp; omega), List.getElem?_drop]
        have e : off + ti.size + (j - (List.take off c.toList ++ x.cells.toList).length) = j := by simp [hn]; omega
        rw [e]
        simp
theorem bsize_setRow {w : World} {b : Nat} {c c' : Array Value} {el : Nat} {fr : Nat × Nat} (hb : w.heap[b]? = some (.cells c el fr)) (hs : c'.size = c.size) (j : Nat) : bsize (w.setRow b c') j = bsize w j := by
  unfold bsize World.shape?
  by_cases h : j = b
  · subst h; rw [setRow_heap w _ _ _ _ _ hb, hb]; simp [hs]
  · rw [setRow_other w b j c' h]

section ops
variable {P : Program} {TT : List TI} {st : St} (hP : TOK P TT)
include hP in
theorem stp_store_box {T : Nat} {p x : Operand} {k off : Nat} {cs : List AV} {v : AV} {ti : TI} (hp : opv (look st.tm) p = .ptr k 0 off) (hx : opv (look st.tm) x = v) (hk : lookE st.h k = some (.box cs)) (hT : TT[T]? = some ti)
    (h1 : v.ok = true) (h2 : Nat.beq v.cells.length ti.size = true) (h3 : Nat.ble (off + ti.size) cs.length = true) : Stp P st (.store T p x) .bot [(k, .box (setL cs off v.cells))] [k] [] := by
  refine ⟨?_⟩
  intro X tm h hg hr _ o a w β ho HH Ht
  obtain ⟨dst, op', type, pos, after, guard⟩ := o
  dsimp only at ho; subst ho
  have hk' := (hr k (by simp)).trans hk
  have h2 := Nat.eq_of_beq_eq_true h2
  have h3 := Nat.le_of_ble_eq_true h3
  have hp' := arg Ht hg (x := p) (by simp [Op.operands]) hp
  obtain ⟨hl, hon, hv⟩ := (arg Ht hg (x := x) (by simp [Op.operands]) hx).cells h1
  obtain ⟨b, c, el, e1, e2, e3, e4, e5⟩ := HH.ent k _ hk'
  obtain ⟨b', hc, _, _⟩ := row_box HH hk' hp'
  obtain rfl : b' = b := by
    generalize a.eval p = cp at *
    cases hp' with
    | fz _ _ hf => cases hf
    | dptr _ _ _ _ hd _ => rw [hk'] at hd; cases hd
    | parr _ _ _ _ _ _ _ _ hd _ _ _ => rw [hk'] at hd; cases hd
    | pbox _ _ cs' b'' n hk'' hb =>
      rw [e1] at hb
      simp at hb
      simp at hc
      rw [← hc, hb.1]
  obtain ⟨c', hrun, hsz, hat⟩ := run_st hP hT e2 (off := off) (x := a.eval x) (by omega) (by omega) hon
  have hr : (execOp a.eval ⟨dst, .store T p x, type, pos, after, guard⟩).run P w = .ok .skip (w.setRow b' c') := by
    simp [execOp, Instr.storeAt, hc, Instr.sureAddr, hrun]
  rw [hr]
  refine ⟨upd β k (β k), Goes.step HH k _ _ (by simp) (fun j hj hn => setRow_other w b' j c' (fun e => hn 0 (by rw [e1, e]; simp))) rfl rfl rfl (fun b n hm => .inl ⟨n, hm⟩) (fun b n _ => bsize_setRow e2 hsz b)
    (fun e he => by rw [hk'] at he; cases he; exact .inr ⟨⟨_, rfl⟩, fun _ _ hm => hm⟩) fun E => ⟨b', c', el, by rw [upd_same]; exact e1, setRow_heap w _ _ _ _ _ e2, by rw [setL_length]; omega, fun i hi => ?_, fun i u hu => ?_⟩, .fz _ _ (.bot _)⟩
  · rw [hat]
    split
    · exact hon _ (by omega)
    · exact e4 i (by omega)
  · rw [setL_at _ _ _ _ (by omega)] at hu
    rw [hat]
    rw [h2] at hu
    split
    · rename_i hi
      rw [if_pos hi] at hu
      exact (hv _ u hu).evo E
    · rename_i hi
      rw [if_neg hi] at hu
      exact (e5 i u hu).evo E

/-- An element with some of its cells set. -/
def putc (x : AV) (off : Nat) (cs : List AV) : AV := match x with
  | .agg ds => .agg (setL ds off cs)
  | _ => match cs with
    | [v] => v
    | _ => .bot
theorem putc_cells {x : AV} {off : Nat} {cs : List AV} (h : off + cs.length ≤ x.cells.length) (h0 : 1 ≤ cs.length) (hg : cs.all (fun v => !v.isAgg) = true) : (putc x off cs).cells = setL x.cells off cs := by
  cases x <;> first
    | rfl
    | (simp only [AV.cells, List.length_cons, List.length_nil] at h
       match cs, h0, h, hg with
       | [v], _, h, hg =>
         simp at hg h
         subst h
         cases v <;> first | rfl | (simp [AV.isAgg] at hg))
include hP in
theorem stp_store_arr {T : Nat} {p x : Operand} {k i off sz : Nat} {xs : List AV} {y v : AV} {ti : TI} {nest : Bool} (hp : opv (look st.tm) p = .ptr k i off) (hx : opv (look st.tm) x = v) (hk : lookE st.h k = some (.arr sz xs ⟨false, nest⟩)) (hy : xs[i]? = some y) (hT : TT[T]? = some ti)
    (h1 : v.ok = true) (h2 : Nat.beq v.cells.length ti.size = true) (h3 : Nat.ble (off + ti.size) y.cells.length = true) (h4 : (nest || v.nokey) = true) (h5 : Nat.ble 1 ti.size = true) (h6 : v.cells.all (fun v => !v.isAgg) = true) :
    Stp P st (.store T p x) .bot [(k, .arr sz (xs.set i (putc y off v.cells)) ⟨false, nest⟩)] [k] [] := by
  refine ⟨?_⟩
  intro X tm h hg hr _ o a w β ho HH Ht
  obtain ⟨dst, op', type, pos, after, guard⟩ := o
  dsimp only at ho; subst ho
  have hk' := (hr k (by simp)).trans hk
  have h2 := Nat.eq_of_beq_eq_true h2
  have h3 := Nat.le_of_ble_eq_true h3
  have h5 := Nat.le_of_ble_eq_true h5
  have hp' := arg Ht hg (x := p) (by simp [Op.operands]) hp
  have hxv := arg Ht hg (x := x) (by simp [Op.operands]) hx
  obtain ⟨hl, hon, hv⟩ := hxv.cells h1
  have hvF : nest = false → ∀ (j : Nat) u, v.cells[j]? = some u → RepF w (Dom X β) u ((a.eval x).cells.getD j undef) := fun hn j u hu => (hv j u hu).toF (by
    rw [hn, Bool.false_or] at h4
    cases v <;> first
      | (simp [AV.cells] at hu; cases j <;> simp at hu; subst hu; exact h4)
      | (exact nokeys_at (by simpa [AV.nokey, AV.cells] using h4) hu))
  obtain ⟨b, n, hc, hm, hof, hyl, _, hni⟩ := row_arrn HH hk' hy hp'
  obtain ⟨g1, g2, g3, g4, g5, f, g6, g7, g8⟩ := HH.ent k _ hk'
  have hi : i < xs.length := (List.getElem?_eq_some_iff.1 hy).1
  obtain ⟨rr, hbk, hnx, hr0⟩ : ∃ rr, β k = (b, n) :: rr ∧ n = xs.length ∧ ∀ b' n', (b', n') ∈ rr → n' = 0 := by
    cases hbk : β k with
    | nil => rw [hbk] at hm; simp at hm
    | cons q r =>
      obtain ⟨b0, n0⟩ := q
      obtain ⟨e1, e2, _⟩ := g5 b0 n0 r hbk
      have e2 := e2 rfl
      rw [hbk] at hm
      simp at hm
      rcases hm with ⟨rfl, rfl⟩ | hm
      · exact ⟨r, rfl, e1, e2⟩
      · have := e2 b n hm; omega
  subst hnx
  obtain ⟨c, el, e2, e3, e4⟩ := g8 b _ hm
  have hmul : i * sz + sz ≤ xs.length * sz := by
    have := Nat.mul_le_mul_right sz (show i + 1 ≤ xs.length by omega)
    rwa [Nat.add_mul, Nat.one_mul] at this
  obtain ⟨c', hrun, hsz, hat⟩ := run_st hP hT e2 (off := i * sz + off) (x := a.eval x) (by omega) (by omega) hon
  have hr : (execOp a.eval ⟨dst, .store T p x, type, pos, after, guard⟩).run P w = .ok .skip (w.setRow b c') := by
    simp [execOp, Instr.storeAt, hc, Instr.sureAddr, hrun]
  rw [hr]
  have hpc := putc_cells (x := y) (off := off) (cs := v.cells) (by omega) (by omega) h6
  have hlen : (xs.set i (putc y off v.cells)).length = xs.length := by simp
  have hget : ∀ (i' : Nat) (x' : AV), (xs.set i (putc y off v.cells))[i']? = some x' → (i' = i ∧ x' = putc y off v.cells) ∨ (i' ≠ i ∧ xs[i']? = some x') := by
    intro i' x' hx'
    by_cases hii : i' = i
    · subst hii
      rw [List.getElem?_set_self hi] at hx'
      exact .inl ⟨rfl, (Option.some.inj hx').symm⟩
    · rw [List.getElem?_set_ne (fun e => hii e.symm)] at hx'
      exact .inr ⟨hii, hx'⟩
  -- what the cells hold now
  let f' : Nat → Nat → Value := fun i' j => if i' = i ∧ off ≤ j ∧ j < off + ti.size then (a.eval x).cells.getD (j - off) undef else f i' j
  refine ⟨upd β k (β k), Goes.step HH k _ _ (by simp) (fun j hj hn => setRow_other w b j c' (fun e => hn xs.length (by rw [hbk, e]; simp))) rfl rfl rfl (fun b n hm => .inl ⟨n, hm⟩) (fun b n _ => bsize_setRow e2 hsz b)
    (fun e he => by rw [hk'] at he; cases he; exact .inr ⟨⟨_, _, rfl, by simp⟩, fun _ n hm => ⟨n, Nat.le_refl _, hm⟩⟩) fun E => ⟨g1, by simpa using g2, fun _ => by rw [upd_same, hbk]; simp, fun i' x' hx' => ?_, fun b' n' r hb' => ?_, f', fun i' x' j u hx' hu => ?_, fun i' j hi' hj => ?_, fun b' n' hb' => ?_⟩, .fz _ _ (.bot _)⟩
  · rcases hget i' x' hx' with ⟨_, rfl⟩ | ⟨_, h⟩
    · rw [hpc, setL_length]; exact hyl
    · exact g4 i' x' h
  · rw [upd_same, hbk] at hb'
    simp at hb'
    obtain ⟨⟨rfl, rfl⟩, rfl⟩ := hb'
    refine ⟨by simp, fun _ => hr0, fun b' n' hm => by have := hr0 b' n' hm; simp; omega⟩
  · rcases hget i' x' hx' with ⟨rfl, rfl⟩ | ⟨hii, h⟩
    · rw [hpc, setL_at _ _ _ _ (by omega)] at hu
      simp only [f', true_and]
      rw [h2] at hu
      split
      · rename_i hj
        rw [if_pos hj] at hu
        exact ⟨(hv _ u hu).evo E, fun hn => (hvF hn _ u hu).evo E.size E.fz⟩
      · rename_i hj
        rw [if_neg hj] at hu
        exact ⟨(g6 i' y j u hy hu).1.evo E, fun hn => ((g6 i' y j u hy hu).2 hn).evo E.size E.fz⟩
    · simp only [f', hii, false_and, if_false]
      exact ⟨(g6 i' x' j u h hu).1.evo E, fun hn => ((g6 i' x' j u h hu).2 hn).evo E.size E.fz⟩
  · simp only [f']
    split
    · exact hon _ (by omega)
    · exact g7 i' j (by simpa using hi') hj
  · rw [upd_same, hbk] at hb'
    simp at hb'
    rcases hb' with ⟨rfl, rfl⟩ | hb'
    case inr =>
      obtain rfl := hr0 b' n' hb'
      by_cases hbb : b' = b
      · subst hbb
        exact ⟨c', el, setRow_heap w _ _ _ _ _ e2, by omega, fun i' j hi' _ => by omega⟩
      · obtain ⟨c2, el2, q1, q2, _⟩ := g8 b' 0 (by rw [hbk]; simp [hb'])
        exact ⟨c2, el2, (setRow_other w b b' c' hbb).trans q1, q2, fun i' j hi' _ => by omega⟩
    refine ⟨c', el, setRow_heap w _ _ _ _ _ e2, by omega, fun i' j hi' hj => ?_⟩
    have hlt : i' * sz + j < c'.size := by
      have := Nat.mul_le_mul_right sz (show i' + 1 ≤ xs.length by omega)
      rw [Nat.add_mul, Nat.one_mul] at this
      omega
    rw [getD_eq c' _ hlt, hat]
    congr 1
    have hiff : (i * sz + off ≤ i' * sz + j ∧ i' * sz + j < i * sz + off + ti.size) ↔ (i' = i ∧ off ≤ j ∧ j < off + ti.size) := by
      constructor
      · rintro ⟨q1, q2⟩
        have hii : i' = i := by
          rcases Nat.lt_trichotomy i' i with h | h | h
          · have := Nat.mul_le_mul_right sz (show i' + 1 ≤ i by omega)
            rw [Nat.add_mul, Nat.one_mul] at this
            omega
          · exact h
          · have := Nat.mul_le_mul_right sz (show i + 1 ≤ i' by omega)
            rw [Nat.add_mul, Nat.one_mul] at this
            omega
        subst hii
        exact ⟨rfl, by omega, by omega⟩
      · rintro ⟨rfl, q1, q2⟩
        omega
    simp only [f', hiff]
    split
    · rename_i hq
      obtain ⟨rfl, q1, q2⟩ := hq
      congr 1
      omega
    · exact getD_of (e4 i' j hi' hj)
end ops
end Av
end Go.Proofs.Ytianonghhmiooaa
/- Abstract values: addresses, parts, slices of slices, lengths. -/
namespace Go.Proofs.Ytianonghhmiooaa
namespace Av
set_option linter.unusedSimpArgs false
set_option linter.unusedVariables false
section ops
variable {P : Program} {TT : List TI} {st : St} (hP : TOK P TT)

theorem field_of {P : Program} {TT : List TI} (hP : TOK P TT) {T f o ft : Nat} {ti : TI} {fs : List (Nat × Nat)} (hT : TT[T]? = some ti) (hd : ti.d = .str fs) (hf : fs[f]? = some (o, ft)) (w : World) :
    ∃ (fields : Array Field) (fd : Field), (underlying T).run P w = .ok (.struct fields) w ∧ fields[f]? = some fd ∧ fd.offset = o ∧ fd.type = ft := by
  obtain ⟨u, hu, hd'⟩ := run_under (hP _ _ hT) w
  obtain ⟨fields, rfl, hm⟩ := td_str (hd'.trans hd)
  rw [← hm] at hf
  simp only [List.getElem?_map, Option.map_eq_some_iff, Prod.mk.injEq] at hf
  obtain ⟨fd, h1, h2, h3⟩ := hf
  exact ⟨fields, fd, hu, by simpa using h1, h2, h3⟩
theorem run_fieldAt {P : Program} {TT : List TI} (hP : TOK P TT) {T f o ft : Nat} {ti tf : TI} {fs : List (Nat × Nat)} (hT : TT[T]? = some ti) (hd : ti.d = .str fs) (hf : fs[f]? = some (o, ft)) (hft : TT[ft]? = some tf) (hz : Nat.ble 1 tf.size = true) (w : World) (b q : Nat) :
    (Instr.fieldAt T (.pointer (some ⟨b, q, none⟩)) f).run P w = .ok (.pointer (some ⟨b, q + o, none⟩)) w := by
  obtain ⟨fields, fd, h1, h2, h3, h4⟩ := field_of hP hT hd hf w
  have hs := run_size (hP _ _ hft) w
  have hz := Nat.le_of_ble_eq_true hz
  have hz' : ¬ tf.size = 0 := by omega
  have hadd : (⟨b, q, none⟩ : Addr).add o = ⟨b, q + o, none⟩ := by unfold Addr.add; split <;> simp_all
  simp [Instr.fieldAt, h1, h2, Instr.sureAddr, fieldPlace, h3, h4, hs, hz', hadd]
theorem add_at (b q n : Nat) : (⟨b, q, none⟩ : Addr).add n = ⟨b, q + n, none⟩ := by unfold Addr.add; split <;> simp_all

include hP in
theorem stp_fieldAddr_box {T f k off o ft : Nat} {x : Operand} {ti tf : TI} {fs : List (Nat × Nat)} {cs : List AV} (hx : opv (look st.tm) x = .ptr k 0 off) (hk : lookE st.h k = some (.box cs)) (hT : TT[T]? = some ti) (hd : ti.d = .str fs) (hf : fs[f]? = some (o, ft))
    (hft : TT[ft]? = some tf) (hz : Nat.ble 1 tf.size = true) : Stp P st (.fieldAddr T x f) (.ptr k 0 (off + o)) [] [k] [] :=
  stp_val fun oo X tm h w β a ho hg hr HH Ht => by
    obtain ⟨dst, op', type, pos, after, guard⟩ := oo
    dsimp only at ho; subst ho
    have h1 := arg Ht hg (x := x) (by simp [Op.operands]) hx
    have hk' := (hr k (by simp)).trans hk
    have hfa := fun b => run_fieldAt hP hT hd hf hft hz w b off
    generalize he : a.eval x = cx at h1
    cases h1 with
    | fz _ _ hf => cases hf
    | dptr _ _ _ _ hd _ => rw [hk'] at hd; cases hd
    | parr _ _ _ _ _ _ _ _ hd _ _ _ => rw [hk'] at hd; cases hd
    | pbox _ _ cs' b n hk'' hb => exact ⟨_, by simp [execOp, he, hfa], .pbox k _ cs' b n hk'' hb⟩
include hP in
theorem stp_fieldAddr_arr {T f k i off o ft sz : Nat} {x : Operand} {ti tf : TI} {fs : List (Nat × Nat)} {xs : List AV} {sl : Fl} (hx : opv (look st.tm) x = .ptr k i off) (hk : lookE st.h k = some (.arr sz xs sl)) (hT : TT[T]? = some ti) (hd : ti.d = .str fs) (hf : fs[f]? = some (o, ft))
    (hft : TT[ft]? = some tf) (hz : Nat.ble 1 tf.size = true) (hle : Nat.blt (off + o) sz = true) : Stp P st (.fieldAddr T x f) (.ptr k i (off + o)) [] [k] [] :=
  stp_val fun oo X tm h w β a ho hg hr HH Ht => by
    obtain ⟨dst, op', type, pos, after, guard⟩ := oo
    dsimp only at ho; subst ho
    have h1 := arg Ht hg (x := x) (by simp [Op.operands]) hx
    have hk' := (hr k (by simp)).trans hk
    have hfa := fun b q => run_fieldAt hP hT hd hf hft hz w b q
    have hle : off + o < sz := Nat.le_of_ble_eq_true hle
    generalize he : a.eval x = cx at h1
    cases h1 with
    | fz _ _ hf => cases hf
    | dptr _ _ _ _ hd _ => rw [hk'] at hd; cases hd
    | pbox _ _ _ _ _ hd _ => rw [hk'] at hd; cases hd
    | parr _ _ _ sz' xs' st' b n hk'' hb hi ho =>
      have h2 := hk''
      rw [hk'] at h2
      cases h2
      exact ⟨_, by simp [execOp, he, hfa]; rfl, by rw [Nat.add_assoc]; exact .parr k i (off + o) sz xs sl b n hk'' hb hi hle⟩
include hP in
theorem stp_fieldAddr_fp {T f i off o ft : Nat} {x : Operand} {ti tf : TI} {fs : List (Nat × Nat)} {xs : List AV} {y : AV} (hx : opv (look st.tm) x = .fp xs i off) (hy : xs[i]? = some y) (hT : TT[T]? = some ti) (hd : ti.d = .str fs) (hf : fs[f]? = some (o, ft))
    (hft : TT[ft]? = some tf) (hz : Nat.ble 1 tf.size = true) (hle : Nat.blt (off + o) y.cells.length = true) : Stp P st (.fieldAddr T x f) (.fp xs i (off + o)) [] [] [] :=
  stp_val fun oo X tm h w β a ho hg hr HH Ht => by
    obtain ⟨dst, op', type, pos, after, guard⟩ := oo
    dsimp only at ho; subst ho
    have h1 := arg Ht hg (x := x) (by simp [Op.operands]) hx
    have hfa := fun b q => run_fieldAt hP hT hd hf hft hz w b q
    have hle : off + o < y.cells.length := Nat.le_of_ble_eq_true hle
    generalize he : a.eval x = cx at h1
    cases h1 with
    | fz _ _ hf =>
      cases hf with
      | fp _ b q sz _ _ f hL hi ho hh =>
        have hsz := hL.wide i y hy
        exact ⟨_, by simp [execOp, he, hfa]; rfl, .fz _ _ (by rw [Nat.add_assoc]; exact .fp xs b q sz i (off + o) f hL hi (by omega) hh)⟩

/-! ### The address of an element -/
include hP in
theorem run_indexAt {T e : Nat} {ti te : TI} (hT : TT[T]? = some ti) (hd : ti.d = .slice e) (he : TT[e]? = some te) (w : World) (b q len cap : Nat) (k : IntKind) (i : Int) (h0 : 0 ≤ i) (hi : i < len) :
    (Instr.indexAt T (.slice (some ⟨b, q, none⟩) len cap) (.int k i)).run P w = .ok (.pointer (some ⟨b, q + i.toNat * te.size, none⟩)) w := by
  obtain ⟨u, hu, hd'⟩ := run_under (hP _ _ hT) w
  obtain rfl := td_slice (hd'.trans hd)
  have hs := run_size (hP _ _ he) w
  simp [Instr.indexAt, asIntOf, hu, h0, hi, hs, add_at]
include hP in
theorem stp_indexAddr_sl {T e : Nat} {x ix : Operand} {ti te : TI} {nn : Bool} {xs : List AV} {y : AV} {k : IntKind} {i : Int} (hx : opv (look st.tm) x = .sl nn xs) (hi : opv (look st.tm) ix = .s (.int k i)) (hT : TT[T]? = some ti) (hd : ti.d = .slice e) (he : TT[e]? = some te)
    (h0 : 0 ≤ i) (hy : xs[i.toNat]? = some y) (hs : Nat.beq y.cells.length te.size = true) (hz : Nat.ble 1 te.size = true) : Stp P st (.indexAddr T x ix) (.fp xs i.toNat 0) [] [] [] :=
  stp_val fun oo X tm h w β a ho hg hr HH Ht => by
    obtain ⟨dst, op', type, pos, after, guard⟩ := oo
    dsimp only at ho; subst ho
    have h1 := arg Ht hg (x := x) (by simp [Op.operands]) hx
    have h2 := arg_s Ht hg (x := ix) (by simp [Op.operands]) hi
    have hs := Nat.eq_of_beq_eq_true hs
    have hz := Nat.le_of_ble_eq_true hz
    have hlt : i.toNat < xs.length := (List.getElem?_eq_some_iff.1 hy).1
    generalize he' : a.eval x = cx at h1
    cases h1 with
    | fz _ _ hf =>
      cases hf with
      | nil a cap => simp at hlt
      | nil1 a cap => simp at hlt
      | sl _ _ b o sz cap f hne hL hc hh =>
        have hsz := hL.wide _ y hy
        refine ⟨_, by simp only [execOp, he', h2, Sem.run_bind, run_indexAt hP hT hd he w b o xs.length cap k i h0 (by omega), Result.andThen_ok, Sem.run_pure]; rfl, .fz _ _ ?_⟩
        have := RepF.fp xs b o sz i.toNat 0 f hL hlt (by omega) hh
        rwa [Nat.add_zero, ← hsz, hs] at this
include hP in
theorem stp_indexAddr_ref {T e : Nat} {x ix : Operand} {ti te : TI} {key off len sz : Nat} {xs : List AV} {sl : Fl} {k : IntKind} {i : Int} (hx : opv (look st.tm) x = .ref key off len) (hi : opv (look st.tm) ix = .s (.int k i)) (hk : lookE st.h key = some (.arr sz xs sl)) (hT : TT[T]? = some ti) (hd : ti.d = .slice e) (he : TT[e]? = some te)
    (h0 : 0 ≤ i) (hl : i < len) (hs : Nat.beq sz te.size = true) : Stp P st (.indexAddr T x ix) (.ptr key (off + i.toNat) 0) [] [key] [] :=
  stp_val fun oo X tm h w β a ho hg hr HH Ht => by
    obtain ⟨dst, op', type, pos, after, guard⟩ := oo
    dsimp only at ho; subst ho
    have h1 := arg Ht hg (x := x) (by simp [Op.operands]) hx
    have h2 := arg_s Ht hg (x := ix) (by simp [Op.operands]) hi
    have hk' := (hr key (by simp)).trans hk
    have hs := Nat.eq_of_beq_eq_true hs
    have hp := (HH.ent key _ hk').1
    generalize he' : a.eval x = cx at h1
    cases h1 with
    | fz _ _ hf => cases hf
    | dref _ _ _ _ hd _ => rw [hk'] at hd; cases hd
    | ref0 _ _ _ _ _ _ _ _ => simp at hl; omega
    | ref _ _ _ sz' xs' st' b n cap hk'' hb hn hc hsz =>
      have h3 := hk''
      rw [hk'] at h3
      cases h3
      refine ⟨_, by simp only [execOp, he', h2, Sem.run_bind, run_indexAt hP hT hd he w b _ len cap k i h0 hl, Result.andThen_ok, Sem.run_pure]; rfl, ?_⟩
      have := RepV.parr (w := w) (D := Dom X β) key (off + i.toNat) 0 sz xs sl b n hk'' hb (by omega) (by omega)
      rw [Nat.add_mul, Nat.add_zero] at this
      rw [← hs]
      exact this
include hP in
/-- An element of an array that lies in a box. -/
theorem stp_indexAddr_box {T e n : Nat} {x ix : Operand} {ti te : TI} {key off : Nat} {cs : List AV} {k : IntKind} {i : Int} (hx : opv (look st.tm) x = .ptr key 0 off) (hi : opv (look st.tm) ix = .s (.int k i)) (hk : lookE st.h key = some (.box cs)) (hT : TT[T]? = some ti) (hd : ti.d = .arr n e) (he : TT[e]? = some te)
    (h0 : 0 ≤ i) (hl : i < n) : Stp P st (.indexAddr T x ix) (.ptr key 0 (off + i.toNat * te.size)) [] [key] [] :=
  stp_val fun oo X tm h w β a ho hg hr HH Ht => by
    obtain ⟨dst, op', type, pos, after, guard⟩ := oo
    dsimp only at ho; subst ho
    have h1 := arg Ht hg (x := x) (by simp [Op.operands]) hx
    have h2 := arg_s Ht hg (x := ix) (by simp [Op.operands]) hi
    have hk' := (hr key (by simp)).trans hk
    obtain ⟨u, hu, hd'⟩ := run_under (hP _ _ hT) w
    obtain rfl := td_arr (hd'.trans hd)
    have hs := run_size (hP _ _ he) w
    generalize he' : a.eval x = cx at h1
    cases h1 with
    | fz _ _ hf => cases hf
    | dptr _ _ _ _ hd _ => rw [hk'] at hd; cases hd
    | parr _ _ _ _ _ _ _ _ hd _ _ _ => rw [hk'] at hd; cases hd
    | pbox _ _ cs' b q hk'' hb =>
      exact ⟨.pointer (some ⟨b, off + i.toNat * te.size, none⟩), by simp [execOp, Instr.indexAt, asIntOf, hu, Instr.sureAddr, h0, hl, hs, add_at, he', h2], .pbox key _ cs' b q hk'' hb⟩
/-- An element of an array in an element of an owned array. -/
theorem stp_indexAddr_parr (hP : TOK P TT) {T e n : Nat} {x ix : Operand} {ti te : TI} {key j off sz : Nat} {xs : List AV} {sl : Fl} {k : IntKind} {i : Int} (hx : opv (look st.tm) x = .ptr key j off) (hi : opv (look st.tm) ix = .s (.int k i)) (hk : lookE st.h key = some (.arr sz xs sl)) (hT : TT[T]? = some ti) (hd : ti.d = .arr n e) (he : TT[e]? = some te)
    (h0 : 0 ≤ i) (hl : i < n) (hle : off + i.toNat * te.size < sz) : Stp P st (.indexAddr T x ix) (.ptr key j (off + i.toNat * te.size)) [] [key] [] :=
  stp_val fun oo X tm h w β a ho hg hr HH Ht => by
    obtain ⟨dst, op', type, pos, after, guard⟩ := oo
    dsimp only at ho; subst ho
    have h1 := arg Ht hg (x := x) (by simp [Op.operands]) hx
    have h2 := arg_s Ht hg (x := ix) (by simp [Op.operands]) hi
    have hk' := (hr key (by simp)).trans hk
    obtain ⟨u, hu, hd'⟩ := run_under (hP _ _ hT) w
    obtain rfl := td_arr (hd'.trans hd)
    have hs := run_size (hP _ _ he) w
    generalize he' : a.eval x = cx at h1
    cases h1 with
    | fz _ _ hf => cases hf
    | dptr _ _ _ _ hd _ => rw [hk'] at hd; cases hd
    | pbox _ _ _ _ _ hd _ => rw [hk'] at hd; cases hd
    | parr _ _ _ sz' xs' st' b q hk'' hb hi' ho =>
      have h3 := hk''
      rw [hk'] at h3
      cases h3
      exact ⟨.pointer (some ⟨b, j * sz + (off + i.toNat * te.size), none⟩), by simp [execOp, Instr.indexAt, asIntOf, hu, Instr.sureAddr, h0, hl, hs, add_at, he', h2, Nat.add_assoc], .parr key j _ sz xs sl b q hk'' hb hi' hle⟩
theorem stp_indexAddr_pfp (hP : TOK P TT) {T e n : Nat} {x ix : Operand} {ti te : TI} {j off : Nat} {xs : List AV} {y : AV} {k : IntKind} {i : Int} (hx : opv (look st.tm) x = .fp xs j off) (hi : opv (look st.tm) ix = .s (.int k i)) (hy : xs[j]? = some y) (hT : TT[T]? = some ti) (hd : ti.d = .arr n e) (he : TT[e]? = some te)
    (h0 : 0 ≤ i) (hl : i < n) (hle : off + i.toNat * te.size < y.cells.length) : Stp P st (.indexAddr T x ix) (.fp xs j (off + i.toNat * te.size)) [] [] [] :=
  stp_val fun oo X tm h w β a ho hg hr HH Ht => by
    obtain ⟨dst, op', type, pos, after, guard⟩ := oo
    dsimp only at ho; subst ho
    have h1 := arg Ht hg (x := x) (by simp [Op.operands]) hx
    have h2 := arg_s Ht hg (x := ix) (by simp [Op.operands]) hi
    obtain ⟨u, hu, hd'⟩ := run_under (hP _ _ hT) w
    obtain rfl := td_arr (hd'.trans hd)
    have hs := run_size (hP _ _ he) w
    generalize he' : a.eval x = cx at h1
    cases h1 with
    | fz _ _ hf =>
      cases hf with
      | fp _ b q sz _ _ f hL hi' ho hh =>
        have hsz := hL.wide j y hy
        refine ⟨.pointer (some ⟨b, q + j * sz + (off + i.toNat * te.size), none⟩), by simp [execOp, Instr.indexAt, asIntOf, hu, Instr.sureAddr, h0, hl, hs, add_at, he', h2, Nat.add_assoc], .fz _ _ (.fp xs b q sz j _ f hL hi' (by omega) hh)⟩

/-! ### Parts of values -/
theorem part_rep {P : Program} {TT : List TI} (hP : TOK P TT) {T : Nat} {ti : TI} (hT : TT[T]? = some ti) {w : World} {D : Nat → Prop} {h : Heap} {β : Map} {cs : List AV} {c : Value} (hv : RepV w D h β (.agg cs) c) {off : Nat} {v : AV} (hl : ldv ti.d.agg ti.size cs off = some v) :
    ∃ (ca : Array Value) (u : Value), c = .agg ca ∧ (part T ca off).run P w = .ok u w ∧ RepV w D h β v u := by
  obtain ⟨h1, h2, h3⟩ := hv.cells rfl
  have ha := run_agg (hP _ _ hT) w
  have hs := run_size (hP _ _ hT) w
  obtain ⟨ca, rfl⟩ : ∃ ca, c = .agg ca := by
    cases hv with
    | fz _ _ hf => cases hf with | agg _ c => exact ⟨c, rfl⟩
    | agg _ c => exact ⟨c, rfl⟩
  simp only [Value.cells, AV.cells] at h1 h2 h3
  unfold ldv at hl
  cases hb : ti.d.agg with
  | false =>
    simp only [hb, cond_false] at hl
    have hlt : off < ca.size := by rw [h1]; exact (List.getElem?_eq_some_iff.1 hl).1
    exact ⟨ca, ca.getD off undef, rfl, by simp only [part, Sem.run_bind, ha, hb, Result.andThen_ok, getD_eq ca off hlt, Bool.false_eq_true, if_false, Sem.run_pure], h3 _ _ hl⟩
  | true =>
    simp only [hb, cond_true] at hl
    cases hle : Nat.ble (off + ti.size) cs.length with
    | false => simp [hle] at hl
    | true =>
      have hle' := Nat.le_of_ble_eq_true hle
      simp only [hle, cond_true, Option.some.injEq] at hl
      subst hl
      have hat : ∀ i, i < ti.size → (ca.extract off (off + ti.size)).getD i undef = ca.getD (off + i) undef := fun i hi => by
        apply getD_of
        rw [Array.getElem?_extract]
        rw [if_pos (by omega)]
        exact getD_eq ca _ (by omega)
      refine ⟨ca, .agg (ca.extract off (off + ti.size)), rfl, by simp only [part, Sem.run_bind, ha, hb, Result.andThen_ok, if_true, hs, Sem.run_pure], .agg _ _ (by simp; omega) (fun i hi => ?_) fun i u hu => ?_⟩
      · have hi' : i < ti.size := by simp at hi; omega
        rw [hat i hi']
        exact h2 _ (by omega)
      · rw [List.getElem?_take] at hu
        split at hu
        · rename_i hi
          rw [hat i hi]
          rw [List.getElem?_drop] at hu
          exact h3 _ _ hu
        · cases hu
theorem stp_field (hP : TOK P TT) {T f o ft : Nat} {x : Operand} {ti tf : TI} {fs : List (Nat × Nat)} {cs : List AV} {v : AV} (hx : opv (look st.tm) x = .agg cs) (hT : TT[T]? = some ti) (hd : ti.d = .str fs) (hf : fs[f]? = some (o, ft))
    (hft : TT[ft]? = some tf) (hv : ldv tf.d.agg tf.size cs o = some v) : Stp P st (.field T x f) v [] [] [] :=
  stp_val fun oo X tm h w β a ho hg hr HH Ht => by
    obtain ⟨dst, op', type, pos, after, guard⟩ := oo
    dsimp only at ho; subst ho
    have h1 := arg Ht hg (x := x) (by simp [Op.operands]) hx
    obtain ⟨fields, fd, e1, e2, e3, e4⟩ := field_of hP hT hd hf w
    obtain ⟨ca, u, hc, hr, hu⟩ := part_rep hP hft h1 hv
    exact ⟨u, by simp [execOp, hc, Instr.field, e1, e2, asAgg, e3, e4, hr], hu⟩
theorem stp_index (hP : TOK P TT) {T e n : Nat} {x ix : Operand} {ti te : TI} {cs : List AV} {v : AV} {k : IntKind} {i : Int} (hx : opv (look st.tm) x = .agg cs) (hi : opv (look st.tm) ix = .s (.int k i)) (hT : TT[T]? = some ti) (hd : ti.d = .arr n e) (he : TT[e]? = some te)
    (h0 : 0 ≤ i) (hl : i < n) (hv : ldv te.d.agg te.size cs (i.toNat * te.size) = some v) : Stp P st (.index T x ix) v [] [] [] :=
  stp_val fun oo X tm h w β a ho hg hr HH Ht => by
    obtain ⟨dst, op', type, pos, after, guard⟩ := oo
    dsimp only at ho; subst ho
    have h1 := arg Ht hg (x := x) (by simp [Op.operands]) hx
    have h2 := arg_s Ht hg (x := ix) (by simp [Op.operands]) hi
    obtain ⟨u, hu, hd'⟩ := run_under (hP _ _ hT) w
    obtain rfl := td_arr (hd'.trans hd)
    have hs := run_size (hP _ _ he) w
    obtain ⟨ca, u, hc, hr, hu'⟩ := part_rep hP he h1 hv
    exact ⟨u, by simp [execOp, hc, Instr.index, asIntOf, h2, hu, h0, hl, hs, hr], hu'⟩

/-! ### Addresses that are not nil -/
theorem stp_nilCheck_box {x : Operand} {k off : Nat} {cs : List AV} (hx : opv (look st.tm) x = .ptr k 0 off) (hk : lookE st.h k = some (.box cs)) : Stp P st (.nilCheck x) (.ptr k 0 off) [] [k] [] :=
  stp_val fun oo X tm h w β a ho hg hr HH Ht => by
    obtain ⟨dst, op', type, pos, after, guard⟩ := oo
    dsimp only at ho; subst ho
    have h1 := arg Ht hg (x := x) (by simp [Op.operands]) hx
    have hk' := (hr k (by simp)).trans hk
    obtain ⟨b, hc, _, _⟩ := row_box HH hk' h1
    rw [hc] at h1
    exact ⟨_, by simp [execOp, hc], h1⟩
theorem stp_nilCheck_arr {x : Operand} {k i off sz : Nat} {xs : List AV} {sl : Fl} {y : AV} (hx : opv (look st.tm) x = .ptr k i off) (hk : lookE st.h k = some (.arr sz xs sl)) (hy : xs[i]? = some y) : Stp P st (.nilCheck x) (.ptr k i off) [] [k] [] :=
  stp_val fun oo X tm h w β a ho hg hr HH Ht => by
    obtain ⟨dst, op', type, pos, after, guard⟩ := oo
    dsimp only at ho; subst ho
    have h1 := arg Ht hg (x := x) (by simp [Op.operands]) hx
    have hk' := (hr k (by simp)).trans hk
    obtain ⟨b, n, hc, _, _, _, _⟩ := row_arr HH hk' hy h1
    rw [hc] at h1
    exact ⟨_, by simp [execOp, hc], h1⟩

/-! ### Lengths -/
theorem stp_len_sl (hP : TOK P TT) {T e : Nat} {x : Operand} {ti : TI} {nn : Bool} {xs : List AV} (hx : opv (look st.tm) x = .sl nn xs) (hT : TT[T]? = some ti) (hd : ti.d = .slice e) :
    Stp P st (.call ⟨.builtin .len, #[x], #[T]⟩) (.s (.int .i64 xs.length)) [] [] [] :=
  stp_val fun oo X tm h w β a ho hg hr HH Ht => by
    obtain ⟨dst, op', type, pos, after, guard⟩ := oo
    dsimp only at ho; subst ho
    have h1 := arg Ht hg (x := x) (by simp [Op.operands, Call.operands]) hx
    obtain ⟨u, hu, hd'⟩ := run_under (hP _ _ hT) w
    obtain rfl := td_slice (hd'.trans hd)
    obtain ⟨b, cap, hc⟩ : ∃ b cap, a.eval x = .slice b xs.length cap := by
      generalize a.eval x = cx at h1
      cases h1 with
      | fz _ _ hf => cases hf <;> exact ⟨_, _, rfl⟩
    exact ⟨_, by simp [execOp, resolve, invoke, builtin, Builtin.len_, hc, hu, goInt], .fz _ _ (.s _)⟩
theorem stp_len_ref (hP : TOK P TT) {T e : Nat} {x : Operand} {ti : TI} {k off len sz : Nat} {xs : List AV} {sl : Fl} (hx : opv (look st.tm) x = .ref k off len) (hk : lookE st.h k = some (.arr sz xs sl)) (hT : TT[T]? = some ti) (hd : ti.d = .slice e) :
    Stp P st (.call ⟨.builtin .len, #[x], #[T]⟩) (.s (.int .i64 len)) [] [k] [] :=
  stp_val fun oo X tm h w β a ho hg hr HH Ht => by
    obtain ⟨dst, op', type, pos, after, guard⟩ := oo
    dsimp only at ho; subst ho
    have h1 := arg Ht hg (x := x) (by simp [Op.operands, Call.operands]) hx
    have hk' := (hr k (by simp)).trans hk
    obtain ⟨u, hu, hd'⟩ := run_under (hP _ _ hT) w
    obtain rfl := td_slice (hd'.trans hd)
    obtain ⟨b, cap, hc⟩ : ∃ b cap, a.eval x = .slice b len cap := by
      generalize a.eval x = cx at h1
      cases h1 with
      | fz _ _ hf => cases hf
      | dref _ _ _ _ hd _ => rw [hk'] at hd; cases hd
      | ref0 _ _ _ _ _ _ _ _ => exact ⟨_, _, rfl⟩
      | ref _ _ _ _ _ _ _ _ _ _ _ _ _ _ => exact ⟨_, _, rfl⟩
    exact ⟨_, by simp [execOp, resolve, invoke, builtin, Builtin.len_, hc, hu, goInt], .fz _ _ (.s _)⟩
theorem stp_len_nil (hP : TOK P TT) {T e : Nat} {x : Operand} {ti : TI} {b : Option Addr} {n cap : Nat} (hx : opv (look st.tm) x = .s (.slice b n cap)) (hT : TT[T]? = some ti) (hd : ti.d = .slice e) :
    Stp P st (.call ⟨.builtin .len, #[x], #[T]⟩) (.s (.int .i64 n)) [] [] [] :=
  stp_val fun oo X tm h w β a ho hg hr HH Ht => by
    obtain ⟨dst, op', type, pos, after, guard⟩ := oo
    dsimp only at ho; subst ho
    have hc := arg_s Ht hg (x := x) (by simp [Op.operands, Call.operands]) hx
    obtain ⟨u, hu, hd'⟩ := run_under (hP _ _ hT) w
    obtain rfl := td_slice (hd'.trans hd)
    exact ⟨_, by simp [execOp, resolve, invoke, builtin, Builtin.len_, hc, hu, goInt], .fz _ _ (.s _)⟩

/-! ### Slices of slices -/
/-- A bound of a slice expression. -/
def Bd (st : St) (o : Option Operand) (dflt n : Nat) : Prop := match o with
  | none => n = dflt
  | some x => ∃ k i, opv (look st.tm) x = .s (.int k i) ∧ i = (n : Int)
theorem run_bounds {P : Program} {st : St} {op : Op} {tm : Nat → AV} {a : Act} {w : World} {D : Nat → Prop} {h : Heap} {β : Map} (H : ∀ t, RepV w D h β (tm t) (a.eval (.tmp t))) (hg : ∀ t, t ∈ tmpsOf op → tm t = look st.tm t) {lo hi : Option Operand}
    (h1 : ∀ x, lo = some x → x ∈ op.operands) (h2 : ∀ x, hi = some x → x ∈ op.operands) {len cap l r : Nat} (hl : Bd st lo 0 l) (hr : Bd st hi len r) (hlr : l ≤ r) (hrc : r ≤ cap) (b : Bool) :
    (Instr.sliceBounds b len cap (lo.map a.eval) (hi.map a.eval) none).run P w = .ok (l, r, cap) w := by
  unfold Instr.sliceBounds
  cases lo with
  | none =>
    simp only [Bd] at hl
    subst hl
    cases hi with
    | none => simp only [Bd] at hr; subst hr; simp
    | some y =>
      obtain ⟨k, i, e1, rfl⟩ := hr
      have e2 := arg_s H hg (h2 y rfl) e1
      simp [Instr.sliceBound, e2, asIntOf, hrc]
  | some x =>
    obtain ⟨k, i, e1, rfl⟩ := hl
    have e2 := arg_s H hg (h1 x rfl) e1
    cases hi with
    | none => simp only [Bd] at hr; subst hr; simp [Instr.sliceBound, e2, asIntOf, hlr]
    | some y =>
      obtain ⟨k', i', e3, rfl⟩ := hr
      have e4 := arg_s H hg (h2 y rfl) e3
      simp [Instr.sliceBound, e2, e4, asIntOf, hlr, hrc]
theorem stp_slice_sl (hP : TOK P TT) {T e : Nat} {x : Operand} {lo hi : Option Operand} {ti te : TI} {nn : Bool} {xs : List AV} {l r : Nat} (hx : opv (look st.tm) x = .sl nn xs) (hT : TT[T]? = some ti) (hd : ti.d = .slice e) (he : TT[e]? = some te)
    (hl : Bd st lo 0 l) (hr : Bd st hi xs.length r) (hlr : l ≤ r) (hrx : r ≤ xs.length) (hsz : ∀ y, xs[0]? = some y → y.cells.length = te.size) : Stp P st (.slice T x lo hi none) (.sl nn ((xs.drop l).take (r - l))) [] [] [] :=
  stp_val fun oo X tm h w β a ho hg _ HH Ht => by
    obtain ⟨dst, op', type, pos, after, guard⟩ := oo
    dsimp only at ho; subst ho
    have h1 := arg Ht hg (x := x) (by simp [Op.operands]) hx
    obtain ⟨u, hu, hd'⟩ := run_under (hP _ _ hT) w
    obtain rfl := td_slice (hd'.trans hd)
    have hs := run_size (hP _ _ he) w
    obtain ⟨b, cap, hc, hcap⟩ : ∃ b cap, a.eval x = .slice b xs.length cap ∧ xs.length ≤ cap := by
      generalize a.eval x = cx at h1
      cases h1 with
      | fz _ _ hf =>
        cases hf with
        | nil a cap => exact ⟨_, _, rfl, by simp⟩
        | nil1 a cap => exact ⟨_, _, rfl, by simp⟩
        | sl _ _ b o sz cap f hne hL hc hh => exact ⟨_, _, rfl, hc⟩
    have hb := run_bounds (P := P) Ht hg (lo := lo) (hi := hi) (fun y hy => by subst hy; simp [Op.operands]) (fun y hy => by subst hy; simp [Op.operands]) hl hr hlr (Nat.le_trans hrx hcap) true
    have hrun : (execOp a.eval ⟨dst, .slice T x lo hi none, type, pos, after, guard⟩).run P w = .ok (.value (.slice (if cap = l then b else b.map (·.add (l * te.size))) (r - l) (cap - l))) w := by
      simp only [execOp, Instr.sliceAt, Instr.slice, Sem.run_bind, hu, Result.andThen_ok, hc, Option.map_none, hb, hs, Sem.run_pure]
    refine ⟨_, hrun, .fz _ _ ?_⟩
    rw [hc] at h1
    have hlen : ((xs.drop l).take (r - l)).length = r - l := by simp; omega
    by_cases hz : r - l = 0
    · have hnil : (xs.drop l).take (r - l) = [] := List.eq_nil_of_length_eq_zero (by omega)
      rw [hnil, hz]
      cases nn with
      | false => exact .nil _ _
      | true =>
        cases h1 with
        | fz _ _ hf =>
          cases hf with
          | nil1 a cap => split <;> exact .nil1 _ _
          | sl _ _ b o sz cap f hne hL hc hh => split <;> exact .nil1 _ _
    · cases h1 with
      | fz _ _ hf =>
        cases hf with
        | nil a cap => simp at hrx; omega
        | nil1 a cap => simp at hrx; omega
        | sl _ _ b o sz cap f hne hL hc hh =>
          have hne' : ¬ cap = l := by omega
          have hsz' : te.size = sz := by
            obtain ⟨y, hy⟩ : ∃ y, xs[0]? = some y := ⟨xs[0]'(by omega), by simp⟩
            rw [← hsz y hy, hL.wide 0 y hy]
          have hat : ∀ (i : Nat) y, ((xs.drop l).take (r - l))[i]? = some y → xs[l + i]? = some y := fun i y hy => by
            rw [List.getElem?_take] at hy
            split at hy
            · rwa [List.getElem?_drop] at hy
            · cases hy
          rw [if_neg hne', Option.map_some, add_at, hsz']
          have := RepF.sl (w := w) (D := Dom X β) nn ((xs.drop l).take (r - l)) b (o + l * sz) sz (cap - l) (fun i j => f (l + i) j) (fun h0 => hz (by rw [← hlen, h0]; rfl))
            ⟨hL.lt, hL.nd, hL.pos, by rw [hlen]; exact Nat.le_trans (Nat.sub_le _ _) (Nat.le_trans hrx hL.max), fun i y hy => hL.wide _ y (hat i y hy), fun i j hi hj => by
              rw [hlen] at hi
              have := hL.cell (l + i) j (by omega) hj
              rwa [Nat.add_mul, ← Nat.add_assoc] at this, fun i j hi hj => hL.one _ _ (by rw [hlen] at hi; omega) hj⟩ (by omega) (fun i y j v hy hv => hh _ y j v (hat i y hy) hv)
          rwa [hlen] at this
theorem stp_slice_ref (hP : TOK P TT) {T e : Nat} {x : Operand} {lo hi : Option Operand} {ti te : TI} {k off len sz : Nat} {xs : List AV} {sl : Fl} {l r : Nat} (hx : opv (look st.tm) x = .ref k off len) (hk : lookE st.h k = some (.arr sz xs sl)) (hT : TT[T]? = some ti) (hd : ti.d = .slice e) (he : TT[e]? = some te)
    (hl : Bd st lo 0 l) (hr : Bd st hi len r) (hlr : l ≤ r) (hrx : r ≤ len) (hsz : Nat.beq sz te.size = true) : Stp P st (.slice T x lo hi none) (.ref k (off + l) (r - l)) [] [k] [] :=
  stp_val fun oo X tm h w β a ho hg hr' HH Ht => by
    obtain ⟨dst, op', type, pos, after, guard⟩ := oo
    dsimp only at ho; subst ho
    have h1 := arg Ht hg (x := x) (by simp [Op.operands]) hx
    have hk' := (hr' k (by simp)).trans hk
    have hsz := Nat.eq_of_beq_eq_true hsz
    obtain ⟨u, hu, hd'⟩ := run_under (hP _ _ hT) w
    obtain rfl := td_slice (hd'.trans hd)
    have hs := run_size (hP _ _ he) w
    have hE := HH.ent k _ hk'
    generalize hcx : a.eval x = cx at h1
    have main : ∀ b cap, cx = .slice b len cap → len ≤ cap → (execOp a.eval ⟨dst, .slice T x lo hi none, type, pos, after, guard⟩).run P w = .ok (.value (.slice (if cap = l then b else b.map (·.add (l * te.size))) (r - l) (cap - l))) w := by
      intro b cap hc hcap
      have hb := run_bounds (P := P) Ht hg (lo := lo) (hi := hi) (fun y hy => by subst hy; simp [Op.operands]) (fun y hy => by subst hy; simp [Op.operands]) hl hr hlr (Nat.le_trans hrx hcap) true
      simp only [execOp, Instr.sliceAt, Instr.slice, Sem.run_bind, hu, Result.andThen_ok, hcx, hc, Option.map_none, hb, hs, Sem.run_pure]
    cases h1 with
    | fz _ _ hf => cases hf
    | dref _ _ _ _ hd _ => rw [hk'] at hd; cases hd
    | ref0 _ _ sz' xs' st' b hk'' hn =>
      have hm := main b 0 rfl (Nat.le_refl _)
      obtain rfl : r = 0 := by omega
      obtain rfl : l = 0 := by omega
      exact ⟨_, hm, .ref0 k off sz' xs' st' _ hk'' hn⟩
    | ref _ _ _ sz' xs' st' b n cap hk'' hb hn hc hs' =>
      have hm := main _ cap rfl hc
      have h3 := hk''
      rw [hk'] at h3
      cases h3
      refine ⟨_, hm, ?_⟩
      obtain ⟨_, _, _, _, g5, _⟩ := hE
      have hnx : n ≤ xs.length := by
        cases hbk : β k with
        | nil => rw [hbk] at hb; simp at hb
        | cons q rr =>
          obtain ⟨b0, n0⟩ := q
          obtain ⟨e1, _, e3⟩ := g5 b0 n0 rr hbk
          rw [hbk] at hb
          simp at hb
          rcases hb with ⟨_, rfl⟩ | hb
          · omega
          · exact Nat.le_of_lt (e3 b n hb)
      by_cases hcl : cap = l
      · obtain rfl : r = l := by omega
        rw [if_pos hcl, show r - r = 0 by omega, show cap - r = 0 by omega]
        exact .ref0 k _ sz xs sl _ hk'' (by omega)
      · rw [if_neg hcl, Option.map_some, add_at, ← hsz, ← Nat.add_mul]
        exact .ref k (off + l) (r - l) sz xs sl b n (cap - l) hk'' hb (by omega) (by omega) (by rw [show off + l + (cap - l) = off + cap by omega]; exact hs')
end ops
end Av
end Go.Proofs.Ytianonghhmiooaa
/- Abstract values: append. -/
namespace Go.Proofs.Ytianonghhmiooaa
namespace Av
set_option linter.unusedSimpArgs false
set_option linter.unusedVariables false

/-- The elements of a slice. -/
def elsG (ne : Bool) (h : Heap) : AV → Option (List AV)
  | .sl _ ys => some ys
  | .s v => match v with
    | .slice none 0 0 => some []
    | _ => none
  | .ref k off len => match h k with
    | some (.arr _ xs fl) => bif fl.nest && !ne then none else some ((xs.drop off).take len)
    | _ => none
  | _ => none
/-- The elements of a slice in which no keys are. -/
abbrev els (h : Heap) : AV → Option (List AV) := elsG false h
/-- The keys that its elements are read under. -/
def elk : AV → List Nat
  | .ref k _ _ => [k]
  | _ => []

/-- The elements lie in memory from an address on. -/
structure Src (w : World) (D : Nat → Prop) (h : Heap) (β : Map) (ne : Bool) (ys : List AV) (sz : Nat) (b o : Nat) (f : Nat → Nat → Value) : Prop where
  wide : ∀ (i : Nat) (y : AV), ys[i]? = some y → y.cells.length = sz
  cell : ∀ i j, i < ys.length → j < sz → w.cell? ⟨b, o + i * sz + j, none⟩ = some (f i j)
  one : ∀ i j, i < ys.length → j < sz → (f i j).oneCell' = true
  rep : ContOK w D h β ne ys f
theorem els_rep {w : World} {X : Nat → Prop} {h : Heap} {β : Map} (H : HOK X h β w) {x : AV} {c : Value} (hv : RepV w (Dom X β) h β x c) {ne : Bool} {ys : List AV} (he : elsG ne h x = some ys) {sz : Nat} (hsz : ∀ y, ys[0]? = some y → y.cells.length = sz) :
    ∃ a cap, c = .slice a ys.length cap ∧ ys.length ≤ cap ∧ ys.length ≤ maxN ∧ (ys ≠ [] → ∃ b o f, a = some ⟨b, o, none⟩ ∧ Src w (Dom X β) h β ne ys sz b o f) := by
  cases hv with
  | fz _ _ hf =>
    cases hf with
    | s v =>
      simp only [elsG] at he
      split at he
      · cases he
        exact ⟨none, 0, rfl, by simp, by simp, fun h => absurd rfl h⟩
      · cases he
    | nil a cap => cases he; exact ⟨a, cap, rfl, by simp, by simp, fun h => absurd rfl h⟩
    | nil1 a cap => cases he; exact ⟨some a, cap, rfl, by simp, by simp, fun h => absurd rfl h⟩
    | sl nn xs b o sz' cap f hne hL hc hh =>
      cases he
      have hs : sz' = sz := by
        obtain ⟨y, hy⟩ : ∃ y, ys[0]? = some y := by cases ys with | nil => exact absurd rfl hne | cons y _ => exact ⟨y, rfl⟩
        rw [← hsz y hy, hL.wide 0 y hy]
      subst hs
      exact ⟨_, cap, rfl, hc, hL.max, fun _ => ⟨b, o, f, rfl, hL.wide, hL.cell, hL.one, .ofF hh⟩⟩
    | _ => cases he
  | ref k off len sz' xs st b n cap hk hb hn hc hs =>
    simp only [elsG, hk] at he
    obtain ⟨hne0, he⟩ : (ne = false → st.nest = false) ∧ some ((xs.drop off).take len) = some ys := by
      cases hn1 : st.nest <;> cases ne <;> simp_all
    obtain rfl := Option.some.inj he
    obtain ⟨g1, g2, g3, g4, g5, f, g6, g7, g8⟩ := H.ent k _ hk
    have hnx : n ≤ xs.length := by
      cases hbk : β k with
      | nil => rw [hbk] at hb; simp at hb
      | cons q rr =>
        obtain ⟨b0, n0⟩ := q
        obtain ⟨e1, _, e3⟩ := g5 b0 n0 rr hbk
        rw [hbk] at hb
        simp at hb
        rcases hb with ⟨_, rfl⟩ | hb
        · omega
        · exact Nat.le_of_lt (e3 b n hb)
    have hl : ((xs.drop off).take len).length = len := by simp; omega
    have hat : ∀ (i : Nat) y, ((xs.drop off).take len)[i]? = some y → xs[off + i]? = some y := fun i y hy => by
      rw [List.getElem?_take] at hy
      split at hy
      · rwa [List.getElem?_drop] at hy
      · cases hy
    refine ⟨_, cap, by rw [hl], by rw [hl]; exact hc, by omega, fun hne => ?_⟩
    have hs' : sz' = sz := by
      obtain ⟨y, hy⟩ : ∃ y, ((xs.drop off).take len)[0]? = some y := by
        cases h0 : (xs.drop off).take len with | nil => exact absurd h0 hne | cons y _ => exact ⟨y, rfl⟩
      rw [← hsz y hy, g4 _ y (hat 0 y hy)]
    subst hs'
    obtain ⟨c, el, e1, e2, e3⟩ := g8 b n hb
    refine ⟨b, off * sz', fun i j => f (off + i) j, rfl, fun i y hy => g4 _ y (hat i y hy), fun i j hi hj => ?_, fun i j hi hj => g7 _ _ (by rw [hl] at hi; omega) hj, fun i y j v hy hv => ⟨g6.toV _ y j v (hat i y hy) hv, fun hn => g6.toF (hne0 hn) _ y j v (hat i y hy) hv⟩⟩
    rw [hl] at hi
    rw [cell_of_heap e1, show off * sz' + i * sz' + j = (off + i) * sz' + j by rw [Nat.add_mul]]
    exact e3 _ _ (by omega) hj
  | ref0 k off sz' xs st a hk hn =>
    simp only [elsG, hk, List.take_zero] at he
    obtain rfl : [] = ys := by
      cases hn1 : st.nest <;> cases ne <;> simp_all
    exact ⟨a, 0, rfl, by simp, by simp, fun h => absurd rfl h⟩
  | dref _ _ _ _ hk _ => simp [elsG, hk] at he
  | _ => simp [elsG] at he

/-- The cells of the elements, one after the other. -/
def flat (f : Nat → Nat → Value) (n sz : Nat) : List Value := (List.range (n * sz)).map fun q => f (q / sz) (q % sz)
theorem flat_length (f : Nat → Nat → Value) (n sz : Nat) : (flat f n sz).length = n * sz := by simp [flat]
theorem flat_at (f : Nat → Nat → Value) {n sz q : Nat} (h : q < n * sz) : (flat f n sz)[q]? = some (f (q / sz) (q % sz)) := by simp [flat, h]
theorem flat_at2 (f : Nat → Nat → Value) {n sz i j : Nat} (hi : i < n) (hj : j < sz) : (flat f n sz)[i * sz + j]? = some (f i j) := by
  have h1 : i * sz + j < n * sz := by
    have := Nat.mul_le_mul_right sz (show i + 1 ≤ n by omega)
    rw [Nat.add_mul, Nat.one_mul] at this
    omega
  rw [flat_at f h1]
  have h2 : (i * sz + j) / sz = i := Nat.div_eq_of_lt_le (by omega) (by rw [Nat.add_mul, Nat.one_mul]; omega)
  have h3 : (i * sz + j) % sz = j := by rw [Nat.mul_comm, Nat.mul_add_mod]; exact Nat.mod_eq_of_lt hj
  rw [h2, h3]
theorem Src.flat {w : World} {D : Nat → Prop} {h : Heap} {β : Map} {ne : Bool} {ys : List AV} {sz b o : Nat} {f : Nat → Nat → Value} (hS : Src w D h β ne ys sz b o f) (hp : 1 ≤ sz) :
    (∀ j u, (Av.flat f ys.length sz)[j]? = some u → w.cell? ((⟨b, o, none⟩ : Addr).add j) = some u) ∧ ∀ u ∈ Av.flat f ys.length sz, u.oneCell' = true := by
  have key : ∀ j, j < ys.length * sz → j / sz < ys.length ∧ j % sz < sz ∧ j / sz * sz + j % sz = j := fun j hj =>
    ⟨(Nat.div_lt_iff_lt_mul (by omega)).2 hj, Nat.mod_lt _ (by omega), by rw [Nat.mul_comm]; exact Nat.div_add_mod j sz⟩
  refine ⟨fun j u hu => ?_, fun u hu => ?_⟩
  · have hj : j < ys.length * sz := by rw [← flat_length f ys.length sz]; exact (List.getElem?_eq_some_iff.1 hu).1
    rw [flat_at f hj] at hu
    cases hu
    obtain ⟨h1, h2, h3⟩ := key j hj
    have := hS.cell _ _ h1 h2
    rw [add_at]
    rwa [Nat.add_assoc, h3] at this
  · obtain ⟨j, hu⟩ := List.getElem?_of_mem hu
    have hj : j < ys.length * sz := by rw [← flat_length f ys.length sz]; exact (List.getElem?_eq_some_iff.1 hu).1
    rw [flat_at f hj] at hu
    cases hu
    obtain ⟨h1, h2, _⟩ := key j hj
    exact hS.one _ _ h1 h2

section runs
variable {P : Program} {TT : List TI} (hP : TOK P TT) {T e : Nat} {ti te : TI} (hT : TT[T]? = some ti) (hd : ti.d = .slice e) (he : TT[e]? = some te) (w : World)
include hP hT hd he
theorem slice_facts : ∃ (i : TypeInfo) (z : Value), P.underlying T = some (.slice e) ∧ P.info? e = some i ∧ i.zero = some z ∧ i.size = te.size ∧ i.bytes = te.bytes ∧ z.cells.toList = te.zero := by
  obtain ⟨_, u, _, _, hu, _, hd', _⟩ := tiOf_some (hP _ _ hT)
  obtain rfl := td_slice (hd'.symm.trans hd)
  obtain ⟨i, _, z, hi, _, hz, _, hs, hb, hzz⟩ := tiOf_some (hP _ _ he)
  exact ⟨i, z, hu, hi, hz, hs.symm, hb.symm, hzz.symm⟩
/-- Nothing is appended. -/
theorem run_append_zero (ty : Nat) (b b' : Option Addr) (n cap cap' : Nat) (hc : n ≤ cap) : (Builtin.append_ #[T, T] ty #[.slice b n cap, .slice b' 0 cap']).run P w = .ok (.slice b n cap) w := by
  obtain ⟨i, z, hu, hi, hz, _⟩ := slice_facts hP hT hd he
  have h1 : (Builtin.firstCells i.size 0 (.slice b' 0 cap')).run P w = .ok #[] w := by
    cases b' with
    | none => rfl
    | some a => simp only [Builtin.firstCells, loadCells, Nat.zero_mul, loadCellsFrom]; rfl
  cases b with
  | none => simp [Builtin.append_, run_underlying hu, sizeOf, typeInfo, hi, Builtin.lenOf, hc, h1]
  | some a => simp [Builtin.append_, run_underlying hu, sizeOf, typeInfo, hi, Builtin.lenOf, hc, h1, storeCells]
/-- There is room. -/
theorem run_append_in (ty : Nat) (g o n cap : Nat) (cur : Array Value) (el : Nat) (hg : w.heap[g]? = some (.cells cur el (0, 0))) (a : Addr) (m c : Nat) (news : List Value) (hl : news.length = m * te.size)
    (hnews : ∀ j u, news[j]? = some u → w.cell? (a.add j) = some u) (h1 : ∀ u ∈ news, u.oneCell' = true) (hroom : n + m ≤ cap) (hfit : o + n * te.size + news.length ≤ cur.size) :
    (Builtin.append_ #[T, T] ty #[.slice (some ⟨g, o, none⟩) n cap, .slice (some a) m c]).run P w =
      .ok (.slice (some ⟨g, o, none⟩) (n + m) cap) (w.setRow g (cur.toList.take (o + n * te.size) ++ news ++ cur.toList.drop (o + n * te.size + news.length)).toArray) := by
  obtain ⟨i, z, hu, hi, hz, hs, _⟩ := slice_facts hP hT hd he
  rw [← hs] at hl hfit ⊢
  have hf := run_firstCells_some (P := P) w i.size m a m c news hl hnews
  have hst := run_storeCells_at P g (o + n * i.size) el news 0 cur w hg (by simpa using hfit) h1
  simp only [Nat.add_zero] at hst
  simp [Builtin.append_, run_underlying hu, sizeOf, typeInfo, hi, Builtin.lenOf, hroom, hf, add_at, hst]
end runs

theorem Goes.drewThen {X : Nat → Prop} {h : Heap} {β : Map} {w w' : World} {h' : Heap} {β' : Map} (H : HOK X h β w) (G : Goes X w.drew h β w' h' β') : Goes X w h β w' h' β' :=
  Goes.trans H (Goes.drew H (w.drawn + 1)) G

section ops
variable {P : Program} {TT : List TI} {st : St}
theorem els_agree {ne : Bool} {h h' : Heap} {x : AV} (H : ∀ k, k ∈ elk x → h k = h' k) : elsG ne h x = elsG ne h' x := by
  cases x with
  | ref k off len => simp only [elsG]; rw [H k (by simp [elk])]
  | _ => rfl
/-- append to nil. -/
theorem stp_append_nil (hP : TOK P TT) {T e : Nat} {s x : Operand} {ti te : TI} {xv : AV} {ys : List AV} (kn : Nat) (hs : opv (look st.tm) s = .s (.slice none 0 0)) (hx : opv (look st.tm) x = xv) (hT : TT[T]? = some ti) (hd : ti.d = .slice e) (he : TT[e]? = some te)
    (hys : els (lookE st.h) xv = some ys) (hsz : ∀ y, ys[0]? = some y → y.cells.length = te.size) (hp : Nat.ble 1 te.size = true) (hb : Nat.ble te.bytes 65536 = true) (hz : Nat.beq te.zero.length te.size = true) (hn : ys.length ≤ 1073741824) :
    Stp P st (.call ⟨.builtin .append, #[s, x], #[T, T]⟩) (.ref kn 0 ys.length) [(kn, .arr te.size ys false)] (elk xv) [kn] := by
  refine ⟨?_⟩
  intro X tm h hg hr hnw o a w β ho HH Ht
  obtain ⟨dst, op', type, pos, after, guard⟩ := o
  dsimp only at ho; subst ho
  have hkn := hnw kn (by simp)
  have h1 := arg_s Ht hg (x := s) (by simp [Op.operands, Call.operands]) hs
  have h2 := arg Ht hg (x := x) (by simp [Op.operands, Call.operands]) hx
  have hp := Nat.le_of_ble_eq_true hp
  have hb := Nat.le_of_ble_eq_true hb
  obtain ⟨ad, cap, hc, _, hmax, hsrc⟩ := els_rep HH h2 ((els_agree hr).trans hys) hsz
  obtain ⟨i, z, hu, hi, hzz, e1, e2, e3⟩ := slice_facts hP hT hd he
  have hz := Nat.eq_of_beq_eq_true hz
  have hop : ∀ {v w'}, (Builtin.append_ #[T, T] type #[.slice none 0 0, a.eval x]).run P w = .ok v w' → (execOp a.eval ⟨dst, .call ⟨.builtin .append, #[s, x], #[T, T]⟩, type, pos, after, guard⟩).run P w = .ok (.value v) w' := fun hv => by
    simp [execOp, resolve, invoke, builtin, h1, hv]
  by_cases hnil : ys = []
  · subst hnil
    rw [hop (by rw [hc]; exact run_append_zero hP hT hd he w type none ad 0 0 cap (Nat.le_refl _))]
    refine ⟨upd β kn [], Goes.step HH kn _ _ (Nat.le_refl _) (fun _ _ _ => rfl) rfl rfl rfl (fun b n hm => by simp at hm) (fun _ _ _ => rfl) (fun e he => by rw [hkn] at he; cases he) (fun E => ⟨hp, by simp, fun h => absurd rfl h, fun i y hy => by simp at hy,
      fun b n r hr => by rw [upd_same] at hr; simp at hr, fun _ _ => undef, fun i y j v hy _ => by simp at hy, fun i j hi _ => by simp at hi, fun b n hm => by rw [upd_same] at hm; simp at hm⟩), .ref0 kn 0 _ _ _ _ (over_same _ _ _) (by simp)⟩
  · obtain ⟨b, q, f, rfl, hS⟩ := hsrc hnil
    have hpos : 0 < ys.length := by cases ys with | nil => exact absurd rfl hnil | cons _ _ => simp
    obtain ⟨hf1, hf2⟩ := hS.flat hp
    have hbytes : ys.length * i.bytes ≤ 281474976710656 := by
      have := Nat.mul_le_mul hn (show i.bytes ≤ 65536 by omega)
      omega
    have hrun := run_append_nil (P := P) w T type e i z hu hi hzz ⟨b, q, none⟩ ys.length cap (flat f ys.length te.size) (by rw [flat_length, e1]) hf1 hpos (by unfold maxN at hmax; omega) hbytes
    rw [hop (by rw [hc]; exact hrun)]
    have HD := HH.drew (w.drawn + 1)
    have hzs : z.cells.size = te.zero.length := by rw [← e3]; simp
    have hge := grownCap_ge w ys.length 0 e
    obtain ⟨β', G, hv⟩ := Goes.newArr HD hkn ((flat f ys.length te.size).toArray ++ Builtin.zeroCells z.cells (grownCap w ys.length 0 e - ys.length)) e te.size ys (grownCap w ys.length 0 e) f hp hmax hge (by
        simp only [Array.size_append, List.size_toArray, flat_length, size_zeroCells, hzs, hz, ← Nat.add_mul]
        exact Nat.mul_le_mul_right _ (by omega)) hS.wide
      (fun i j hi hj => by
        rw [Array.getElem?_append_left (by simp [flat_length]; have := Nat.mul_le_mul_right te.size (show i + 1 ≤ ys.length by omega); rw [Nat.add_mul, Nat.one_mul] at this; omega)]
        simpa using flat_at2 f hi hj) hS.one (fun i y j v hy hv => RepF.evo (w := w) (w' := { w with drawn := w.drawn + 1 }) (Nat.le_refl _) (fun _ _ hd => ⟨rfl, hd⟩) (hS.rep.toF rfl i y j v hy hv))
    exact ⟨β', Goes.trans HH (Goes.drew HH (w.drawn + 1)) G, hv⟩
/-- append to nil: an array that no one changes any more. -/
theorem stp_append_nilF (hP : TOK P TT) {T e : Nat} {s x : Operand} {ti te : TI} {xv : AV} {ys : List AV} (hs : opv (look st.tm) s = .s (.slice none 0 0)) (hx : opv (look st.tm) x = xv) (hT : TT[T]? = some ti) (hd : ti.d = .slice e) (he : TT[e]? = some te)
    (hys : els (lookE st.h) xv = some ys) (hsz : ∀ y, ys[0]? = some y → y.cells.length = te.size) (hp : Nat.ble 1 te.size = true) (hb : Nat.ble te.bytes 65536 = true) (hz : Nat.beq te.zero.length te.size = true) (hn : ys.length ≤ 1073741824) :
    Stp P st (.call ⟨.builtin .append, #[s, x], #[T, T]⟩) (.sl false ys) [] (elk xv) [] := by
  refine ⟨?_⟩
  intro X tm h hg hr _ o a w β ho HH Ht
  obtain ⟨dst, op', type, pos, after, guard⟩ := o
  dsimp only at ho; subst ho
  have h1 := arg_s Ht hg (x := s) (by simp [Op.operands, Call.operands]) hs
  have h2 := arg Ht hg (x := x) (by simp [Op.operands, Call.operands]) hx
  have hp := Nat.le_of_ble_eq_true hp
  have hb := Nat.le_of_ble_eq_true hb
  obtain ⟨ad, cap, hc, _, hmax, hsrc⟩ := els_rep HH h2 ((els_agree hr).trans hys) hsz
  obtain ⟨i, z, hu, hi, hzz, e1, e2, e3⟩ := slice_facts hP hT hd he
  have hz := Nat.eq_of_beq_eq_true hz
  have hop : ∀ {v w'}, (Builtin.append_ #[T, T] type #[.slice none 0 0, a.eval x]).run P w = .ok v w' → (execOp a.eval ⟨dst, .call ⟨.builtin .append, #[s, x], #[T, T]⟩, type, pos, after, guard⟩).run P w = .ok (.value v) w' := fun hv => by
    simp [execOp, resolve, invoke, builtin, h1, hv]
  by_cases hnil : ys = []
  · subst hnil
    rw [hop (by rw [hc]; exact run_append_zero hP hT hd he w type none ad 0 0 cap (Nat.le_refl _))]
    rw [over_nil]
    exact ⟨β, Goes.refl HH, .fz _ _ (.nil _ _)⟩
  · obtain ⟨b, q, f, rfl, hS⟩ := hsrc hnil
    have hpos : 0 < ys.length := by cases ys with | nil => exact absurd rfl hnil | cons _ _ => simp
    obtain ⟨hf1, hf2⟩ := hS.flat hp
    have hbytes : ys.length * i.bytes ≤ 281474976710656 := by
      have := Nat.mul_le_mul hn (show i.bytes ≤ 65536 by omega)
      omega
    have hrun := run_append_nil (P := P) w T type e i z hu hi hzz ⟨b, q, none⟩ ys.length cap (flat f ys.length te.size) (by rw [flat_length, e1]) hf1 hpos (by unfold maxN at hmax; omega) hbytes
    rw [hop (by rw [hc]; exact hrun)]
    have HD := HH.drew (w.drawn + 1)
    have hzs : z.cells.size = te.zero.length := by rw [← e3]; simp
    have hge := grownCap_ge w ys.length 0 e
    have G := Goes.newFz HD ((flat f ys.length te.size).toArray ++ Builtin.zeroCells z.cells (grownCap w ys.length 0 e - ys.length)) e
    have hv := RepF.newArr HD ((flat f ys.length te.size).toArray ++ Builtin.zeroCells z.cells (grownCap w ys.length 0 e - ys.length)) e te.size ys (grownCap w ys.length 0 e) f hp hmax hge hS.wide
      (fun i j hi hj => by
        rw [Array.getElem?_append_left (by simp [flat_length]; have := Nat.mul_le_mul_right te.size (show i + 1 ≤ ys.length by omega); rw [Nat.add_mul, Nat.one_mul] at this; omega)]
        simpa using flat_at2 f hi hj) hS.one (fun i y j v hy hv => RepF.evo (w := w) (w' := { w with drawn := w.drawn + 1 }) (Nat.le_refl _) (fun _ _ hd => ⟨rfl, hd⟩) (hS.rep.toF rfl i y j v hy hv))
    rw [over_nil]
    refine ⟨β, Goes.trans HH (Goes.drew HH (w.drawn + 1)) G, .fz _ _ hv.wkF⟩
/-- append to an array of one's own, behind its last element. -/
theorem stp_append_refS (st' ne : Bool) (hP : TOK P TT) {T e : Nat} {s x : Operand} {ti te : TI} {k sz : Nat} {xs : List AV} {sl : Fl} {xv : AV} {ys : List AV} (hs : opv (look st.tm) s = .ref k 0 xs.length) (hk : lookE st.h k = some (.arr sz xs sl)) (hx : opv (look st.tm) x = xv) (hT : TT[T]? = some ti) (hd : ti.d = .slice e) (he : TT[e]? = some te)
    (hsl : ne = false → sl.nest = false) (hys : elsG ne (lookE st.h) xv = some ys) (hsz : ∀ y, ys[0]? = some y → y.cells.length = sz) (hss : Nat.beq sz te.size = true) (hb : Nat.ble te.bytes 65536 = true) (hz : Nat.beq te.zero.length te.size = true) (hn : xs.length + ys.length ≤ 1073741824) (hst : st' = false → xs = []) :
    Stp P st (.call ⟨.builtin .append, #[s, x], #[T, T]⟩) (.ref k 0 (xs ++ ys).length) [(k, .arr sz (xs ++ ys) ⟨st', ne⟩)] (k :: elk xv) [] := by
  refine ⟨?_⟩
  intro X tm h hg hr _ o a w β ho HH Ht
  obtain ⟨dst, op', type, pos, after, guard⟩ := o
  dsimp only at ho; subst ho
  have hk' := (hr k (by simp)).trans hk
  have h1 := arg Ht hg (x := s) (by simp [Op.operands, Call.operands]) hs
  have h2 := arg Ht hg (x := x) (by simp [Op.operands, Call.operands]) hx
  have hss := Nat.eq_of_beq_eq_true hss
  have hb := Nat.le_of_ble_eq_true hb
  have hz := Nat.eq_of_beq_eq_true hz
  obtain ⟨g1, g2, g3, g4, g5, fs, g6, g7, g8⟩ := HH.ent k _ hk'
  obtain ⟨ad, cap, hc, _, hmax, hsrc⟩ := els_rep HH h2 ((els_agree fun k' hk => hr k' (by simp [hk])).trans hys) hsz
  obtain ⟨i, z, hu, hi, hzz, e1, e2, e3⟩ := slice_facts hP hT hd he
  have hlen : (xs ++ ys).length = xs.length + ys.length := by simp
  -- the header of the array: its address, its room
  have hdr : ∃ bd cp, a.eval s = .slice bd xs.length cp ∧ xs.length ≤ cp ∧ ((∃ b, bd = some ⟨b, 0, none⟩ ∧ (b, xs.length) ∈ β k ∧ cp * sz ≤ bsize w b) ∨ (xs = [] ∧ cp = 0)) := by
    generalize a.eval s = cs at h1
    generalize hL : xs.length = L at h1
    cases h1 with
    | fz _ _ hf => cases hf
    | dref _ _ _ _ hd _ => rw [hk'] at hd; cases hd
    | ref0 _ _ _ _ _ bd _ _ => exact ⟨bd, 0, rfl, Nat.le_refl _, .inr ⟨List.eq_nil_of_length_eq_zero hL, rfl⟩⟩
    | ref _ _ _ sz' xs' st' b n cp hk'' hb hn hc hs' =>
      have h3 := hk''
      rw [hk'] at h3
      cases h3
      subst hL
      have hnx : n = xs.length := by
        cases hbk : β k with
        | nil => rw [hbk] at hb; simp at hb
        | cons q rr =>
          obtain ⟨b0, n0⟩ := q
          obtain ⟨e1, _, e3⟩ := g5 b0 n0 rr hbk
          rw [hbk] at hb
          simp at hb
          rcases hb with ⟨_, rfl⟩ | hb
          · exact e1
          · have := e3 b n hb; omega
      subst hnx
      exact ⟨_, cp, by rw [Nat.zero_mul], hc, .inl ⟨b, rfl, hb, by rwa [Nat.zero_add] at hs'⟩⟩
  obtain ⟨bd, cp, hcs, hcp, hdr⟩ := hdr
  have hop : ∀ {v w'}, (Builtin.append_ #[T, T] type #[a.eval s, a.eval x]).run P w = .ok v w' → (execOp a.eval ⟨dst, .call ⟨.builtin .append, #[s, x], #[T, T]⟩, type, pos, after, guard⟩).run P w = .ok (.value v) w' := fun hv => by
    simp [execOp, resolve, invoke, builtin, hv]
  rw [hlen]
  by_cases hnil : ys = []
  · -- nothing comes
    subst hnil
    rw [hop (by rw [hcs, hc]; exact run_append_zero hP hT hd he w type bd ad xs.length cp cap hcp)]
    have G := Goes.step (w' := w) HH k (.arr sz (xs ++ []) ⟨st', ne⟩) (β k) (Nat.le_refl _) (fun _ _ _ => rfl) rfl rfl rfl (fun b n hm => .inl ⟨n, hm⟩) (fun _ _ _ => rfl) (fun e he => by rw [hk'] at he; cases he; exact .inr ⟨⟨_, _, rfl, by simp⟩, fun _ n hm => ⟨n, Nat.le_refl _, hm⟩⟩)
      (fun E => ⟨g1, by simpa using g2, fun h => by rw [upd_same]; exact g3 (by simpa using h), fun i y hy => g4 i y (by simpa using hy), fun b n r hr => by
        rw [upd_same] at hr
        obtain ⟨q1, _, q3⟩ := g5 b n r hr
        exact ⟨by simpa using q1, fun h b' n' hm => by have := q3 b' n' hm; rw [hst h] at this; simp at this, by simpa using q3⟩, fs, fun i y j v hy hv => ⟨(g6.toV i y j v (by simpa using hy) hv).evo E, fun hn => (g6.toF (hsl hn) i y j v (by simpa using hy) hv).evo E.size E.fz⟩, fun i j hi hj => g7 i j (by simpa using hi) hj, fun b n hm => by rw [upd_same] at hm; exact g8 b n hm⟩)
    exact ⟨_, G, (hcs ▸ h1 : RepV w (Dom X β) h β (.ref k 0 xs.length) (.slice bd xs.length cp)).evo G.evo⟩
  · obtain ⟨b2, q, f, rfl, hS⟩ := hsrc hnil
    have hpos : 0 < ys.length := by cases ys with | nil => exact absurd rfl hnil | cons _ _ => simp
    obtain ⟨hf1, hf2⟩ := hS.flat g1
    have hbk : β k = [] ∨ ∃ b0 rr, β k = (b0, xs.length) :: rr := by
      cases hbk : β k with
      | nil => exact .inl rfl
      | cons q rr => obtain ⟨b0, n0⟩ := q; obtain ⟨q1, _⟩ := g5 b0 n0 rr hbk; exact .inr ⟨b0, rr, by rw [q1]⟩
    -- what the elements' cells hold
    let f' : Nat → Nat → Value := fun i j => if i < xs.length then fs i j else f (i - xs.length) j
    have hat : ∀ (i : Nat) y, (xs ++ ys)[i]? = some y → (i < xs.length ∧ xs[i]? = some y) ∨ (¬ i < xs.length ∧ ys[i - xs.length]? = some y) := fun i y hy => by
      by_cases hi : i < xs.length
      · rw [List.getElem?_append_left hi] at hy; exact .inl ⟨hi, hy⟩
      · rw [List.getElem?_append_right (by omega)] at hy; exact .inr ⟨hi, hy⟩
    have hwide : ∀ (i : Nat) (y : AV), (xs ++ ys)[i]? = some y → y.cells.length = sz := fun i y hy => by
      rcases hat i y hy with ⟨_, h⟩ | ⟨_, h⟩
      · exact g4 i y h
      · exact hS.wide _ y h
    have hone : ∀ i j, i < (xs ++ ys).length → j < sz → (f' i j).oneCell' = true := fun i j hi hj => by
      simp only [f']
      split
      · exact g7 i j ‹_› hj
      · exact hS.one _ _ (by rw [hlen] at hi; omega) hj
    have hrep : ∀ {w' : World} {D' : Nat → Prop} {h' : Heap} {β' : Map}, Evo w (Dom X β) h β w' D' h' β' → ContOK w' D' h' β' ne (xs ++ ys) f' := fun E i y j v hy hv => by
      simp only [f']
      rcases hat i y hy with ⟨hi, h⟩ | ⟨hi, h⟩
      · rw [if_pos hi]; exact ⟨(g6.toV i y j v h hv).evo E, fun hn => (g6.toF (hsl hn) i y j v h hv).evo E.size E.fz⟩
      · rw [if_neg hi]; exact ⟨(hS.rep.toV _ y j v h hv).evo E, fun hn => (hS.rep.toF hn _ y j v h hv).evo E.size E.fz⟩
    by_cases hroom : xs.length + ys.length ≤ cp
    · -- there is room
      rcases hdr with ⟨b, rfl, hm, hbs⟩ | ⟨hx0, hc0⟩
      case inr => omega
      obtain ⟨cur, el, c1, c2, c3⟩ := g8 b _ hm
      have hcb : cp * sz ≤ cur.size := by
        have : bsize w b = cur.size := by unfold bsize World.shape?; rw [c1]; rfl
        omega
      have hfit : (xs.length + ys.length) * sz ≤ cur.size := Nat.le_trans (Nat.mul_le_mul_right _ hroom) hcb
      have hrun := run_append_in hP hT hd he w type b 0 xs.length cp cur el c1 ⟨b2, q, none⟩ ys.length cap (flat f ys.length sz) (by rw [flat_length, hss]) hf1 hf2 hroom (by
        rw [flat_length, ← hss, Nat.zero_add, ← Nat.add_mul]; exact hfit)
      rw [hop (by rw [hcs, hc]; exact hrun)]
      generalize hcur' : (cur.toList.take (0 + xs.length * te.size) ++ flat f ys.length sz ++ cur.toList.drop (0 + xs.length * te.size + (flat f ys.length sz).length)).toArray = cur'
      have hsz' : cur'.size = cur.size := by
        rw [← hcur']
        simp only [List.size_toArray, List.length_append, List.length_take, List.length_drop, Array.length_toList, flat_length, Nat.zero_add, ← hss]
        rw [Nat.add_mul] at hfit
        omega
      have hcell : ∀ i j, i < xs.length + ys.length → j < sz → cur'[i * sz + j]? = some (f' i j) := fun i j hi hj => by
        rw [← hcur']
        simp only [f', List.getElem?_toArray, Nat.zero_add, ← hss]
        rw [Nat.add_mul] at hfit
        by_cases hix : i < xs.length
        · have hlt : i * sz + j < xs.length * sz := by
            have := Nat.mul_le_mul_right sz (show i + 1 ≤ xs.length by omega)
            rw [Nat.add_mul, Nat.one_mul] at this
            omega
          rw [if_pos hix, List.getElem?_append_left (by simp; omega), List.getElem?_append_left (by simp; omega), List.getElem?_take, if_pos hlt]
          simpa using c3 i j hix hj
        · have hge : xs.length * sz ≤ i * sz := Nat.mul_le_mul_right _ (by omega)
          have e4 : i * sz + j - xs.length * sz = (i - xs.length) * sz + j := by rw [Nat.sub_mul]; omega
          have hlt : (i - xs.length) * sz + j < ys.length * sz := by
            have := Nat.mul_le_mul_right sz (show (i - xs.length) + 1 ≤ ys.length by omega)
            rw [Nat.add_mul, Nat.one_mul] at this
            omega
          rw [if_neg hix, List.getElem?_append_left (by simp [flat_length]; omega), List.getElem?_append_right (by simp; omega)]
          have e5 : (List.take (xs.length * sz) cur.toList).length = xs.length * sz := by simp; omega
          rw [e5, e4]
          exact flat_at2 f (by omega) hj
      obtain ⟨b0, rr, hbk⟩ := hbk.resolve_left (fun h0 => by rw [h0] at hm; simp at hm)
      have hb0 : b0 = b := by
        rw [hbk] at hm
        simp at hm
        rcases hm with rfl | hm
        · rfl
        · have := (g5 b0 _ rr hbk).2.2 b _ hm; omega
      subst hb0
      have G := Goes.step (w' := w.setRow b0 cur') HH k (.arr sz (xs ++ ys) ⟨st', ne⟩) ((b0, xs.length + ys.length) :: rr) (by simp) (fun j hj hn => setRow_other w b0 j cur' (fun e => hn xs.length (by rw [hbk, e]; simp))) rfl rfl rfl
        (fun b n hm => by
          simp at hm
          rcases hm with ⟨rfl, _⟩ | hm
          · exact .inl ⟨xs.length, by rw [hbk]; simp⟩
          · exact .inl ⟨n, by rw [hbk]; simp [hm]⟩) (fun b n _ => bsize_setRow c1 hsz' b)
        (fun e he => by
          rw [hk'] at he; cases he
          refine .inr ⟨⟨_, _, rfl, by rw [hlen]; omega⟩, fun b n hm => ?_⟩
          rw [hbk] at hm
          simp at hm
          rcases hm with ⟨rfl, rfl⟩ | hm
          · exact ⟨xs.length + ys.length, by omega, by simp⟩
          · exact ⟨n, Nat.le_refl _, by simp [hm]⟩)
        (fun E => ⟨g1, by rw [hlen]; unfold maxN; omega, fun _ => by rw [upd_same]; simp, hwide, fun b n r hr => by
          rw [upd_same] at hr
          simp at hr
          obtain ⟨⟨rfl, rfl⟩, rfl⟩ := hr
          exact ⟨hlen.symm, fun h b' n' hm => by have := (g5 b0 _ rr hbk).2.2 b' n' hm; rw [hst h] at this; simp at this, fun b' n' hm => by have := (g5 b0 _ rr hbk).2.2 b' n' hm; rw [hlen]; omega⟩, f', hrep E, hone, fun b n hm => by
          rw [upd_same] at hm
          simp at hm
          by_cases hbb : b = b0
          · subst hbb
            have hnn : n ≤ xs.length + ys.length := by
              rcases hm with ⟨_, rfl⟩ | hm
              · omega
              · have := (g5 b _ rr hbk).2.2 b n hm; omega
            exact ⟨cur', el, setRow_heap w _ _ _ _ _ c1, by rw [hsz']; exact Nat.le_trans (Nat.mul_le_mul_right _ hnn) hfit, fun i j hi hj => hcell i j (by omega) hj⟩
          · have hm : (b, n) ∈ rr := by rcases hm with ⟨h, _⟩ | hm; · exact absurd h hbb
                                        · exact hm
            obtain ⟨c', el', d1, d2, d3⟩ := g8 b n (by rw [hbk]; simp [hm])
            have hnn := (g5 b0 _ rr hbk).2.2 b n hm
            exact ⟨c', el', (setRow_other w b0 b cur' hbb).trans d1, d2, fun i j hi hj => by simp only [f']; rw [if_pos (by omega)]; exact d3 i j hi hj⟩⟩)
      refine ⟨_, G, ?_⟩
      have := RepV.ref (w := w.setRow b0 cur') (D := Dom X (upd β k ((b0, xs.length + ys.length) :: rr))) (h := over [(k, .arr sz (xs ++ ys) ⟨st', ne⟩)] h) (β := upd β k ((b0, xs.length + ys.length) :: rr)) k 0 (xs.length + ys.length) sz (xs ++ ys) ⟨st', ne⟩ b0 (xs.length + ys.length) cp (over_same _ _ _)
        (by rw [upd_same]; simp) (by omega) hroom (by rw [bsize_setRow c1 hsz', Nat.zero_add]; exact hbs)
      rwa [Nat.zero_mul] at this
    · -- a new block
      have hbytes : (xs.length + ys.length) * i.bytes ≤ 140737488355328 := by
        have := Nat.mul_le_mul hn (show i.bytes ≤ 65536 by omega)
        omega
      have hge := grownCap_ge w (xs.length + ys.length) cp e
      have hzs : z.cells.size = te.zero.length := by rw [← e3]; simp
      -- the row that is laid
      have hgrow : ∃ olds : List Value, olds.length = xs.length * sz ∧ (∀ i j, i < xs.length → j < sz → olds[i * sz + j]? = some (fs i j)) ∧
          (Builtin.append_ #[T, T] type #[.slice bd xs.length cp, .slice (some ⟨b2, q, none⟩) ys.length cap]).run P w = .ok (.slice (some ⟨w.heap.size, 0, none⟩) (xs.length + ys.length) (grownCap w (xs.length + ys.length) cp e))
            (w.drew.alloc (.cells (olds.toArray ++ (flat f ys.length sz).toArray ++ Builtin.zeroCells z.cells (grownCap w (xs.length + ys.length) cp e - (xs.length + ys.length))) e)) := by
        rcases hdr with ⟨b, rfl, hm, _⟩ | ⟨rfl, rfl⟩
        · obtain ⟨cur, el, c1, c2, c3⟩ := g8 b _ hm
          have hS0 : Src w (Dom X β) h β ne xs sz b 0 fs := ⟨g4, fun i j hi hj => by rw [cell_of_heap c1, Nat.zero_add]; exact c3 i j hi hj, g7, fun i x j v hx hv => ⟨g6.toV i x j v hx hv, fun hn => g6.toF (hsl hn) i x j v hx hv⟩⟩
          obtain ⟨q1, _⟩ := hS0.flat g1
          exact ⟨flat fs xs.length sz, flat_length _ _ _, fun i j hi hj => flat_at2 fs hi hj, run_append_grow (P := P) w T type e i z hu hi hzz ⟨b, 0, none⟩ xs.length cp (flat fs xs.length sz) (by rw [flat_length, hss, e1]) q1 ⟨b2, q, none⟩ ys.length cap (flat f ys.length sz) (by rw [flat_length, hss, e1]) hf1 (by omega) (by omega) (growslice_fits (by omega) hbytes)⟩
        · refine ⟨[], by simp, fun i j hi _ => by simp at hi, ?_⟩
          cases bd with
          | none =>
            have := run_append_nil (P := P) w T type e i z hu hi hzz ⟨b2, q, none⟩ ys.length cap (flat f ys.length sz) (by rw [flat_length, hss, e1]) hf1 hpos (by omega) (by simp only [List.length_nil, Nat.zero_add] at hbytes; omega)
            simpa using this
          | some ad =>
            have := run_append_grow (P := P) w T type e i z hu hi hzz ad 0 0 [] (by simp) (by simp) ⟨b2, q, none⟩ ys.length cap (flat f ys.length sz) (by rw [flat_length, hss, e1]) hf1 (by omega) (by omega) (growslice_fits (by omega) (by simpa using hbytes))
            simpa using this
      obtain ⟨olds, ho1, ho2, hrun⟩ := hgrow
      rw [hop (by rw [hcs, hc]; exact hrun)]
      generalize hgc : grownCap w (xs.length + ys.length) cp e = gc at *
      generalize hcur' : olds.toArray ++ (flat f ys.length sz).toArray ++ Builtin.zeroCells z.cells (gc - (xs.length + ys.length)) = cur'
      have hsz' : cur'.size = gc * sz := by
        rw [← hcur']
        simp only [Array.size_append, List.size_toArray, flat_length, size_zeroCells, hzs, hz, ← hss, ho1, ← Nat.add_mul]
        congr 1
        omega
      have hcell : ∀ i j, i < xs.length + ys.length → j < sz → cur'[i * sz + j]? = some (f' i j) := fun i j hi hj => by
        have hlt : i * sz + j < (xs.length + ys.length) * sz := by
          have := Nat.mul_le_mul_right sz (show i + 1 ≤ xs.length + ys.length by omega)
          rw [Nat.add_mul, Nat.one_mul] at this
          omega
        rw [Nat.add_mul] at hlt
        rw [← hcur', Array.getElem?_append_left (by simp [flat_length, ho1]; omega)]
        simp only [f']
        by_cases hix : i < xs.length
        · have hlt : i * sz + j < xs.length * sz := by
            have := Nat.mul_le_mul_right sz (show i + 1 ≤ xs.length by omega)
            rw [Nat.add_mul, Nat.one_mul] at this
            omega
          rw [if_pos hix, Array.getElem?_append_left (by simp [ho1]; omega)]
          simpa using ho2 i j hix hj
        · have hge : xs.length * sz ≤ i * sz := Nat.mul_le_mul_right _ (by omega)
          have e4 : i * sz + j - xs.length * sz = (i - xs.length) * sz + j := by rw [Nat.sub_mul]; omega
          rw [if_neg hix, Array.getElem?_append_right (by simp [ho1]; omega)]
          simp only [List.size_toArray, ho1, e4, List.getElem?_toArray]
          exact flat_at2 f (by omega) hj
      have HD := HH.drew (w.drawn + 1)
      have dr : ∀ {w' : World} {D' : Nat → Prop} {h' : Heap} {β' : Map}, Evo w.drew (Dom X β) h β w' D' h' β' → Evo w (Dom X β) h β w' D' h' β' := fun E => ⟨E.size, E.fz, E.bs, E.key⟩
      have hgt := grownCap_ge w (xs.length + ys.length) cp e
      have hone' := hone
      have G := Goes.step (w := w.drew) (w' := w.drew.alloc (.cells cur' e)) HD k (.arr sz (xs ++ ys) ⟨st', ne⟩) ((w.heap.size, xs.length + ys.length) :: β k) (by simp) (fun j hj _ => heap_alloc_old w.drew _ j hj) rfl rfl rfl
        (fun b n hm => by
          simp at hm
          rcases hm with ⟨rfl, _⟩ | hm
          · exact .inr (by simp)
          · exact .inl ⟨n, hm⟩) (fun b n hm => by
          unfold bsize World.shape?
          rw [heap_alloc_old w.drew _ b (HH.lt b (.inr ⟨k, n, hm⟩))])
        (fun e he => by
          rw [hk'] at he; cases he
          exact .inr ⟨⟨_, _, rfl, by rw [hlen]; omega⟩, fun b n hm => ⟨n, Nat.le_refl _, by simp [hm]⟩⟩)
        (fun E => ⟨g1, by rw [hlen]; unfold maxN; omega, fun _ => by rw [upd_same]; simp, hwide, fun b n r hr => by
          rw [upd_same] at hr
          simp at hr
          obtain ⟨⟨rfl, rfl⟩, rfl⟩ := hr
          refine ⟨hlen.symm, fun h b' n' hm => ?_, fun b' n' hm => ?_⟩
          · have hx0 : xs.length = 0 := by rw [hst h]; rfl
            rcases hbk with h0 | ⟨b0, rr, h0⟩
            · rw [h0] at hm; simp at hm
            · rw [h0] at hm
              simp at hm
              rcases hm with ⟨_, rfl⟩ | hm
              · exact hx0
              · have := (g5 b0 _ rr h0).2.2 b' n' hm; omega
          rw [hlen]
          rcases hbk with h0 | ⟨b0, rr, h0⟩
          · rw [h0] at hm; simp at hm
          · rw [h0] at hm
            simp at hm
            rcases hm with ⟨_, rfl⟩ | hm
            · omega
            · have := (g5 b0 _ rr h0).2.2 b' n' hm; omega, f', hrep (w' := w.drew.alloc (.cells cur' e)) (dr E), hone', fun b n hm => by
          rw [upd_same] at hm
          simp at hm
          rcases hm with ⟨rfl, rfl⟩ | hm
          · exact ⟨cur', e, heap_alloc_new w.drew _, by rw [hsz']; exact Nat.mul_le_mul_right _ (by omega), fun i j hi hj => hcell i j hi hj⟩
          · obtain ⟨c', el', d1, d2, d3⟩ := g8 b n hm
            have hnn : n ≤ xs.length := by
              rcases hbk with h0 | ⟨b0, rr, h0⟩
              · rw [h0] at hm; simp at hm
              · rw [h0] at hm
                simp at hm
                rcases hm with ⟨_, rfl⟩ | hm
                · omega
                · exact Nat.le_of_lt ((g5 b0 _ rr h0).2.2 b n hm)
            exact ⟨c', el', (heap_alloc_old w.drew _ b (HH.lt b (.inr ⟨k, n, hm⟩))).trans d1, d2, fun i j hi hj => by simp only [f']; rw [if_pos (by omega)]; exact d3 i j hi hj⟩⟩)
      refine ⟨_, Goes.trans HH (Goes.drew HH (w.drawn + 1)) G, ?_⟩
      have := RepV.ref (w := w.drew.alloc (.cells cur' e)) (D := Dom X (upd β k ((w.heap.size, xs.length + ys.length) :: β k))) (h := over [(k, .arr sz (xs ++ ys) ⟨st', ne⟩)] h) (β := upd β k ((w.heap.size, xs.length + ys.length) :: β k)) k 0 (xs.length + ys.length) sz (xs ++ ys) ⟨st', ne⟩ w.heap.size (xs.length + ys.length) gc (over_same _ _ _)
        (by rw [upd_same]; simp) (by omega) (by omega) (by
          have : bsize (w.drew.alloc (.cells cur' e)) w.heap.size = cur'.size := by
            unfold bsize World.shape?
            rw [show (w.drew.alloc (.cells cur' e)).heap[w.heap.size]? = _ from heap_alloc_new w.drew _]
            rfl
          rw [this, hsz', Nat.zero_add]; exact Nat.le_refl _)
      rwa [Nat.zero_mul] at this
theorem stp_append_ref (hP : TOK P TT) {T e : Nat} {s x : Operand} {ti te : TI} {k sz : Nat} {xs : List AV} {sb : Bool} {xv : AV} {ys : List AV} (hs : opv (look st.tm) s = .ref k 0 xs.length) (hk : lookE st.h k = some (.arr sz xs ⟨sb, false⟩)) (hx : opv (look st.tm) x = xv) (hT : TT[T]? = some ti) (hd : ti.d = .slice e) (he : TT[e]? = some te)
    (hys : els (lookE st.h) xv = some ys) (hsz : ∀ y, ys[0]? = some y → y.cells.length = sz) (hss : Nat.beq sz te.size = true) (hb : Nat.ble te.bytes 65536 = true) (hz : Nat.beq te.zero.length te.size = true) (hn : xs.length + ys.length ≤ 1073741824) :
    Stp P st (.call ⟨.builtin .append, #[s, x], #[T, T]⟩) (.ref k 0 (xs ++ ys).length) [(k, .arr sz (xs ++ ys) true)] (k :: elk xv) [] :=
  stp_append_refS true false hP hs hk hx hT hd he (fun _ => rfl) hys hsz hss hb hz hn (fun h => by cases h)
/-- The same where keys are in the elements. -/
theorem stp_append_refN (hP : TOK P TT) {T e : Nat} {s x : Operand} {ti te : TI} {k sz : Nat} {xs : List AV} {sl : Fl} {xv : AV} {ys : List AV} (hs : opv (look st.tm) s = .ref k 0 xs.length) (hk : lookE st.h k = some (.arr sz xs sl)) (hx : opv (look st.tm) x = xv) (hT : TT[T]? = some ti) (hd : ti.d = .slice e) (he : TT[e]? = some te)
    (hys : elsG true (lookE st.h) xv = some ys) (hsz : ∀ y, ys[0]? = some y → y.cells.length = sz) (hss : Nat.beq sz te.size = true) (hb : Nat.ble te.bytes 65536 = true) (hz : Nat.beq te.zero.length te.size = true) (hn : xs.length + ys.length ≤ 1073741824) :
    Stp P st (.call ⟨.builtin .append, #[s, x], #[T, T]⟩) (.ref k 0 (xs ++ ys).length) [(k, .arr sz (xs ++ ys) ⟨true, true⟩)] (k :: elk xv) [] :=
  stp_append_refS true true hP hs hk hx hT hd he (fun h => by cases h) hys hsz hss hb hz hn (fun h => by cases h)
end ops
end Av
end Go.Proofs.Ytianonghhmiooaa
/- Abstract values: structs, arrays and slices that are built; least and greatest; nil. -/
namespace Go.Proofs.Ytianonghhmiooaa
namespace Av
set_option linter.unusedSimpArgs false
set_option linter.unusedVariables false

/-- Parts put into cells. -/
def fillA (places : Nat → Option (Nat × Nat)) : List AV → List (Nat × AV) → Option (List AV)
  | cells, [] => some cells
  | cells, (i, v) :: rest => match places i with
    | none => none
    | some (off, size) => bif Nat.beq v.cells.length size && (Nat.ble (off + size) cells.length && v.ok) then fillA places (setL cells off v.cells) rest else none
theorem fill_rep {w : World} {D : Nat → Prop} {h : Heap} {β : Map} (places : Nat → Option (Nat × Nat)) : ∀ (parts : List (Nat × AV)) (parts' : List (Nat × Value)) (cs : List AV) (c : Array Value) (cs' : List AV), fillA places cs parts = some cs' →
    parts'.length = parts.length → (∀ (j : Nat) p p', parts[j]? = some p → parts'[j]? = some p' → p'.1 = p.1 ∧ RepV w D h β p.2 p'.2) →
    c.size = cs.length → (∀ i, i < c.size → (c.getD i undef).oneCell' = true) → (∀ (i : Nat) u, cs[i]? = some u → RepV w D h β u (c.getD i undef)) →
    ∃ c', Instr.fill places c parts' = some c' ∧ c'.size = cs'.length ∧ (∀ i, i < c'.size → (c'.getD i undef).oneCell' = true) ∧ ∀ (i : Nat) u, cs'[i]? = some u → RepV w D h β u (c'.getD i undef)
  | [], parts', cs, c, cs', hf, hl, _, h1, h2, h3 => by
    obtain rfl : parts' = [] := List.eq_nil_of_length_eq_zero (by simpa using hl)
    cases hf
    exact ⟨c, rfl, h1, h2, h3⟩
  | (i, v) :: rest, parts', cs, c, cs', hf, hl, hp, h1, h2, h3 => by
    cases parts' with
    | nil => simp at hl
    | cons p' rest' =>
      obtain ⟨e1, e2⟩ := hp 0 (i, v) p' rfl rfl
      obtain ⟨i', v'⟩ := p'
      dsimp only at e1 e2
      subst e1
      unfold fillA at hf
      cases hpl : places i' with
      | none => simp [hpl] at hf
      | some q =>
        obtain ⟨off, size⟩ := q
        simp only [hpl] at hf
        cases hc : Nat.beq v.cells.length size && (Nat.ble (off + size) cs.length && v.ok) with
        | false => simp [hc] at hf
        | true =>
          simp only [hc, cond_true] at hf
          simp only [Bool.and_eq_true] at hc
          have q1 := Nat.eq_of_beq_eq_true hc.1
          have q2 := Nat.le_of_ble_eq_true hc.2.1
          obtain ⟨r1, r2, r3⟩ := e2.cells hc.2.2
          obtain ⟨s1, s2⟩ := Great.foldl_set off v'.cells.toList 0 c
          have hfold : v'.cells.zipIdx.foldl (fun cs (x : Value × Nat) => cs.setIfInBounds (off + x.2) x.1) c = (v'.cells.toList.zipIdx 0).foldl (fun cs (x : Value × Nat) => cs.setIfInBounds (off + x.2) x.1) c := by
            rw [← Array.foldl_toList, Array.toList_zipIdx]
          generalize hc2 : (v'.cells.toList.zipIdx 0).foldl (fun cs (x : Value × Nat) => cs.setIfInBounds (off + x.2) x.1) c = c2 at *
          have hat : ∀ k, c2.getD k undef = if off ≤ k ∧ k < off + size then v'.cells.getD (k - off) undef else c.getD k undef := fun k => by
            have hk := s2 k
            simp only [Nat.add_zero, Array.length_toList] at hk
            by_cases hin : off ≤ k ∧ k < off + size
            · rw [if_pos hin]
              rw [if_pos (by omega)] at hk
              apply getD_of
              rw [hk]
              have := getD_eq v'.cells (k - off) (by omega)
              simpa using this
            · rw [if_neg hin]
              rw [if_neg (by omega)] at hk
              simp [Array.getD_eq_getD_getElem?, hk]
          obtain ⟨c', t1, t2, t3, t4⟩ := fill_rep places rest rest' (setL cs off v.cells) c2 cs' hf (by simpa using hl) (fun j p p' hj hj' => hp (j + 1) p p' (by simpa using hj) (by simpa using hj'))
            (by rw [s1, setL_length]; exact h1) (fun k hk => by
              rw [hat]
              split
              · exact r2 _ (by omega)
              · exact h2 k (by omega)) (fun k u hu => by
              rw [setL_at _ _ _ _ (by omega), q1] at hu
              rw [hat]
              split
              · rename_i hin
                rw [if_pos hin] at hu
                exact r3 _ u hu
              · rename_i hin
                rw [if_neg hin] at hu
                exact h3 k u hu)
          refine ⟨c', ?_, t2, t3, t4⟩
          unfold Instr.fill
          simp only [hpl]
          rw [if_neg (by simp; omega), hfold]
          exact t1

/-- The places of a struct's fields. -/
def plOf (TT : List TI) : List (Nat × Nat) → Option (List (Nat × Nat))
  | [] => some []
  | (o, t) :: r => match TT[t]?, plOf TT r with
    | some ti, some l => some ((o, ti.size) :: l)
    | _, _ => none
theorem plOf_run {P : Program} {TT : List TI} (hP : TOK P TT) : ∀ (fs : List Field) (l : List (Nat × Nat)), plOf TT (fs.map fun f => (f.offset, f.type)) = some l → fs.mapM (fun f => (P.info? f.type).map fun i => (f.offset, i.size)) = some l
  | [], l, h => by simp [plOf] at h; simp [h]
  | f :: fs, l, h => by
    simp only [List.map_cons, plOf] at h
    cases ht : TT[f.type]? with
    | none => simp [ht] at h
    | some ti =>
      cases hr : plOf TT (fs.map fun f => (f.offset, f.type)) with
      | none => simp [ht, hr] at h
      | some l' =>
        simp [ht, hr] at h
        subst h
        obtain ⟨i, _, _, hi, _, _, _, hs, _⟩ := tiOf_some (hP _ _ ht)
        simp [List.mapM_cons, hi, plOf_run hP fs l' hr, hs]

section ops
variable {P : Program} {TT : List TI} {st : St}
def prts (st : St) (ps : Array (Nat × Operand)) : List (Nat × AV) := ps.toList.map fun p => (p.1, opv (look st.tm) p.2)
theorem prts_rep {w : World} {D : Nat → Prop} {h : Heap} {β : Map} {op : Op} {tm : Nat → AV} {a : Act} (H : ∀ t, RepV w D h β (tm t) (a.eval (.tmp t))) (hg : ∀ t, t ∈ tmpsOf op → tm t = look st.tm t) {ps : Array (Nat × Operand)} (hps : ∀ p ∈ ps.toList, p.2 ∈ op.operands)
    (j : Nat) (p : Nat × AV) (p' : Nat × Value) (h1 : (prts st ps)[j]? = some p) (h2 : (ps.map fun x => (x.1, a.eval x.2)).toList[j]? = some p') : p'.1 = p.1 ∧ RepV w D h β p.2 p'.2 := by
  simp only [prts, List.getElem?_map, Option.map_eq_some_iff] at h1
  obtain ⟨q, hq, rfl⟩ := h1
  simp only [Array.toList_map, List.getElem?_map, hq, Option.map_some, Option.some.injEq] at h2
  subst h2
  exact ⟨rfl, arg H hg (hps q (List.mem_of_getElem? hq)) rfl⟩
theorem zero_rep {w : World} {D : Nat → Prop} {h : Heap} {β : Map} (z : Value) (zs : List Value) (hz : z.cells.toList = zs) (h1 : zs.all (·.oneCell') = true) :
    z.cells.size = (zs.map AV.s).length ∧ (∀ i, i < z.cells.size → (z.cells.getD i undef).oneCell' = true) ∧ ∀ (i : Nat) u, (zs.map AV.s)[i]? = some u → RepV w D h β u (z.cells.getD i undef) := by
  subst hz
  refine ⟨by simp, fun i hi => List.all_eq_true.1 h1 _ (List.mem_of_getElem? (by simpa using getD_eq _ i hi)), fun i u hu => ?_⟩
  simp only [List.getElem?_map, Option.map_eq_some_iff] at hu
  obtain ⟨v, hv, rfl⟩ := hu
  rw [getD_of (by simpa using hv)]
  exact .fz _ _ (.s _)
theorem stp_build (hP : TOK P TT) {T : Nat} {ps : Array (Nat × Operand)} {ti : TI} {fs pl : List (Nat × Nat)} {cs : List AV} (hT : TT[T]? = some ti) (hd : ti.d = .str fs) (h1 : ti.zero.all (·.oneCell') = true) (hpl : plOf TT fs = some pl)
    (hf : fillA (pl[·]?) (ti.zero.map .s) (prts st ps) = some cs) : Stp P st (.build T ps) (.agg cs) [] [] [] :=
  stp_val fun oo X tm h w β a ho hg hr HH Ht => by
    obtain ⟨dst, op', type, pos, after, guard⟩ := oo
    dsimp only at ho; subst ho
    obtain ⟨i, u, z, hi, hu, hz, hd', _, _, hzz⟩ := tiOf_some (hP _ _ hT)
    obtain ⟨fields, rfl, hm⟩ := td_str (hd'.symm.trans hd)
    have hpl' := plOf_run hP fields.toList pl (by rw [hm]; exact hpl)
    obtain ⟨z1, z2, z3⟩ := zero_rep (w := w) (D := Dom X β) (h := h) (β := β) z ti.zero hzz.symm h1
    obtain ⟨c', f1, f2, f3, f4⟩ := fill_rep (w := w) (D := Dom X β) (h := h) (β := β) (pl[·]?) (prts st ps) (ps.map fun x => (x.1, a.eval x.2)).toList _ _ cs hf (by simp [prts]) (prts_rep (op := .build T ps) Ht hg fun p hp => by
      simp only [Op.operands, List.mem_toArray]
      exact List.mem_map.2 ⟨p, hp, rfl⟩) z1 z2 z3
    have hb : P.built T (ps.map fun x => (x.1, a.eval x.2)).toList = some c' := by
      simp only [Program.built, hi, hu, hz, hpl']
      simpa using f1
    exact ⟨_, by simp only [execOp, Sem.run_bind, run_build w T _ c' hb, Result.andThen_ok, Sem.run_pure], .agg _ _ f2 f3 f4⟩
theorem stp_build_arr (hP : TOK P TT) {T n e : Nat} {ps : Array (Nat × Operand)} {ti te : TI} {cs : List AV} (hT : TT[T]? = some ti) (hd : ti.d = .arr n e) (he : TT[e]? = some te) (h1 : ti.zero.all (·.oneCell') = true)
    (hf : fillA (fun i => some (i * te.size, te.size)) (ti.zero.map .s) (prts st ps) = some cs) : Stp P st (.build T ps) (.agg cs) [] [] [] :=
  stp_val fun oo X tm h w β a ho hg hr HH Ht => by
    obtain ⟨dst, op', type, pos, after, guard⟩ := oo
    dsimp only at ho; subst ho
    obtain ⟨i, u, z, hi, hu, hz, hd', _, _, hzz⟩ := tiOf_some (hP _ _ hT)
    obtain rfl := td_arr (hd'.symm.trans hd)
    obtain ⟨ie, _, _, hie, _, _, _, hse, _, _⟩ := tiOf_some (hP _ _ he)
    obtain ⟨z1, z2, z3⟩ := zero_rep (w := w) (D := Dom X β) (h := h) (β := β) z ti.zero hzz.symm h1
    obtain ⟨c', f1, f2, f3, f4⟩ := fill_rep (w := w) (D := Dom X β) (h := h) (β := β) (fun i => some (i * te.size, te.size)) (prts st ps) (ps.map fun x => (x.1, a.eval x.2)).toList _ _ cs hf (by simp [prts]) (prts_rep (op := .build T ps) Ht hg fun p hp => by
      simp only [Op.operands, List.mem_toArray]
      exact List.mem_map.2 ⟨p, hp, rfl⟩) z1 z2 z3
    have hb : P.built T (ps.map fun x => (x.1, a.eval x.2)).toList = some c' := by
      simp only [Program.built, hi, hu, hz, hie, ← hse]
      exact f1
    exact ⟨_, by simp only [execOp, Sem.run_bind, run_build w T _ c' hb, Result.andThen_ok, Sem.run_pure], .agg _ _ f2 f3 f4⟩

/-- A slice of all its elements: what the block holds. -/
theorem bsl_core (ne : Bool) (hP : TOK P TT) {T e len : Nat} {ps : Array (Nat × Operand)} {ti te : TI} {xs : List AV} (hT : TT[T]? = some ti) (hd : ti.d = .slice e) (he : TT[e]? = some te) (hp : Nat.ble 1 te.size = true) (hps : prts st ps = (xs.zipIdx 0).map fun x => (x.2, x.1)) (hl : Nat.beq xs.length len = true)
    (hw : xs.all (fun x => Nat.beq x.cells.length te.size && (x.ok && (ne || x.nokey))) = true) (hb : Nat.ble (len * te.size) 65536 = true) (hzl : Nat.beq te.zero.length te.size = true) :
    ∀ (o : Oper) (X : Nat → Prop) (tm : Nat → AV) (h : Heap) (w : World) (β : Map) (a : Act), o.op = .buildSlice T len ps → (∀ t, t ∈ tmpsOf (.buildSlice T len ps) → tm t = look st.tm t) → (∀ t, RepV w (Dom X β) h β (tm t) (a.eval (.tmp t))) →
      ∃ (C : Array Value) (f : Nat → Nat → Value), (execOp a.eval o).run P w = .ok (.value (.slice (some ⟨w.heap.size, 0, none⟩) xs.length xs.length)) (w.alloc (.cells C e)) ∧ C.size = xs.length * te.size ∧ xs.length ≤ maxN ∧ xs.length = len ∧
        (∀ (i : Nat) (x : AV), xs[i]? = some x → x.cells.length = te.size) ∧ (∀ i j, i < xs.length → j < te.size → C[i * te.size + j]? = some (f i j)) ∧ (∀ i j, i < xs.length → j < te.size → (f i j).oneCell' = true) ∧
        ContOK w (Dom X β) h β ne xs f := by
  intro o X tm h w β a ho hg Ht
  obtain ⟨dst, op', type, pos, after, guard⟩ := o
  dsimp only at ho; subst ho
  have hp := Nat.le_of_ble_eq_true hp
  have hl := Nat.eq_of_beq_eq_true hl
  have hb := Nat.le_of_ble_eq_true hb
  have hzl := Nat.eq_of_beq_eq_true hzl
  subst hl
  obtain ⟨i, z, hu, hi, hz, e1, e2, e3⟩ := slice_facts hP hT hd he
  have hxs : ∀ (j : Nat) (x : AV), xs[j]? = some x → x.cells.length = te.size ∧ x.ok = true ∧ (ne || x.nokey) = true := fun j x hx => by
    have := List.all_eq_true.1 hw x (List.mem_of_getElem? hx)
    simp only [Bool.and_eq_true] at this
    exact ⟨Nat.eq_of_beq_eq_true this.1, this.2⟩
  -- the concrete parts
  have hlen : ps.toList.length = xs.length := by
    have := congrArg List.length hps
    simpa [prts] using this
  let vs : List Value := ps.toList.map fun p => a.eval p.2
  have hvl : vs.length = xs.length := by simp [vs]; simpa using hlen
  have hpx : ∀ (j : Nat) (x : AV), xs[j]? = some x → ∃ p, ps.toList[j]? = some p ∧ p.1 = j ∧ opv (look st.tm) p.2 = x := fun j x hx => by
    have hj := congrArg (·[j]?) hps
    simp only [prts, List.getElem?_map, List.getElem?_zipIdx, hx, Option.map_some, Nat.zero_add] at hj
    cases hpj : ps.toList[j]? with
    | none => simp [hpj] at hj
    | some p =>
      simp only [hpj, Option.map_some, Option.some.injEq, Prod.mk.injEq] at hj
      exact ⟨p, rfl, hj.1, hj.2⟩
  have hvs : ∀ (j : Nat) (x : AV), xs[j]? = some x → ∃ v, vs[j]? = some v ∧ RepV w (Dom X β) h β x v := fun j x hx => by
    obtain ⟨p, hp1, _, hp3⟩ := hpx j x hx
    refine ⟨a.eval p.2, by simp only [vs, List.getElem?_map, hp1, Option.map_some], arg (op := .buildSlice T xs.length ps) Ht hg ?_ hp3⟩
    simp only [Op.operands, List.mem_toArray]
    exact List.mem_map.2 ⟨p, List.mem_of_getElem? hp1, rfl⟩
  have hpe : (ps.map fun x => (x.1, a.eval x.2)).toList = (vs.zipIdx 0).map fun x => (x.2, x.1) := by
    apply List.ext_getElem?
    intro j
    simp only [Array.toList_map, List.getElem?_map, List.getElem?_zipIdx, vs, Nat.zero_add]
    by_cases hj : j < xs.length
    · obtain ⟨p, hp1, hp2, _⟩ := hpx j xs[j] (by simp [hj])
      simp [hp1, hp2]
    · have : ps.toList[j]? = none := List.getElem?_eq_none (by omega)
      simp [this]
  have hvc : ∀ v ∈ vs, v.cells.size = te.size := fun v hv => by
    obtain ⟨j, hj⟩ := List.getElem?_of_mem hv
    have hjx : j < xs.length := by rw [← hvl]; exact (List.getElem?_eq_some_iff.1 hj).1
    obtain ⟨v', h1, h2⟩ := hvs j xs[j] (by simp [hjx])
    rw [hj] at h1
    cases h1
    obtain ⟨q1, q2, _⟩ := hxs j xs[j] (by simp [hjx])
    rw [(h2.cells q2).1, q1]
  have hzs : z.cells.size = te.size := by rw [← hzl, ← e3]; simp
  have hfill := Great.fill_whole (s := te.size) (by omega) vs ((Array.range (xs.length * te.size)).map (z.cells[· % z.cells.size]!)) hvc (by simp [hvl])
  have hflat := Great.flat_get (s := te.size) (by omega) vs hvc
  generalize hC : (vs.flatMap fun v => v.cells.toList).toArray = C at hfill
  have hCs : C.size = xs.length * te.size := by
    rw [← hC]
    have : ∀ l : List Value, (∀ v ∈ l, v.cells.size = te.size) → (l.flatMap fun v => v.cells.toList).length = l.length * te.size := by
      intro l
      induction l with
      | nil => simp
      | cons v l ih =>
        intro hv
        rw [List.flatMap_cons, List.length_append, ih fun u hu => hv u (by simp [hu])]
        have := hv v (by simp)
        simp only [Array.length_toList, this, List.length_cons, Nat.add_mul, Nat.one_mul]
        omega
    simpa [hvl] using this vs hvc
  have hrun : (execOp a.eval ⟨dst, .buildSlice T xs.length ps, type, pos, after, guard⟩).run P w = .ok (.value (.slice (some ⟨w.heap.size, 0, none⟩) xs.length xs.length)) (w.alloc (.cells C e)) := by
    have h24 : ¬ xs.length * te.size > 2 ^ 24 := by omega
    have hs := run_size (hP _ _ he) w
    simp only [execOp, Instr.buildSlice, Sem.run_bind, under_of w hu, Result.andThen_ok, hs]
    by_cases h0 : xs.length * te.size = 0
    · have hx0 : xs = [] := by
        rcases Nat.mul_eq_zero.1 h0 with h | h
        · exact List.eq_nil_of_length_eq_zero h
        · omega
      subst hx0
      have hps0 : ps = #[] := by
        have : ps.toList.length = 0 := by simpa using hlen
        exact Array.eq_empty_of_size_eq_zero (by simpa using this)
      subst hps0
      have hC0 : C = #[] := by simpa using hCs
      subst hC0
      simp [Instr.fill, newRow, Array.range_zero']
    · have hpe' : (ps.map fun x => (x.1, a.eval x.2)).toList = (vs.zipIdx 0).map fun x => (x.2, x.1) := hpe
      simp only [if_neg h24, Sem.run_pure, Result.andThen_ok, if_neg h0, Sem.run_bind, zeroValue, typeInfo, run_program, hi, hz, hpe']
      rw [hfill]
      simp [newRow]
  have hcells : ∀ (j : Nat) (x : AV), xs[j]? = some x → ∃ v, vs[j]? = some v ∧ v.cells.size = te.size ∧ (∀ q, q < te.size → C[j * te.size + q]? = some (v.cells.getD q undef)) ∧ (∀ q, q < te.size → (v.cells.getD q undef).oneCell' = true) ∧
      ∀ (q : Nat) u, x.cells[q]? = some u → RepV w (Dom X β) h β u (v.cells.getD q undef) ∧ (ne = false → RepF w (Dom X β) u (v.cells.getD q undef)) := fun j x hx => by
    obtain ⟨v, h1, h2⟩ := hvs j x hx
    obtain ⟨q1, q2, q3⟩ := hxs j x hx
    obtain ⟨r1, r2, r3⟩ := h2.cells q2
    refine ⟨v, h1, by omega, fun q hq => ?_, fun q hq => r2 q (by omega), fun q u hu => ⟨r3 q u hu, fun hn => (r3 q u hu).toF ?_⟩⟩
    · have hd' : (j * te.size + q) / te.size = j := Nat.div_eq_of_lt_le (by omega) (by rw [Nat.add_mul, Nat.one_mul]; omega)
      have hm' : (j * te.size + q) % te.size = q := by rw [Nat.mul_comm, Nat.mul_add_mod]; exact Nat.mod_eq_of_lt hq
      have := hflat (j * te.size + q)
      rw [hd', hm', h1] at this
      rw [← hC]
      simp only [List.getElem?_toArray, this, Option.bind_some]
      exact getD_eq _ _ (by omega)
    · rw [hn, Bool.false_or] at q3
      cases x <;> first
        | (simp [AV.cells] at hu; cases q <;> simp at hu; subst hu; exact q3)
        | (exact nokeys_at (by simpa [AV.nokey, AV.cells] using q3) hu)
  refine ⟨C, fun j q => (vs.getD j undef).cells.getD q undef, hrun, hCs, ?_, rfl, fun j x hx => (hxs j x hx).1, ?_, ?_, ?_⟩
  · have : xs.length * 1 ≤ xs.length * te.size := Nat.mul_le_mul_left _ hp
    unfold maxN; omega
  · intro j q hj hq
    obtain ⟨v, h1, _, h3, _⟩ := hcells j xs[j] (by simp [hj])
    have : vs.getD j undef = v := by simp [List.getD, h1]
    dsimp only; rw [this]; exact h3 q hq
  · intro j q hj hq
    obtain ⟨v, h1, _, _, h4, _⟩ := hcells j xs[j] (by simp [hj])
    have : vs.getD j undef = v := by simp [List.getD, h1]
    dsimp only; rw [this]; exact h4 q hq
  · intro j x q u hx hu
    obtain ⟨v, h1, _, _, _, h5⟩ := hcells j x hx
    have : vs.getD j undef = v := by simp [List.getD, h1]
    dsimp only; rw [this]; exact h5 q u hu

/-- A slice of all its elements. -/
theorem stp_buildSlice (hP : TOK P TT) {T e len : Nat} {ps : Array (Nat × Operand)} {ti te : TI} {xs : List AV} (k : Nat) (hT : TT[T]? = some ti) (hd : ti.d = .slice e) (he : TT[e]? = some te) (hp : Nat.ble 1 te.size = true) (hps : prts st ps = (xs.zipIdx 0).map fun x => (x.2, x.1)) (hl : Nat.beq xs.length len = true)
    (hw : xs.all (fun x => Nat.beq x.cells.length te.size && (x.ok && x.nokey)) = true) (hb : Nat.ble (len * te.size) 65536 = true) (hzl : Nat.beq te.zero.length te.size = true) :
    Stp P st (.buildSlice T len ps) (.ref k 0 len) [(k, .arr te.size xs false)] [] [k] := by
  refine ⟨?_⟩
  intro X tm h hg _ hn o a w β ho HH Ht
  obtain ⟨C, f, hrun, hCs, hmx, hl', q1, q2, q3, q4⟩ := bsl_core false hP hT hd he hp hps hl hw hb hzl o X tm h w β a ho hg Ht
  rw [hrun]
  subst hl'
  obtain ⟨β', G, hv⟩ := Goes.newArr HH (hn k (by simp)) C e te.size xs xs.length f (Nat.le_of_ble_eq_true hp) hmx (Nat.le_refl _) (by rw [hCs]; exact Nat.le_refl _) q1 q2 q3 (q4.toF rfl)
  exact ⟨β', G, hv⟩
/-- A slice of all its elements, in which keys may be. -/
theorem stp_buildSliceN (hP : TOK P TT) {T e len : Nat} {ps : Array (Nat × Operand)} {ti te : TI} {xs : List AV} (k : Nat) (hT : TT[T]? = some ti) (hd : ti.d = .slice e) (he : TT[e]? = some te) (hp : Nat.ble 1 te.size = true) (hps : prts st ps = (xs.zipIdx 0).map fun x => (x.2, x.1)) (hl : Nat.beq xs.length len = true)
    (hw : xs.all (fun x => Nat.beq x.cells.length te.size && x.ok) = true) (hb : Nat.ble (len * te.size) 65536 = true) (hzl : Nat.beq te.zero.length te.size = true) :
    Stp P st (.buildSlice T len ps) (.ref k 0 len) [(k, .arr te.size xs ⟨false, true⟩)] [] [k] := by
  refine ⟨?_⟩
  intro X tm h hg _ hn o a w β ho HH Ht
  obtain ⟨C, f, hrun, hCs, hmx, hl', q1, q2, q3, q4⟩ := bsl_core true hP hT hd he hp hps hl (by simpa using hw) hb hzl o X tm h w β a ho hg Ht
  rw [hrun]
  subst hl'
  obtain ⟨β', G, hv⟩ := Goes.newArrN HH (hn k (by simp)) C e te.size xs xs.length f (Nat.le_of_ble_eq_true hp) hmx (Nat.le_refl _) (by rw [hCs]; exact Nat.le_refl _) q1 q2 q3 (q4.toV)
  exact ⟨β', G, hv⟩
/-- A slice of all its elements, which no one changes any more. -/
theorem stp_buildSliceF (hP : TOK P TT) {T e len : Nat} {ps : Array (Nat × Operand)} {ti te : TI} {xs : List AV} (hT : TT[T]? = some ti) (hd : ti.d = .slice e) (he : TT[e]? = some te) (hp : Nat.ble 1 te.size = true) (hps : prts st ps = (xs.zipIdx 0).map fun x => (x.2, x.1)) (hl : Nat.beq xs.length len = true)
    (hw : xs.all (fun x => Nat.beq x.cells.length te.size && (x.ok && x.nokey)) = true) (hb : Nat.ble (len * te.size) 65536 = true) (hzl : Nat.beq te.zero.length te.size = true) :
    Stp P st (.buildSlice T len ps) (.sl true xs) [] [] [] := by
  refine ⟨?_⟩
  intro X tm h hg _ hn o a w β ho HH Ht
  obtain ⟨C, f, hrun, hCs, hmx, hl', q1, q2, q3, q4⟩ := bsl_core false hP hT hd he hp hps hl hw hb hzl o X tm h w β a ho hg Ht
  rw [hrun]
  rw [over_nil]
  exact ⟨β, Goes.newFz HH C e, .fz _ _ (RepF.newArr HH C e te.size xs xs.length f (Nat.le_of_ble_eq_true hp) hmx (Nat.le_refl _) q1 q2 q3 (q4.toF rfl))⟩

/-- The zero of a type. -/
def zeroA (ti : TI) : AV := bif ti.d.agg then .agg (ti.zero.map .s) else match ti.zero with
  | [v] => .s v
  | _ => .bot
theorem stp_makeSlice (hP : TOK P TT) {T e n : Nat} {x y : Operand} {ti te : TI} {kx ky : IntKind} {nx ny : Int} (k : Nat) (hx : opv (look st.tm) x = .s (.int kx nx)) (hy : opv (look st.tm) y = .s (.int ky ny)) (hT : TT[T]? = some ti) (hd : ti.d = .slice e) (he : TT[e]? = some te)
    (hnx : nx = (n : Int)) (hny : nx ≤ ny) (hmax : ny ≤ 1073741824) (hb : Nat.ble te.bytes 65536 = true) (hp : Nat.ble 1 te.size = true) (hzl : Nat.beq te.zero.length te.size = true) (hz1 : te.zero.all (·.oneCell') = true) (hzc : Nat.beq (zeroA te).cells.length te.size = true) (hzc2 : (zeroA te).cells = te.zero.map .s) :
    Stp P st (.makeSlice T x y) (.ref k 0 n) [(k, .arr te.size (List.replicate n (zeroA te)) false)] [] [k] := by
  refine ⟨?_⟩
  intro X tm h hg _ hn o a w β ho HH Ht
  obtain ⟨dst, op', type, pos, after, guard⟩ := o
  dsimp only at ho; subst ho
  have h1 := arg_s Ht hg (x := x) (by simp [Op.operands]) hx
  have h2 := arg_s Ht hg (x := y) (by simp [Op.operands]) hy
  have hp := Nat.le_of_ble_eq_true hp
  have hb := Nat.le_of_ble_eq_true hb
  have hzl := Nat.eq_of_beq_eq_true hzl
  have hzc := Nat.eq_of_beq_eq_true hzc
  subst hnx
  obtain ⟨i, z, hu, hi, hz, e1, e2, e3⟩ := slice_facts hP hT hd he
  have hbytes : (i.bytes : Int) * ny ≤ 281474976710656 := by
    obtain ⟨m, rfl⟩ := Int.eq_ofNat_of_zero_le (show 0 ≤ ny by omega)
    have : i.bytes * m ≤ 65536 * 1073741824 := Nat.mul_le_mul (by omega) (by omega)
    have h3 : (i.bytes : Int) * (m : Int) = ((i.bytes * m : Nat) : Int) := by simp
    rw [h3]
    omega
  have hrun := run_make (P := P) w T e i z hu hi hz kx ky (n : Int) ny (by omega) hny hbytes (by omega)
  have hex : (execOp a.eval ⟨dst, .makeSlice T x y, type, pos, after, guard⟩).run P w = .ok (.value (.slice (some ⟨w.heap.size, 0, none⟩) n ny.toNat)) (w.alloc (.cells (madeCells z.cells (ny.toNat * i.size)) e)) := by
    simp only [execOp, h1, h2, Sem.run_bind, hrun, Result.andThen_ok, Sem.run_pure]
    rfl
  rw [hex]
  have hzs : z.cells.size = te.size := by rw [← hzl, ← e3]; simp
  have hrl : (List.replicate n (zeroA te)).length = n := by simp
  have hat : ∀ (j : Nat) v, (List.replicate n (zeroA te))[j]? = some v → v = zeroA te := fun j v hv => by
    rw [List.getElem?_replicate] at hv
    split at hv
    · exact (Option.some.inj hv).symm
    · cases hv
  have hzat : ∀ j, j < te.size → ∃ v, te.zero[j]? = some v ∧ z.cells.getD j undef = v := fun j hj => by
    have := getD_eq z.cells j (by omega)
    refine ⟨_, ?_, rfl⟩
    rw [← e3]
    simpa using this
  have := Goes.newArr HH (hn k (by simp)) (madeCells z.cells (ny.toNat * i.size)) e te.size (List.replicate n (zeroA te)) ny.toNat (fun _ j => z.cells.getD j undef) hp (by rw [hrl]; unfold maxN; omega) (by rw [hrl]; omega) (by rw [size_madeCells, e1]; exact Nat.le_refl _)
    (fun j v hv => by rw [hat j v hv]; exact hzc) (fun i' j hi' hj => by
      rw [hrl] at hi'
      have hlt : i' * te.size + j < ny.toNat * te.size := by
        have := Nat.mul_le_mul_right te.size (show i' + 1 ≤ ny.toNat by omega)
        rw [Nat.add_mul, Nat.one_mul] at this
        omega
      have hm' : (i' * te.size + j) % te.size = j := by rw [Nat.mul_comm, Nat.mul_add_mod]; exact Nat.mod_eq_of_lt hj
      simp only [madeCells, e1, Array.getElem?_map, Array.getElem?_range, hlt, if_true, Option.map_some, hzs, hm']
      congr 1
      have hj' : j < z.cells.size := by omega
      simp [Array.getD_eq_getD_getElem?, hj']) (fun i' j _ hj => by
      obtain ⟨v, hv, hv'⟩ := hzat j hj
      rw [hv']
      exact List.all_eq_true.1 hz1 v (List.mem_of_getElem? hv)) (fun i' v j u hv hu => by
      rw [hat i' v hv, hzc2] at hu
      simp only [List.getElem?_map, Option.map_eq_some_iff] at hu
      obtain ⟨q, hq, rfl⟩ := hu
      have hj : j < te.size := by rw [← hzl]; exact (List.getElem?_eq_some_iff.1 hq).1
      obtain ⟨v', hv1, hv2⟩ := hzat j hj
      rw [hv2]
      rw [hq] at hv1
      cases hv1
      exact .s _)
  obtain ⟨β', G, hv⟩ := this
  rw [hrl] at hv
  exact ⟨β', G, hv⟩

/-! ### Least and greatest -/
theorem stp_max {T1 T2 : Nat} {x y : Operand} {k : IntKind} {m n : Int} (hx : opv (look st.tm) x = .s (.int k m)) (hy : opv (look st.tm) y = .s (.int k n)) : Stp P st (.call ⟨.builtin .max, #[x, y], #[T1, T2]⟩) (.s (.int k (max m n))) [] [] [] :=
  stp_val fun oo X tm h w β a ho hg hr HH Ht => by
    obtain ⟨dst, op', type, pos, after, guard⟩ := oo
    dsimp only at ho; subst ho
    have h1 := arg_s Ht hg (x := x) (by simp [Op.operands, Call.operands]) hx
    have h2 := arg_s Ht hg (x := y) (by simp [Op.operands, Call.operands]) hy
    refine ⟨.int k (max m n), ?_, .fz _ _ (.s _)⟩
    have : (if n > m then n else m) = max m n := by omega
    simp [execOp, resolve, invoke, builtin, Builtin.max_, Builtin.max2, h1, h2, this]
theorem stp_min {T1 T2 : Nat} {x y : Operand} {k : IntKind} {m n : Int} (hx : opv (look st.tm) x = .s (.int k m)) (hy : opv (look st.tm) y = .s (.int k n)) : Stp P st (.call ⟨.builtin .min, #[x, y], #[T1, T2]⟩) (.s (.int k (min m n))) [] [] [] :=
  stp_val fun oo X tm h w β a ho hg hr HH Ht => by
    obtain ⟨dst, op', type, pos, after, guard⟩ := oo
    dsimp only at ho; subst ho
    have h1 := arg_s Ht hg (x := x) (by simp [Op.operands, Call.operands]) hx
    have h2 := arg_s Ht hg (x := y) (by simp [Op.operands, Call.operands]) hy
    refine ⟨.int k (min m n), ?_, .fz _ _ (.s _)⟩
    have : (if n < m then n else m) = min m n := by omega
    simp [execOp, resolve, invoke, builtin, Builtin.min_, Builtin.min2, h1, h2, this]

/-! ### nil -/
/-- It is a slice that is not nil. -/
def notNil (h : Heap) : AV → Bool
  | .sl true _ => true
  | .sl false (_ :: _) => true
  | .ref k _ (_ + 1) => match h k with
    | some (.arr _ _ _) => true
    | _ => false
  | _ => false
theorem run_eql_nil (hP : TOK P TT) {T e : Nat} {ti : TI} (hT : TT[T]? = some ti) (hd : ti.d = .slice e) (w : World) (b : Option Addr) (n c : Nat) : (Op.equal T (.slice b n c) (.slice none 0 0)).run P w = .ok b.isNone w := by
  obtain ⟨_, u, _, _, hu, _, hd', _⟩ := tiOf_some (hP _ _ hT)
  obtain rfl := td_slice (hd'.symm.trans hd)
  show (Op.equalIn (9999 + 1) T _ _).run P w = _
  unfold Op.equalIn
  cases b <;> simp [under_of w hu]
theorem stp_eqlNil_not (hP : TOK P TT) {T ty e : Nat} {x : Operand} {ti : TI} {xv : AV} {op : BinOp} {v : Bool} (hop : op = .eql ∧ v = false ∨ op = .neq ∧ v = true) (hx : opv (look st.tm) x = xv) (hT : TT[T]? = some ti) (hd : ti.d = .slice e) (hn : notNil (lookE st.h) xv = true) :
    Stp P st (.binOp op T x (.const (.slice none 0 0)) ty) (.s (.bool v)) [] (elk xv) [] :=
  stp_val fun oo X tm h w β a ho hg hr HH Ht => by
    obtain ⟨dst, op', type, pos, after, guard⟩ := oo
    dsimp only at ho; subst ho
    have h1 := arg Ht hg (x := x) (by simp [Op.operands]) hx
    obtain ⟨b, n, c, hc⟩ : ∃ b n c, a.eval x = .slice (some b) n c := by
      generalize a.eval x = cx at h1
      cases h1 with
      | fz _ _ hf =>
        cases hf with
        | nil a cap => simp [notNil] at hn
        | nil1 a cap => exact ⟨_, _, _, rfl⟩
        | sl _ _ b o sz cap f hne hL hc hh => exact ⟨_, _, _, rfl⟩
        | _ => simp [notNil] at hn
      | ref _ _ _ _ _ _ _ _ _ _ _ _ _ _ => exact ⟨_, _, _, rfl⟩
      | ref0 _ _ _ _ _ _ _ _ => simp [notNil] at hn
      | dref k off len _ hk _ =>
        have := hr k (by simp [elk])
        cases len with
        | zero => simp [notNil] at hn
        | succ m => simp [notNil, ← this, hk] at hn
      | _ => simp [notNil] at hn
    have he := run_eql_nil hP hT hd w (some b) n c
    refine ⟨.bool v, ?_, .fz _ _ (.s _)⟩
    rcases hop with ⟨rfl, rfl⟩ | ⟨rfl, rfl⟩ <;> simp [execOp, hc, show a.eval (.const (.slice none 0 0)) = .slice none 0 0 from rfl, eqGuard, binOp, he]
theorem stp_eqlNil (hP : TOK P TT) {T ty e : Nat} {x : Operand} {ti : TI} {op : BinOp} {v : Bool} {n c : Nat} (hop : op = .eql ∧ v = true ∨ op = .neq ∧ v = false) (hx : opv (look st.tm) x = .s (.slice none n c)) (hT : TT[T]? = some ti) (hd : ti.d = .slice e) :
    Stp P st (.binOp op T x (.const (.slice none 0 0)) ty) (.s (.bool v)) [] [] [] :=
  stp_val fun oo X tm h w β a ho hg hr HH Ht => by
    obtain ⟨dst, op', type, pos, after, guard⟩ := oo
    dsimp only at ho; subst ho
    have hc := arg_s Ht hg (x := x) (by simp [Op.operands]) hx
    have he := run_eql_nil hP hT hd w none n c
    refine ⟨.bool v, ?_, .fz _ _ (.s _)⟩
    rcases hop with ⟨rfl, rfl⟩ | ⟨rfl, rfl⟩ <;> simp [execOp, hc, show a.eval (.const (.slice none 0 0)) = .slice none 0 0 from rfl, eqGuard, binOp, he]
/-- Two strings. -/
theorem stp_string2 {op : BinOp} {tx ty : Nat} {x y : Operand} {p q : ByteArray} {v : Bool} (hx : opv (look st.tm) x = .s (.string p)) (hy : opv (look st.tm) y = .s (.string q))
    (hop : op = .eql ∧ v = (p.toList == q.toList) ∨ op = .neq ∧ v = !(p.toList == q.toList)) : Stp P st (.binOp op tx x y ty) (.s (.bool v)) [] [] [] :=
  stp_val fun o X tm h w β a ho hg _ _ Ht => by
    obtain ⟨dst, op', type, pos, after, guard⟩ := o
    dsimp only at ho; subst ho
    have h1 := arg_s Ht hg (x := x) (by simp [Op.operands]) hx
    have h2 := arg_s Ht hg (x := y) (by simp [Op.operands]) hy
    refine ⟨.bool v, ?_, .fz _ _ (.s _)⟩
    rcases hop with ⟨rfl, rfl⟩ | ⟨rfl, rfl⟩ <;> simp [execOp, h1, h2, eqGuard, binOp, Op.stringOp]
end ops
end Av
end Go.Proofs.Ytianonghhmiooaa
