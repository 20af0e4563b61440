/- Abstract values: arguments of any shape that a law is handed. -/
import Derived.Test.YtjbldhhgooihfaaGreatAvq
import Derived.ChangeArms
import Derived.DataReads
namespace Go.Proofs.YtjbldhhgooihfaaGreat
namespace Av
set_option linter.unusedSimpArgs false
set_option linter.unusedVariables false

/-- Cells that read as abstract values. -/
def RepCells (w : World) (D : Nat → Prop) (vs : List AV) (cs : List Value) : Prop :=
  vs.length = cs.length ∧ ∀ (i : Nat) v c, vs[i]? = some v → cs[i]? = some c → RepF w D v c ∧ c.oneCell' = true
/-- What of a type came in reads as some x that keeps B. -/
def Reads {H : Type} (eh : TypeId × Value → H) (P : Program) (w : World) (t : TypeId) {α : Type} (enc : α → List AV) (B : α → Prop) : Prop :=
  ∀ fuel cs y, DataW.trod eh P w 0 (fun _ => true) true fuel t cs = some y → ∃ x, RepCells w (Dom (fun _ => False) fun _ => []) (enc x) cs ∧ B x
section
variable {H : Type} {eh : TypeId × Value → H} {P : Program} {w : World} {t : TypeId}
theorem reads_int {k : IntKind} (ht : P.underlying t = some (.int k)) : Reads eh P w t (fun n : Int => [.s (.int k n)]) (fun n => (Lit.int k n).wf = true) := fun fuel cs y h => by
  obtain ⟨n, rfl, _, hw⟩ := DataW.trod_int ht h
  refine ⟨n, ⟨rfl, fun i v c hv hc => ?_⟩, hw⟩
  cases i with
  | zero => simp at hv hc; subst hv hc; exact ⟨.s _, rfl⟩
  | succ i => simp at hv
theorem reads_bool (ht : P.underlying t = some .bool) : Reads eh P w t (fun b : Bool => [.s (.bool b)]) (fun _ => True) := fun fuel cs y h => by
  obtain ⟨b, rfl, _⟩ := DataW.trod_bool ht h
  refine ⟨b, ⟨rfl, fun i v c hv hc => ?_⟩, trivial⟩
  cases i with
  | zero => simp at hv hc; subst hv hc; exact ⟨.s _, rfl⟩
  | succ i => simp at hv
theorem Reads.map {α β : Type} {enc : α → List AV} {B : α → Prop} (h : Reads eh P w t enc B) {enc' : β → List AV} {B' : β → Prop} (g : α → β) (h1 : ∀ a, enc' (g a) = enc a) (h2 : ∀ a, B a → B' (g a)) : Reads eh P w t enc' B' := fun fuel cs y hy => by
  obtain ⟨x, hx, hb⟩ := h fuel cs y hy
  exact ⟨g x, by rw [h1]; exact hx, h2 x hb⟩
/-- The fields of a struct, one behind the other from an offset on. -/
inductive FR (eh : TypeId × Value → H) (P : Program) (w : World) : Nat → Nat → List Field → (β : Type) → (β → List AV) → (β → Prop) → Prop
  | nil (off : Nat) : FR eh P w off off [] Unit (fun _ => []) (fun _ => True)
  | cons {off tot : Nat} {f : Field} {fs : List Field} {α β : Type} {enc : α → List AV} {B : α → Prop} {encs : β → List AV} {Bs : β → Prop} (k : Nat) (hr : Reads eh P w f.type enc B) (ho : f.offset = off) (hk : P.cellsOf f.type = k) (hl : ∀ x, (enc x).length = k) (hf : FR eh P w (off + k) tot fs β encs Bs) :
      FR eh P w off tot (f :: fs) (α × β) (fun p => enc p.1 ++ encs p.2) (fun p => B p.1 ∧ Bs p.2)
theorem FR.le {off tot : Nat} {fs : List Field} {β : Type} {encs : β → List AV} {Bs : β → Prop} (h : FR eh P w off tot fs β encs Bs) : off ≤ tot ∧ ∀ x, off + (encs x).length = tot := by
  induction h with
  | nil off => exact ⟨Nat.le_refl _, fun _ => rfl⟩
  | cons k hr ho hk hl hf ih => exact ⟨by omega, fun x => by have := ih.2 x.2; have := hl x.1; simp; omega⟩
theorem FR.reads {off tot : Nat} {fs : List Field} {β : Type} {encs : β → List AV} {Bs : β → Prop} (h : FR eh P w off tot fs β encs Bs) {n : Nat} {cs : List Value}
    (hx : ∀ (i : Nat) (f : Field), fs[i]? = some f → ∃ y, DataW.trod eh P w 0 (fun _ => true) true n f.type ((cs.drop f.offset).take (P.cellsOf f.type)) = some y) (hlen : tot = cs.length) :
    ∃ x, RepCells w (Dom (fun _ => False) fun _ => []) (encs x) (cs.drop off) ∧ Bs x := by
  induction h with
  | nil off => exact ⟨(), ⟨by simp; omega, fun i v c hv => by simp at hv⟩, trivial⟩
  | @cons off tot f fs α β enc B encs Bs k hr ho hk hl hf ih =>
    obtain ⟨y, hy⟩ := hx 0 f rfl
    obtain ⟨x, ⟨hxl, hxr⟩, hxB⟩ := hr _ _ _ hy
    have hb := hf.le.1
    rw [ho, hk] at hxl hxr
    have hel := hl x
    obtain ⟨z, ⟨hzl, hzr⟩, hzB⟩ := ih (fun i g hg => hx (i + 1) g (by simpa using hg)) hlen
    refine ⟨(x, z), ⟨by simp at hzl ⊢; omega, fun i v c hv hc => ?_⟩, hxB, hzB⟩
    dsimp only at hv
    by_cases hi : i < k
    · rw [List.getElem?_append_left (by omega)] at hv
      refine hxr i v c hv ?_
      rw [List.getElem?_take, if_pos hi]
      exact hc
    · rw [List.getElem?_append_right (by omega), hel] at hv
      refine hzr (i - k) v c hv ?_
      rw [List.getElem?_drop] at hc ⊢
      rw [← hc]
      congr 1
      omega
theorem reads_struct {fs : Array Field} {tot : Nat} {β : Type} {encs : β → List AV} {Bs : β → Prop} (ht : P.underlying t = some (.struct fs)) (hn : P.cellsOf t = tot) (h : FR eh P w 0 tot fs.toList β encs Bs) : Reads eh P w t encs Bs := fun fuel cs y hy => by
  obtain ⟨xs, m, _, _, hlen, hxl, hf⟩ := DataW.trod_struct ht hy
  have := h.reads (n := m) (cs := cs) (fun i f hf' => by
    have hi : i < xs.length := by
      have := (List.getElem?_eq_some_iff.1 hf').1
      rw [hxl]; simpa using this
    refine ⟨xs[i], ?_⟩
    rw [hf i f (by simpa using hf')]
    simp [hi]) (by omega)
  simpa using this
/-- One value of several cells, or of one. -/
def one (agg : Bool) (vs : List AV) : AV := bif agg then .agg vs else vs.headD .bot
theorem one_cells {agg : Bool} {vs : List AV} (h : agg = false → ∃ v, vs = [v] ∧ v.isAgg = false) : (one agg vs).cells = vs := by
  cases agg with
  | true => rfl
  | false =>
    obtain ⟨v, rfl, hv⟩ := h rfl
    simp only [one, cond_false, List.headD]
    cases v <;> first | rfl | (simp [AV.isAgg] at hv)
theorem reads_slice {e : TypeId} {α : Type} {enc : α → List AV} {B : α → Prop} (ht : P.underlying t = some (.slice e)) (agg : Bool) (he : Reads eh P w e enc B) {sz : Nat} (hs : P.cellsOf e = sz) (hp : Nat.ble 1 sz = true) (hag : ∀ x, agg = false → ∃ v, enc x = [v] ∧ v.isAgg = false) :
    Reads eh P w t (fun l : List α => [.sl false (l.map fun x => one agg (enc x))]) (fun l => l.length ≤ maxN ∧ ∀ x ∈ l, B x) := fun fuel cs y hy => by
  have hp := Nat.le_of_ble_eq_true hp
  rcases DataW.trod_slice ht hy with ⟨rfl, _⟩ | ⟨a, len, cap, elems, rest, n, _, rfl, _, _, hlc, hcm, hel, hat, _⟩
  · refine ⟨[], ⟨rfl, fun i v c hv hc => ?_⟩, by simp, by simp⟩
    cases i with
    | zero => simp at hv hc; subst hv hc; exact ⟨.nil _ _, rfl⟩
    | succ i => simp at hv
  · -- each element
    have each : ∀ i, i < len → ∃ (x : α) (es : List Value), w.cells? 0 (a.add (i * sz)) sz = some es ∧ RepCells w (Dom (fun _ => False) fun _ => []) (enc x) es ∧ B x := fun i hi => by
      have h1 := hat i hi
      rw [hs] at h1
      have h2 : elems[i]? = some elems[i] := by simp [hel, hi]
      rw [h2] at h1
      cases hc : w.cells? 0 (a.add (i * sz)) sz with
      | none => rw [hc] at h1; cases h1
      | some es =>
        rw [hc] at h1
        obtain ⟨x, hx, hb⟩ := he _ _ _ h1
        exact ⟨x, es, rfl, hx, hb⟩
    have hlist : ∀ m, m ≤ len → ∃ l : List α, l.length = m ∧ ∀ i (h : i < l.length), ∃ es, w.cells? 0 (a.add (i * sz)) sz = some es ∧ RepCells w (Dom (fun _ => False) fun _ => []) (enc l[i]) es ∧ B l[i] := by
      intro m
      induction m with
      | zero => exact fun _ => ⟨[], rfl, fun i h => by simp at h⟩
      | succ m ih =>
        intro hm
        obtain ⟨l, hl, hh⟩ := ih (by omega)
        obtain ⟨x, es, h1, h2, h3⟩ := each m (by omega)
        refine ⟨l ++ [x], by simp [hl], fun i h => ?_⟩
        by_cases hi : i < l.length
        · rw [List.getElem_append_left hi]; exact hh i hi
        · obtain rfl : i = m := by simp at h; omega
          refine ⟨es, h1, ?_⟩
          rw [List.getElem_append_right (by omega)]
          simpa [hl] using And.intro h2 h3
    obtain ⟨l, hl, hh⟩ := hlist len (Nat.le_refl _)
    refine ⟨l, ⟨rfl, fun i v c hv hc => ?_⟩, by unfold maxLen at hcm; unfold maxN; omega, fun x hx => ?_⟩
    · cases i with
      | succ i => simp at hv
      | zero =>
        simp at hv hc
        subst hv hc
        refine ⟨?_, rfl⟩
        by_cases h0 : len = 0
        · subst h0
          obtain rfl : l = [] := List.eq_nil_of_length_eq_zero hl
          exact .nil _ _
        · obtain ⟨es0, h1, h2, _⟩ := hh 0 (by omega)
          obtain ⟨b, off, spot⟩ := a
          obtain ⟨_, g1, g2⟩ := World.cells?_some h1
          have hz : 0 < es0.length := by omega
          have hc0 := g2 0 (by omega)
          rw [List.getElem?_eq_getElem hz] at hc0
          have hspot : spot = none := by simpa [Addr.add] using World.cell?_spot hc0
          subst hspot
          have hlt : b < w.heap.size := by
            have := World.block_lt_of_cell? w _ hc0
            simpa [add_at] using this
          have hcell : ∀ i (h : i < l.length), ∃ es : List Value, es.length = sz ∧ RepCells w (Dom (fun _ => False) fun _ => []) (enc l[i]) es ∧ ∀ j, j < sz → w.cell? ⟨b, off + i * sz + j, none⟩ = es[j]? := fun i h => by
            obtain ⟨es, q1, q2, _⟩ := hh i h
            obtain ⟨_, q3, q4⟩ := World.cells?_some q1
            refine ⟨es, q3, q2, fun j hj => ?_⟩
            have := q4 j hj
            rwa [add_at, add_at] at this
          have hxs : ∀ (i : Nat) (x : AV), (l.map fun x => one agg (enc x))[i]? = some x → ∃ h : i < l.length, x = one agg (enc l[i]) ∧ x.cells = enc l[i] := fun i x hx => by
            rw [List.getElem?_map, Option.map_eq_some_iff] at hx
            obtain ⟨z, hz, rfl⟩ := hx
            obtain ⟨hi, rfl⟩ := List.getElem?_eq_some_iff.1 hz
            exact ⟨hi, rfl, one_cells (hag _)⟩
          have hlm : (l.map fun x => one agg (enc x)).length = len := by simp [hl]
          have := RepF.sl (w := w) (D := Dom (fun _ => False) fun _ => []) false (l.map fun x => one agg (enc x)) b off sz cap (fun i j => (w.cell? ⟨b, off + i * sz + j, none⟩).getD undef) (fun h => by rw [h] at hlm; simp at hlm; omega)
            ⟨hlt, dom0 b, hp, by rw [hlm]; unfold maxLen at hcm; unfold maxN; omega, fun i x hx => by
              obtain ⟨hi, _, hc⟩ := hxs i x hx
              obtain ⟨es, e1, e2, _⟩ := hcell i hi
              rw [hc, e2.1, e1], fun i j hi hj => by
              obtain ⟨es, e1, e2, e3⟩ := hcell i (by omega)
              rw [e3 j hj, List.getElem?_eq_getElem (by omega)]; rfl, fun i j hi hj => by
              obtain ⟨es, e1, e2, e3⟩ := hcell i (by omega)
              rw [e3 j hj, List.getElem?_eq_getElem (by omega)]
              have hj2 : j < (enc (l[i]'(by omega))).length := by rw [e2.1, e1]; exact hj
              exact (e2.2 j _ _ (List.getElem?_eq_getElem hj2) (List.getElem?_eq_getElem (by omega))).2⟩ (by rw [hlm]; exact hlc) (fun i x j v hx hv => by
              obtain ⟨hi, _, hc⟩ := hxs i x hx
              obtain ⟨es, e1, e2, e3⟩ := hcell i hi
              rw [hc] at hv
              have hj : j < sz := by
                have := (List.getElem?_eq_some_iff.1 hv).1
                rw [e2.1, e1] at this; exact this
              rw [e3 j hj, List.getElem?_eq_getElem (by omega)]
              exact (e2.2 j _ _ hv (List.getElem?_eq_getElem (by omega))).1)
          rwa [hlm] at this
    · obtain ⟨i, hi, rfl⟩ := List.getElem_of_mem hx
      obtain ⟨_, _, _, h3⟩ := hh i hi
      exact h3
/-- A struct that came in. -/
theorem Reads.agg {α : Type} {enc : α → List AV} {B : α → Prop} (h : Reads eh P w t enc B) {cs : Array Value} {d : DataW H} {ps : List MemPlace} (ht : DataW.Trod eh P w 0 (fun _ => true) true t (.agg cs) d ps) : ∃ x, RepF w (Dom (fun _ => False) fun _ => []) (.agg (enc x)) (.agg cs) ∧ B x := by
  obtain ⟨fuel, hf⟩ := ht
  obtain ⟨x, ⟨hl, hr⟩, hb⟩ := h _ _ _ hf
  have hl : (enc x).length = cs.size := by simpa [Value.cells] using hl
  refine ⟨x, .agg _ _ hl.symm (fun i hi => ?_) (fun i v hv => ?_), hb⟩
  · have h1 : i < (enc x).length := by omega
    exact (hr i _ _ (List.getElem?_eq_getElem h1) (by simpa [Value.cells] using getD_eq cs i hi)).2
  · have h1 := (List.getElem?_eq_some_iff.1 hv).1
    exact (hr i _ _ hv (by simpa [Value.cells] using getD_eq cs i (by omega))).1
/-- A slice that came in. -/
theorem Reads.cell {α : Type} {enc : α → List AV} {B : α → Prop} (h : Reads eh P w t enc B) {v : Value} (hv : v.cells = #[v]) {d : DataW H} {ps : List MemPlace} (ht : DataW.Trod eh P w 0 (fun _ => true) true t v d ps) : ∃ x, ∀ a, enc x = [a] → RepF w (Dom (fun _ => False) fun _ => []) a v ∧ B x := by
  obtain ⟨fuel, hf⟩ := ht
  obtain ⟨x, ⟨hl, hr⟩, hb⟩ := h _ _ _ hf
  refine ⟨x, fun a ha => ⟨(hr 0 a v (by rw [ha]; rfl) (by rw [hv]; rfl)).1, hb⟩⟩
end
end Av
end Go.Proofs.YtjbldhhgooihfaaGreat
