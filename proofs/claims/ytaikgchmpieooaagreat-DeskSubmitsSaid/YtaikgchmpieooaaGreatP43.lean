/- Part 43: contracts of the functions, and what they rest upon. -/
import Derived.Test.YtaikgchmpieooaaGreatP24
import Derived.ChangeArms
import Derived.DataReads
import Derived.Test.YtaikgchmpieooaaGreatP40
import Derived.Test.YtaikgchmpieooaaGreatP42
import Derived.Test.YtaikgchmpieooaaGreatP35
namespace Go.Proofs.YtaikgchmpieooaaGreat
namespace Av
set_option linter.unusedSimpArgs false
set_option linter.unusedVariables false
section
def RepCells (w : World) (D : Nat → Prop) (vs : List AV) (cs : List Value) : Prop :=
 vs.length = cs.length ∧ ∀ (i : Nat) v c, vs[i]? = some v → cs[i]? = some c → RepF w D v c ∧ c.oneCell' = true
def Reads {H : Type} (eh : TypeId × Value → H) (P : Program) (w : World) (t : TypeId) {α : Type} (enc : α → List AV) (B : α → Prop) : Prop :=
 ∀ fuel cs y, DataW.trod eh P w 0 (fun _ => true) true fuel t cs = some y → ∃ x, RepCells w (Dom (fun _ => False) fun _ => []) (enc x) cs ∧ B x
section
variable {H : Type} {eh : TypeId × Value → H} {P : Program} {w : World} {t : TypeId}
theorem reads_int {k : IntKind} (ht : P.underlying t = some (.int k)) : Reads eh P w t (fun n : Int => [.s (.int k n)]) (fun n => (Lit.int k n).wf = true) := fun fuel cs y h => by
 obtain ⟨n, rfl, _, hw⟩ := DataW.trod_int ht h
 refine ⟨n, ⟨rfl, fun i v c hv hc => ?_⟩, hw⟩
 cases i with
 | zero => simp at hv hc; subst hv hc; exact ⟨.s _, rfl⟩
 | succ i => simp at hv
theorem Reads.map {α β : Type} {enc : α → List AV} {B : α → Prop} (h : Reads eh P w t enc B) {enc' : β → List AV} {B' : β → Prop} (g : α → β) (h1 : ∀ a, enc' (g a) = enc a) (h2 : ∀ a, B a → B' (g a)) : Reads eh P w t enc' B' := fun fuel cs y hy => by
 obtain ⟨x, hx, hb⟩ := h fuel cs y hy
 exact ⟨g x, by rw [h1]; exact hx, h2 x hb⟩
inductive FR (eh : TypeId × Value → H) (P : Program) (w : World) : Nat → Nat → List Field → (β : Type) → (β → List AV) → (β → Prop) → Prop
 | nil (off : Nat) : FR eh P w off off [] Unit (fun _ => []) (fun _ => True)
 | cons {off tot : Nat} {f : Field} {fs : List Field} {α β : Type} {enc : α → List AV} {B : α → Prop} {encs : β → List AV} {Bs : β → Prop} (k : Nat) (hr : Reads eh P w f.type enc B) (ho : f.offset = off) (hk : P.cellsOf f.type = k) (hl : ∀ x, (enc x).length = k) (hf : FR eh P w (off + k) tot fs β encs Bs) :
  FR eh P w off tot (f :: fs) (α × β) (fun p => enc p.1 ++ encs p.2) (fun p => B p.1 ∧ Bs p.2)
theorem FR.le {off tot : Nat} {fs : List Field} {β : Type} {encs : β → List AV} {Bs : β → Prop} (h : FR eh P w off tot fs β encs Bs) : off ≤ tot ∧ ∀ x, off + (encs x).length = tot := by
 induction h with
 | nil off => exact ⟨Nat.le_refl _, fun _ => rfl⟩
 | cons k hr ho hk hl hf ih => exact ⟨by omega, fun x => by have := ih.2 x.2; have := hl x.1; simp; omega⟩
theorem FR.reads {off tot : Nat} {fs : List Field} {β : Type} {encs : β → List AV} {Bs : β → Prop} (h : FR eh P w off tot fs β encs Bs) {n : Nat} {cs : List Value}
  (hx : ∀ (i : Nat) (f : Field), fs[i]? = some f → ∃ y, DataW.trod eh P w 0 (fun _ => true) true n f.type ((cs.drop f.offset).take (P.cellsOf f.type)) = some y) (hlen : tot = cs.length) :
  ∃ x, RepCells w (Dom (fun _ => False) fun _ => []) (encs x) (cs.drop off) ∧ Bs x := by
 induction h with
 | nil off => exact ⟨(), ⟨by simp; omega, fun i v c hv => by simp at hv⟩, trivial⟩
 | @cons off tot f fs α β enc B encs Bs k hr ho hk hl hf ih =>
  obtain ⟨y, hy⟩ := hx 0 f rfl
  obtain ⟨x, ⟨hxl, hxr⟩, hxB⟩ := hr _ _ _ hy
  have hb := hf.le.1
  rw [ho, hk] at hxl hxr
  have hel := hl x
  obtain ⟨z, ⟨hzl, hzr⟩, hzB⟩ := ih (fun i g hg => hx (i + 1) g (by simpa using hg)) hlen
  refine ⟨(x, z), ⟨by simp at hzl ⊢; omega, fun i v c hv hc => ?_⟩, hxB, hzB⟩
  dsimp only at hv
  by_cases hi : i < k
  ·rw [List.getElem?_append_left (by omega)] at hv
   refine hxr i v c hv ?_
   rw [List.getElem?_take, if_pos hi]
   exact hc
  ·rw [List.getElem?_append_right (by omega), hel] at hv
   refine hzr (i - k) v c hv ?_
   rw [List.getElem?_drop] at hc ⊢
   rw [← hc]
   congr 1
   omega
theorem reads_struct {fs : Array Field} {tot : Nat} {β : Type} {encs : β → List AV} {Bs : β → Prop} (ht : P.underlying t = some (.struct fs)) (hn : P.cellsOf t = tot) (h : FR eh P w 0 tot fs.toList β encs Bs) : Reads eh P w t encs Bs := fun fuel cs y hy => by
 obtain ⟨xs, m, _, _, hlen, hxl, hf⟩ := DataW.trod_struct ht hy
 have := h.reads (n := m) (cs := cs) (fun i f hf' => by
  have hi : i < xs.length := by
   have := (List.getElem?_eq_some_iff.1 hf').1
   rw [hxl]; simpa using this
  refine ⟨xs[i], ?_⟩
  rw [hf i f (by simpa using hf')]
  simp [hi]) (by omega)
 simpa using this
def one (agg : Bool) (vs : List AV) : AV := bif agg then .agg vs else vs.headD .bot
theorem one_cells {agg : Bool} {vs : List AV} (h : agg = false → ∃ v, vs = [v] ∧ v.isAgg = false) : (one agg vs).cells = vs := by
 cases agg with
 | true => rfl
 | false =>
  obtain ⟨v, rfl, hv⟩ := h rfl
  simp only [one, cond_false, List.headD]
  cases v <;> first | rfl | (simp [AV.isAgg] at hv)
theorem reads_slice {e : TypeId} {α : Type} {enc : α → List AV} {B : α → Prop} (ht : P.underlying t = some (.slice e)) (agg : Bool) (he : Reads eh P w e enc B) {sz : Nat} (hs : P.cellsOf e = sz) (hp : Nat.ble 1 sz = true) (hag : ∀ x, agg = false → ∃ v, enc x = [v] ∧ v.isAgg = false) :
  Reads eh P w t (fun l : List α => [.sl false (l.map fun x => one agg (enc x))]) (fun l => l.length ≤ maxN ∧ ∀ x ∈ l, B x) := fun fuel cs y hy => by
 have hp := Nat.le_of_ble_eq_true hp
 rcases DataW.trod_slice ht hy with ⟨rfl, _⟩ | ⟨a, len, cap, elems, rest, n, _, rfl, _, _, hlc, hcm, hel, hat, _⟩
 ·refine ⟨[], ⟨rfl, fun i v c hv hc => ?_⟩, by simp, by simp⟩
  cases i with
  | zero => simp at hv hc; subst hv hc; exact ⟨.nil _ _, rfl⟩
  | succ i => simp at hv
 ·
  have each : ∀ i, i < len → ∃ (x : α) (es : List Value), w.cells? 0 (a.add (i * sz)) sz = some es ∧ RepCells w (Dom (fun _ => False) fun _ => []) (enc x) es ∧ B x := fun i hi => by
   have h1 := hat i hi
   rw [hs] at h1
   have h2 : elems[i]? = some elems[i] := by simp [hel, hi]
   rw [h2] at h1
   cases hc : w.cells? 0 (a.add (i * sz)) sz with
   | none => rw [hc] at h1; cases h1
   | some es =>
    rw [hc] at h1
    obtain ⟨x, hx, hb⟩ := he _ _ _ h1
    exact ⟨x, es, rfl, hx, hb⟩
  have hlist : ∀ m, m ≤ len → ∃ l : List α, l.length = m ∧ ∀ i (h : i < l.length), ∃ es, w.cells? 0 (a.add (i * sz)) sz = some es ∧ RepCells w (Dom (fun _ => False) fun _ => []) (enc l[i]) es ∧ B l[i] := by
   intro m
   induction m with
   | zero => exact fun _ => ⟨[], rfl, fun i h => by simp at h⟩
   | succ m ih =>
    intro hm
    obtain ⟨l, hl, hh⟩ := ih (by omega)
    obtain ⟨x, es, h1, h2, h3⟩ := each m (by omega)
    refine ⟨l ++ [x], by simp [hl], fun i h => ?_⟩
    by_cases hi : i < l.length
    ·rw [List.getElem_append_left hi]; exact hh i hi
    ·obtain rfl : i = m := by simp at h; omega
     refine ⟨es, h1, ?_⟩
     rw [List.getElem_append_right (by omega)]
     simpa [hl] using And.intro h2 h3
  obtain ⟨l, hl, hh⟩ := hlist len (Nat.le_refl _)
  refine ⟨l, ⟨rfl, fun i v c hv hc => ?_⟩, by unfold maxLen at hcm; unfold maxN; omega, fun x hx => ?_⟩
  ·cases i with
   | succ i => simp at hv
   | zero =>
    simp at hv hc
    subst hv hc
    refine ⟨?_, rfl⟩
    by_cases h0 : len = 0
    ·subst h0
     obtain rfl : l = [] := List.eq_nil_of_length_eq_zero hl
     exact .nil _ _
    ·obtain ⟨es0, h1, h2, _⟩ := hh 0 (by omega)
     obtain ⟨b, off, spot⟩ := a
     obtain ⟨_, g1, g2⟩ := World.cells?_some h1
     have hz : 0 < es0.length := by omega
     have hc0 := g2 0 (by omega)
     rw [List.getElem?_eq_getElem hz] at hc0
     have hspot : spot = none := by simpa [Addr.add] using World.cell?_spot hc0
     subst hspot
     have hlt : b < w.heap.size := by
      have := World.block_lt_of_cell? w _ hc0
      simpa [add_at] using this
     have hcell : ∀ i (h : i < l.length), ∃ es : List Value, es.length = sz ∧ RepCells w (Dom (fun _ => False) fun _ => []) (enc l[i]) es ∧ ∀ j, j < sz → w.cell? ⟨b, off + i * sz + j, none⟩ = es[j]? := fun i h => by
      obtain ⟨es, q1, q2, _⟩ := hh i h
      obtain ⟨_, q3, q4⟩ := World.cells?_some q1
      refine ⟨es, q3, q2, fun j hj => ?_⟩
      have := q4 j hj
      rwa [add_at, add_at] at this
     have hxs : ∀ (i : Nat) (x : AV), (l.map fun x => one agg (enc x))[i]? = some x → ∃ h : i < l.length, x = one agg (enc l[i]) ∧ x.cells = enc l[i] := fun i x hx => by
      rw [List.getElem?_map, Option.map_eq_some_iff] at hx
      obtain ⟨z, hz, rfl⟩ := hx
      obtain ⟨hi, rfl⟩ := List.getElem?_eq_some_iff.1 hz
      exact ⟨hi, rfl, one_cells (hag _)⟩
     have hlm : (l.map fun x => one agg (enc x)).length = len := by simp [hl]
     have := RepF.sl (w := w) (D := Dom (fun _ => False) fun _ => []) false (l.map fun x => one agg (enc x)) b off sz cap (fun i j => (w.cell? ⟨b, off + i * sz + j, none⟩).getD undef) (fun h => by rw [h] at hlm; simp at hlm; omega)
      ⟨hlt, dom0 b, hp, by rw [hlm]; unfold maxLen at hcm; unfold maxN; omega, fun i x hx => by
       obtain ⟨hi, _, hc⟩ := hxs i x hx
       obtain ⟨es, e1, e2, _⟩ := hcell i hi
       rw [hc, e2.1, e1], fun i j hi hj => by
       obtain ⟨es, e1, e2, e3⟩ := hcell i (by omega)
       rw [e3 j hj, List.getElem?_eq_getElem (by omega)]; rfl, fun i j hi hj => by
       obtain ⟨es, e1, e2, e3⟩ := hcell i (by omega)
       rw [e3 j hj, List.getElem?_eq_getElem (by omega)]
       have hj2 : j < (enc (l[i]'(by omega))).length := by rw [e2.1, e1]; exact hj
       exact (e2.2 j _ _ (List.getElem?_eq_getElem hj2) (List.getElem?_eq_getElem (by omega))).2⟩ (by rw [hlm]; exact hlc) (fun i x j v hx hv => by
       obtain ⟨hi, _, hc⟩ := hxs i x hx
       obtain ⟨es, e1, e2, e3⟩ := hcell i hi
       rw [hc] at hv
       have hj : j < sz := by
        have := (List.getElem?_eq_some_iff.1 hv).1
        rw [e2.1, e1] at this; exact this
       rw [e3 j hj, List.getElem?_eq_getElem (by omega)]
       exact (e2.2 j _ _ hv (List.getElem?_eq_getElem (by omega))).1)
     rwa [hlm] at this
  ·obtain ⟨i, hi, rfl⟩ := List.getElem_of_mem hx
   obtain ⟨_, _, _, h3⟩ := hh i hi
   exact h3
theorem Reads.agg {α : Type} {enc : α → List AV} {B : α → Prop} (h : Reads eh P w t enc B) {cs : Array Value} {d : DataW H} {ps : List MemPlace} (ht : DataW.Trod eh P w 0 (fun _ => true) true t (.agg cs) d ps) : ∃ x, RepF w (Dom (fun _ => False) fun _ => []) (.agg (enc x)) (.agg cs) ∧ B x := by
 obtain ⟨fuel, hf⟩ := ht
 obtain ⟨x, ⟨hl, hr⟩, hb⟩ := h _ _ _ hf
 have hl : (enc x).length = cs.size := by simpa [Value.cells] using hl
 refine ⟨x, .agg _ _ hl.symm (fun i hi => ?_) (fun i v hv => ?_), hb⟩
 ·have h1 : i < (enc x).length := by omega
  exact (hr i _ _ (List.getElem?_eq_getElem h1) (by simpa [Value.cells] using getD_eq cs i hi)).2
 ·have h1 := (List.getElem?_eq_some_iff.1 hv).1
  exact (hr i _ _ hv (by simpa [Value.cells] using getD_eq cs i (by omega))).1
theorem Reads.cell {α : Type} {enc : α → List AV} {B : α → Prop} (h : Reads eh P w t enc B) {v : Value} (hv : v.cells = #[v]) {d : DataW H} {ps : List MemPlace} (ht : DataW.Trod eh P w 0 (fun _ => true) true t v d ps) : ∃ x, ∀ a, enc x = [a] → RepF w (Dom (fun _ => False) fun _ => []) a v ∧ B x := by
 obtain ⟨fuel, hf⟩ := ht
 obtain ⟨x, ⟨hl, hr⟩, hb⟩ := h _ _ _ hf
 refine ⟨x, fun a ha => ⟨(hr 0 a v (by rw [ha]; rfl) (by rw [hv]; rfl)).1, hb⟩⟩
end
end
section
set_option maxRecDepth 4000
set_option maxHeartbeats 4000000
def smF {α : Type} (p : α → α → Bool) : List α → List α → Bool
 | x :: l, y :: m => p x y && smF p l m
 | _, _ => true
theorem smF_at {α : Type} [Inhabited α] {p : α → α → Bool} {l m pre post : List α} {x : α} {i : Nat} (hx : l = pre ++ x :: post) (hi : pre.length = i) (hm : l.length = m.length) : smF p (l.drop i) (m.drop i) = (p x (m.getD i default) && smF p (l.drop (i + 1)) (m.drop (i + 1))) := by
 have hlt := rng_lt hx hi
 have e1 : l.drop i = x :: l.drop (i + 1) := by rw [List.drop_eq_getElem_cons hlt]; congr 1; subst hx; subst hi; simp
 have e2 : m.drop i = m.getD i default :: m.drop (i + 1) := by
  rw [List.drop_eq_getElem_cons (show i < m.length by omega)]
  congr 1
  simp [List.getD, show i < m.length by omega]
 rw [e1, e2]
 rfl
theorem smF_end {α : Type} {p : α → α → Bool} (l m : List α) : smF p (l.drop l.length) m = true := by
 rw [List.drop_length]
 cases m <;> rfl
def sTk (x y : Tk) : Bool := (x.used == y.used) && eqY x.sec y.sec && decide (x.par = y.par) && decide (x.rights = y.rights) && decide (x.cls = y.cls) && decide (x.til = y.til)
theorem tsame_ex (l m : List Tk) (hl : l.length ≤ 1000000) (hm : m.length ≤ 1000000) : ∃ b, CallSim Tryz.prog 54 [slA tkA l, slA tkA m] [] (bA b) [] := by
 have hl1 := map_len tkA l
 have hm1 := map_len tkA m
 by_cases hlm : l.length = m.length
 case neg =>
  refine ⟨false, ?_⟩
  (refine eN Tryz.func54 Tryz.call54 fun F hF => ?_)
  (refine WW ?_)
  exact fr0
 refine ⟨smF sTk l m, ?_⟩
 (refine eN Tryz.func54 Tryz.call54 fun F hF => ?_)
 (refine WW ?_)
 (refine sim_rngP (l) [] [] [1, 13, 14] [15, 1, 13, 14] rfl (fun i pre T U zs => (smF sTk l m = smF sTk (l.drop i) (m.drop i)) ∧ zs = ⟨(15, iA i) :: T, U⟩) ?_; (conv => whnf); refine ⟨?_, ?_, ?_⟩)
 ·exact ⟨rfl, rfl⟩
 ·rintro i pre x post st hx hi ⟨hp, rfl⟩
  have hy := rng_at tkA hx hi
  have hlt := rng_lt hx hi
  have hy2 := map_at tkA m i (by omega)
  rw [hp, smF_at hx hi hlm]
  generalize m.getD i default = y at *
  generalize smF sTk (l.drop (i + 1)) (m.drop (i + 1)) = r at *
  clear hx hp
  obtain ⟨u1, s1, p1, r1, c1, t1⟩ := x
  obtain ⟨u2, s2, p2, r2, c2, t2⟩ := y
  cases hs : sTk ⟨u1, s1, p1, r1, c1, t1⟩ ⟨u2, s2, p2, r2, c2, t2⟩ with
  | true =>
   simp only [sTk, Bool.and_eq_true, beq_iff_eq, decide_eq_true_eq] at hs
   obtain ⟨⟨⟨⟨⟨h1, hq⟩, h2⟩, h3⟩, h4⟩, h5⟩ := hs
   subst h1 h2 h3 h4 h5
   rw [Bool.true_and]
   cases u1
   all_goals
    (repeat' (first | refine WZ ?_ | refine SG (I2 (fun hc => ?_) (fun hc => ?_)) | refine SG (fun hc => ?_) | (refine is_ops ?_; refine is_call ?_; fail) | (refine is_ops ?_; first | refine SM ?_) | first | refine SR ?_ | refine SK (I2 (fun hc => ?_) (fun hc => ?_)) | refine SK (fun hc => ?_) | fail))
    all_goals (first | exact ⟨rfl, rfl⟩ | (exfalso; simp_all; done))
  | false =>
   rw [Bool.false_and]
   cases u1 <;> cases u2
   all_goals
    (repeat' (first | refine WZ ?_ | refine SG (I2 (fun hc => ?_) (fun hc => ?_)) | refine SG (fun hc => ?_) | (refine is_ops ?_; refine is_call ?_; fail) | (refine is_ops ?_; first | refine SM ?_) | first | refine SR ?_ | refine SK (I2 (fun hc => ?_) (fun hc => ?_)) | refine SK (fun hc => ?_) | fail))
    all_goals (first | exact fr0 | (exfalso; revert hs; simp_all [sTk, cmpB]; done))
 ·rintro st ⟨hp, rfl⟩
  rw [hp, smF_end]
  (refine WW ?_)
  exact fr0
def sVh (x y : Vh) : Bool := decide (x.id = y.id) && decide (x.cls = y.cls)
theorem vsame_ex (l m : List Vh) (hl : l.length ≤ 1000000) (hm : m.length ≤ 1000000) : ∃ b, CallSim Tryz.prog 55 [slA vhA l, slA vhA m] [] (bA b) [] := by
 have hl1 := map_len vhA l
 have hm1 := map_len vhA m
 by_cases hlm : l.length = m.length
 case neg =>
  refine ⟨false, ?_⟩
  (refine eN Tryz.func55 Tryz.call55 fun F hF => ?_)
  (refine WW ?_)
  exact fr0
 refine ⟨smF sVh l m, ?_⟩
 (refine eN Tryz.func55 Tryz.call55 fun F hF => ?_)
 (refine WW ?_)
 (refine sim_rngP (l) [] [] [1, 12, 13] [14, 1, 12, 13] rfl (fun i pre T U zs => (smF sVh l m = smF sVh (l.drop i) (m.drop i)) ∧ zs = ⟨(14, iA i) :: T, U⟩) ?_; (conv => whnf); refine ⟨?_, ?_, ?_⟩)
 ·exact ⟨rfl, rfl⟩
 ·rintro i pre x post st hx hi ⟨hp, rfl⟩
  have hy := rng_at vhA hx hi
  have hlt := rng_lt hx hi
  have hy2 := map_at vhA m i (by omega)
  rw [hp, smF_at hx hi hlm]
  generalize m.getD i default = y at *
  generalize smF sVh (l.drop (i + 1)) (m.drop (i + 1)) = r at *
  clear hx hp
  obtain ⟨p1, r1⟩ := x
  obtain ⟨p2, r2⟩ := y
  cases hs : sVh ⟨p1, r1⟩ ⟨p2, r2⟩ with
  | true =>
   simp only [sVh, Bool.and_eq_true, decide_eq_true_eq] at hs
   obtain ⟨h1, h2⟩ := hs
   subst h1 h2
   rw [Bool.true_and]
   (repeat' (first | refine WZ ?_ | refine SG (I2 (fun hc => ?_) (fun hc => ?_)) | refine SG (fun hc => ?_) | (refine is_ops ?_; refine is_call ?_; fail) | (refine is_ops ?_; first | refine SE ?_) | first | refine SR ?_ | refine SK (I2 (fun hc => ?_) (fun hc => ?_)) | refine SK (fun hc => ?_) | fail))
   all_goals (first | exact ⟨rfl, rfl⟩ | (exfalso; first | (simp [eqY_refl] at hc; done) | (revert hc; simp [eqY_refl]; done)))
  | false =>
   rw [Bool.false_and]
   simp only [sVh, Bool.and_eq_false_iff, decide_eq_false_iff_not] at hs
   (repeat' (first | refine WZ ?_ | refine SG (I2 (fun hc => ?_) (fun hc => ?_)) | refine SG (fun hc => ?_) | (refine is_ops ?_; refine is_call ?_; fail) | (refine is_ops ?_; first | refine SE ?_) | first | refine SR ?_ | refine SK (I2 (fun hc => ?_) (fun hc => ?_)) | refine SK (fun hc => ?_) | fail))
   all_goals (first | exact fr0 | (exfalso; simp at hc; omega))
 ·rintro st ⟨hp, rfl⟩
  rw [hp, smF_end]
  (refine WW ?_)
  exact fr0
def sLg (x y : Lg) : Bool := decide (x.jn = y.jn) && decide (x.ph = y.ph) && decide (x.fr = y.fr) && decide (x.to = y.to) && decide (x.sc = y.sc)
def sRq (x y : Rq) : Bool := decide (x.id = y.id) && decide (x.vh = y.vh) && decide (x.cls = y.cls) && decide (x.til = y.til) && decide (x.legs.length = y.legs.length) && smF sLg x.legs y.legs
theorem qsame_ex (l m : List Rq) (hl : l.length ≤ 1000) (hm : m.length ≤ 1000) (hb : ∀ r ∈ l, r.legs.length ≤ 1000) (hc : ∀ r ∈ m, r.legs.length ≤ 1000) : ∃ b, CallSim Tryz.prog 24 [slA rqA l, slA rqA m] [] (bA b) [] := by
 have hl1 := map_len rqA l
 have hm1 := map_len rqA m
 by_cases hlm : l.length = m.length
 case neg =>
  refine ⟨false, ?_⟩
  (refine eN Tryz.func24 Tryz.call24 fun F hF => ?_)
  (refine WW ?_)
  exact fr0
 refine ⟨smF sRq l m, ?_⟩
 (refine eN Tryz.func24 Tryz.call24 fun F hF => ?_)
 (refine WW ?_)
 (refine sim_rngP (l) [] [] [1, 15, 16] [17, 1, 15, 16] rfl (fun i pre T U zs => (smF sRq l m = smF sRq (l.drop i) (m.drop i)) ∧ zs = ⟨(17, iA i) :: T, U⟩) ?_; (conv => whnf); refine ⟨?_, ?_, ?_⟩)
 ·exact ⟨rfl, rfl⟩
 ·rintro i pre x post st hx hi ⟨hp, rfl⟩
  have hy := rng_at rqA hx hi
  have hlt := rng_lt hx hi
  have hy2 := map_at rqA m i (by omega)
  have hlx := hb x (rng_mem hx)
  have hly := hc (m.getD i default) (by rw [List.getD_eq_getElem?_getD, List.getElem?_eq_getElem (show i < m.length by omega)]; exact List.getElem_mem _)
  rw [hp, smF_at hx hi hlm]
  generalize m.getD i default = y at *
  generalize smF sRq (l.drop (i + 1)) (m.drop (i + 1)) = r at *
  clear hx hp hb hc
  have hl2 := map_len lgA x.legs
  have hl3 := map_len lgA y.legs
  unfold rqA slA at hy hy2
  cases hs : decide (x.id = y.id) && decide (x.vh = y.vh) && decide (x.cls = y.cls) && decide (x.til = y.til) && decide (x.legs.length = y.legs.length) with
  | false =>
   rw [sRq, hs, Bool.false_and, Bool.false_and]
   simp only [Bool.and_eq_false_iff, decide_eq_false_iff_not] at hs
   (repeat' (first | refine WZ ?_ | refine SG (I2 (fun hc => ?_) (fun hc => ?_)) | refine SG (fun hc => ?_) | (refine is_ops ?_; refine is_call ?_; fail) | (refine is_ops ?_; first | refine SM ?_) | first | refine SV ?_ | refine SK (I2 (fun hc => ?_) (fun hc => ?_)) | refine SK (fun hc => ?_) | fail))
   refine sim_block ?_
   (repeat' (first | refine WZ ?_ | refine SG (I2 (fun hc => ?_) (fun hc => ?_)) | refine SG (fun hc => ?_) | (refine is_ops ?_; refine is_call ?_; fail) | (refine is_ops ?_; first | refine SM ?_) | first | refine SV ?_ | refine SK (I2 (fun hc => ?_) (fun hc => ?_)) | refine SK (fun hc => ?_) | fail))
   all_goals (first | exact fr0 | (exfalso; omega))
  | true =>
   rw [sRq, hs, Bool.true_and]
   simp only [Bool.and_eq_true, decide_eq_true_eq] at hs
   obtain ⟨⟨⟨⟨h1, h2⟩, h3⟩, h4⟩, h5⟩ := hs
   (refine WW ?_)
   (refine sim_rngP (x.legs) [7] [7] [1, 7, 15, 16, 17, 62, 63] [64, 1, 7, 15, 16, 17, 62, 63] rfl (fun i pre T U zs => (smF sLg x.legs y.legs = smF sLg (x.legs.drop i) (y.legs.drop i)) ∧ zs = ⟨(64, iA i) :: T, U⟩) ?_; (conv => whnf); refine ⟨?_, ?_, ?_⟩)
   ·exact ⟨rfl, rfl⟩
   ·rintro k pre2 g post2 st2 hx2 hi2 ⟨hp2, rfl⟩
    have hy3 := rng_at lgA hx2 hi2
    have hlt3 := rng_lt hx2 hi2
    have hy4 := map_at lgA y.legs k (by omega)
    rw [hp2, smF_at hx2 hi2 h5]
    generalize y.legs.getD k default = g2 at *
    generalize smF sLg (x.legs.drop (k + 1)) (y.legs.drop (k + 1)) = r2 at *
    clear hx2 hp2
    obtain ⟨a1, a2, a3, a4, a5⟩ := g
    obtain ⟨b1, b2, b3, b4, b5⟩ := g2
    unfold lgA at hy3 hy4
    dsimp only at hy3 hy4
    cases hs : sLg ⟨a1, a2, a3, a4, a5⟩ ⟨b1, b2, b3, b4, b5⟩ with
    | true =>
     simp only [sLg, Bool.and_eq_true, decide_eq_true_eq] at hs
     obtain ⟨⟨⟨⟨e1, e2⟩, e3⟩, e4⟩, e5⟩ := hs
     subst e1 e2 e3 e4 e5
     rw [Bool.true_and]
     (repeat' (first | refine WZ ?_ | refine SG (I2 (fun hc => ?_) (fun hc => ?_)) | refine SG (fun hc => ?_) | (refine is_ops ?_; refine is_call ?_; fail) | (refine is_ops ?_; first | refine SF ?_) | first | refine SR ?_ | refine SK (I2 (fun hc => ?_) (fun hc => ?_)) | refine SK (fun hc => ?_) | fail))
     all_goals (first | exact ⟨rfl, rfl⟩ | (exfalso; first | (simp [eqY_refl] at hc; done) | (revert hc; simp [eqY_refl]; done)))
    | false =>
     rw [Bool.false_and, Bool.false_and]
     simp only [sLg, Bool.and_eq_false_iff, decide_eq_false_iff_not] at hs
     (repeat' (first | refine WZ ?_ | refine SG (I2 (fun hc => ?_) (fun hc => ?_)) | refine SG (fun hc => ?_) | (refine is_ops ?_; refine is_call ?_; fail) | (refine is_ops ?_; first | refine SF ?_) | first | refine SR ?_ | refine SK (I2 (fun hc => ?_) (fun hc => ?_)) | refine SK (fun hc => ?_) | fail))
     all_goals (first | exact fr0 | (exfalso; simp at hc; omega))
   ·rintro st2 ⟨hp2, rfl⟩
    rw [hp2, smF_end, Bool.true_and]
    (refine WW ?_)
    exact ⟨rfl, rfl⟩
 ·rintro st ⟨hp, rfl⟩
  rw [hp, smF_end]
  (refine WW ?_)
  exact fr0
theorem gsame_ex (r s : Rg) (hr : RgB r) (hs : RgB s) (hn : r.num = s.num) (ha : r.ag = s.ag) : ∃ b, CallSim Tryz.prog 23 [rgA r, rgA s] [] (bA b) [] := by
 have c1 := asame_c r.ag hr.l
 obtain ⟨b2, c2⟩ := tsame_ex r.tk s.tk hr.tk.n hs.tk.n
 obtain ⟨b3, c3⟩ := vsame_ex r.vh s.vh hr.v hs.v
 unfold rgA
 rw [← hn, ← ha]
 cases b2 with
 | false =>
  refine ⟨false, ?_⟩
  (refine eN Tryz.func23 Tryz.call23 fun F hF => ?_)
  (have zc1 := c1; have zc2 := c2; (repeat' (first | refine WZ ?_ | refine SG (I2 (fun hc => ?_) (fun hc => ?_)) | refine SG (fun hc => ?_) | (refine is_ops ?_; refine is_call ?_; refine SC ?_) | (refine is_ops ?_; first | refine SE ?_) | first | refine SR ?_ | refine SK (I2 (fun hc => ?_) (fun hc => ?_)) | refine SK (fun hc => ?_) | fail)) <;> clear zc1 zc2)
  all_goals exact fr0
 | true =>
  cases b3 with
  | false =>
   refine ⟨false, ?_⟩
   (refine eN Tryz.func23 Tryz.call23 fun F hF => ?_)
   (have zc1 := c1; have zc2 := c2; have zc3 := c3; (repeat' (first | refine WZ ?_ | refine SG (I2 (fun hc => ?_) (fun hc => ?_)) | refine SG (fun hc => ?_) | (refine is_ops ?_; refine is_call ?_; refine SC ?_) | (refine is_ops ?_; first | refine SE ?_) | first | refine SR ?_ | refine SK (I2 (fun hc => ?_) (fun hc => ?_)) | refine SK (fun hc => ?_) | fail)) <;> clear zc1 zc2 zc3)
   all_goals exact fr0
  | true =>
   refine ⟨(r.bk.level == s.bk.level && (r.bk.rate == s.bk.rate && r.bk.burst == s.bk.burst)), ?_⟩
   (refine eN Tryz.func23 Tryz.call23 fun F hF => ?_)
   (have zc1 := c1; have zc2 := c2; have zc3 := c3; (repeat' (first | refine WZ ?_ | refine SG (I2 (fun hc => ?_) (fun hc => ?_)) | refine SG (fun hc => ?_) | (refine is_ops ?_; refine is_call ?_; refine SC ?_) | (refine is_ops ?_; first | refine SE ?_) | first | refine SR ?_ | refine SK (I2 (fun hc => ?_) (fun hc => ?_)) | refine SK (fun hc => ?_) | fail)) <;> clear zc1 zc2 zc3)
   all_goals (first | exact fr0 | (apply fin_bool; (exact fr0); simp))
end
section
set_option maxRecDepth 4000
set_option maxHeartbeats 4000000
theorem vremove_c (l : List Vh) (hn : l.length ≤ 1000) (id : Int) (hv : vvF l = true) (hh : hasV l id = true) : CallSim Tryz.prog 158 [slA vhA l, iA id] [] (.tup [slA vhA (rmV l id), iA 0]) [] := by
 have hll := map_len vhA l
 have p2 := vvalid_x l (by omega)
 obtain ⟨k, k1, k2, k3⟩ := place_ex l id
 have p3 := vplace_c l id (by omega) k k1 k2 k3
 have hpl := has_place (id := id) hv k1 k2 k3
 rw [hv] at p2
 obtain ⟨hk, he⟩ := hpl.1 hh
 have er := rmV_some hv hk he
 have c4 := concat_c (l.take (k : Int).toNat) (l.drop ((k : Int) + 1).toNat) (by simp; omega) (by simp; omega)
 rw [show l.take (k : Int).toNat ++ l.drop ((k : Int) + 1).toNat = rmV l id by rw [er]; congr 1] at c4
 have hy := map_at vhA l k hk
 clear hpl k2 k3 er
 generalize rmV l id = l' at *
 generalize l.getD k default = x at *
 (refine eN Tryz.func158 Tryz.call158 fun F hF => ?_)
 (have zc1 := p2; have zc2 := p3; have zc3 := c4; refine WL ?_; clear zc1 zc2 zc3)
 exact fr0
theorem do5_ok (r : Rg) (hgv : gvF r = true) (tkn : List Int) (a s now : Int) (sec : List Int) (hu : usF r.tk s = true) (hs : (sec.length : Int) = 0 ∨ (sec.length : Int) = 8)
  (m1 : CallSim Tryz.prog 152 [msA ⟨5, tkn, [a], []⟩] [] (bA true) []) (o : List Vh) (c5 : CallSim Tryz.prog 158 [slA vhA r.vh, iA a] [] (.tup [slA vhA o, iA 0]) []) :
  CallSim Tryz.prog 120 [rgA r, msA ⟨5, tkn, [a], []⟩, iA s, iA now, slA yA sec] [] (.tup [rgA (rgV r o), msA ⟨14, [], [5, a], []⟩, bA false, iA 0]) [] := by
 have H := gv_b hgv
 have c1 := gvalid_x r (by have := H.vl; omega)
 rw [hgv] at c1
 have c3 := gused_c r.tk s
 rw [hu] at c3
 have c4 := rclone_c r H.b
 have c6 := ack_c ⟨5, tkn, [a], []⟩ a rfl
 rw [show msA ⟨14, [], [(⟨5, tkn, [a], []⟩ : Ms).kind, a], []⟩ = .agg [iA 14, .sl false [], .sl false [iA 5, iA a], .sl false []] from rfl] at c6
 have hls := map_len yA sec
 have hlt := map_len tkA r.tk
 have hl1 : ([a].map iA).length = 1 := rfl
 have hU : (r.tk.getD s.toNat default).used = true ∧ 0 ≤ s ∧ s < 8 := by
  unfold usF at hu
  rw [Bool.and_eq_true, decide_eq_true_eq] at hu
  exact ⟨hu.2, hu.1.1, by have := H.n8; omega⟩
 have hn8 := H.n8
 have hy := map_atI tkA r.tk s hU.2.1 (by omega)
 obtain ⟨hU, hs0, hs8⟩ := hU
 clear hu H hgv
 generalize r.tk.getD s.toNat default = x at *
 obtain ⟨xu, x1, x2, x3, x4, x5⟩ := x
 dsimp only at hU
 subst hU
 rw [show tkA ⟨true, x1, x2, x3, x4, x5⟩ = .agg [bA true, slA yA x1, iA x2, iA x3, iA x4, iA x5] from rfl] at hy
 rw [show msA ⟨14, [], [5, a], []⟩ = .agg [iA 14, .sl false [], .sl false [iA 5, iA a], .sl false []] from rfl]
 rcases hs with hs | hs
 all_goals
  (refine eN Tryz.func120 Tryz.call120 fun F hF => ?_)
  (have zc1 := c1; have zc2 := m1; have zc3 := c3; have zc4 := c4; have zc5 := c5; have zc6 := c6; refine WW ?_; clear zc1 zc2 zc3 zc4 zc5 zc6)
  exact fr0
theorem do4_ok (r : Rg) (hgv : gvF r = true) (tkn : List Int) (a b s now : Int) (sec : List Int) (hu : usF r.tk s = true) (hs : (sec.length : Int) = 0 ∨ (sec.length : Int) = 8)
  (m1 : CallSim Tryz.prog 152 [msA ⟨4, tkn, [a, b], []⟩] [] (bA true) []) (o : List Vh) (cv : CallSim Tryz.prog 191 [slA vhA r.vh, agA (agC r.ag (min r.ag.cls (r.tk.getD s.toNat default).cls)), vhA ⟨a, b⟩] [] (.tup [slA vhA o, iA 0]) []) :
  CallSim Tryz.prog 120 [rgA r, msA ⟨4, tkn, [a, b], []⟩, iA s, iA now, slA yA sec] [] (.tup [rgA (rgV r o), msA ⟨14, [], [4, a], []⟩, bA false, iA 0]) [] := by
 have H := gv_b hgv
 have c1 := gvalid_x r (by have := H.vl; omega)
 rw [hgv] at c1
 have c3 := gused_c r.tk s
 rw [hu] at c3
 have c4 := rclone_c r H.b
 have c6 : CallSim Tryz.prog 156 [msA ⟨4, tkn, [a, b], []⟩] [] (msA ⟨14, [], [4, a], []⟩) [] := by
  have hl1 : ([a, b].map iA).length = 2 := rfl
  (refine eN Tryz.func156 Tryz.call156 fun F hF => ?_)
  (refine WL ?_)
  exact fr0
 rw [show msA ⟨14, [], [4, a], []⟩ = .agg [iA 14, .sl false [], .sl false [iA 4, iA a], .sl false []] from rfl] at c6
 have hls := map_len yA sec
 have hlt := map_len tkA r.tk
 have hl1 : ([a, b].map iA).length = 2 := rfl
 have hU : (r.tk.getD s.toNat default).used = true ∧ 0 ≤ s ∧ s < 8 := by
  unfold usF at hu
  rw [Bool.and_eq_true, decide_eq_true_eq] at hu
  exact ⟨hu.2, hu.1.1, by have := H.n8; omega⟩
 have hn8 := H.n8
 have hy := map_atI tkA r.tk s hU.2.1 (by omega)
 obtain ⟨hU, hs0, hs8⟩ := hU
 have c5 := gregister_c r a b s hn8 hs0 hs8 o 0 cv
 clear hu H hgv cv
 generalize r.tk.getD s.toNat default = x at *
 obtain ⟨xu, x1, x2, x3, x4, x5⟩ := x
 dsimp only at hU
 subst hU
 rw [show tkA ⟨true, x1, x2, x3, x4, x5⟩ = .agg [bA true, slA yA x1, iA x2, iA x3, iA x4, iA x5] from rfl] at hy
 rw [show msA ⟨14, [], [4, a], []⟩ = .agg [iA 14, .sl false [], .sl false [iA 4, iA a], .sl false []] from rfl]
 rcases hs with hs | hs
 all_goals
  (refine eN Tryz.func120 Tryz.call120 fun F hF => ?_)
  (have zc1 := c1; have zc2 := m1; have zc3 := c3; have zc4 := c4; have zc5 := c5; have zc6 := c6; refine WW ?_; clear zc1 zc2 zc3 zc4 zc5 zc6)
  exact fr0
theorem vv1 (a b : Int) (h1 : 0 ≤ a ∧ a ≤ 4294967295) (h2 : 0 ≤ b ∧ b ≤ 3) : vvF [⟨a, b⟩] = true := by
 unfold vvF
 rw [show ([⟨a, b⟩] : List Vh).length = 1 from rfl]
 simp only [List.range_one, List.all_cons, List.all_nil, Bool.and_true]
 unfold vokF
 rw [decide_eq_true ⟨h1.1, h1.2, h2.1, h2.2, fun h => by omega⟩]
 rfl
structure Fresh (d : Dsk) (a : Ag) : Prop where
 n : d.rg.num = 0
 ag : d.rg.ag = a
 t : d.rg.tk = tkN a
 b : d.rg.bk.rate = a.rate ∧ d.rg.bk.burst = a.burst
 r : d.dr = []
theorem gv_fresh {d : Dsk} {a : Ag} (h : Fresh d a) (hv : AgV a) (hvv : vvF d.rg.vh = true) (hl : 0 ≤ d.rg.bk.level ∧ d.rg.bk.level ≤ a.burst) : gvF d.rg = true := by
 have h2 := hv.b
 have h3 := hv.t
 unfold gvF
 rw [h.n, h.ag, h.t, (avF_iff _).2 hv, tvF_new a hv, hvv]
 have hb : bvF d.rg.bk = true := by
  unfold bvF
  rw [h.b.1, h.b.2]
  exact decide_eq_true ⟨by omega, by omega, by omega, by omega, by omega, by omega⟩
 rw [hb, decide_eq_true (by decide : (0 : Int) ≤ 0 ∧ (0 : Int) < 4), decide_eq_true h.b]
 rfl
theorem us_fresh {d : Dsk} {a : Ag} (h : Fresh d a) : usF d.rg.tk 0 = true := by
 rw [h.t]
 rfl
theorem t0_fresh {d : Dsk} {a : Ag} (h : Fresh d a) : T0 d := by
 unfold T0
 rw [h.t, h.ag]
 rfl
theorem fresh_rt {d : Dsk} {a : Ag} (h : Fresh d a) (k : Int) (hk : costs k = true) (hl : 0 < d.rg.bk.level) : Fresh (rtD d k) a ∧ (rtD d k).rg.bk.level = d.rg.bk.level - 1 ∧ (rtD d k).rg.vh = d.rg.vh ∧ (rtD d k).rq = d.rq ∧ (rtD d k).rg.tk = d.rg.tk := by
 unfold rtD
 rw [if_pos hk]
 refine ⟨⟨h.n, h.ag, h.t, ?_, h.r⟩, tak1_l hl, rfl, rfl, rfl⟩
 dsimp only
 unfold tak1
 rw [if_neg (by omega)]
 exact h.b
def dkV (d : Dsk) (v : List Vh) (q : List Rq) : Dsk := ⟨rgV d.rg v, q, d.dr, d.au⟩
theorem fresh_v {d : Dsk} {a : Ag} (h : Fresh d a) (v : List Vh) (q : List Rq) : Fresh (dkV d v q) a := ⟨h.n, h.ag, h.t, h.b, h.r⟩
theorem msv {k : Int} {tkn ar : List Int} {f : Nat} (hf : kdP k f) (ht : tkn.length = 10) (hl : ar.length = f) (ha : ∀ x ∈ ar, 0 ≤ x ∧ x ≤ 4294967295) (hl3 : ar.length ≤ 1000) : CallSim Tryz.prog 152 [msA ⟨k, tkn, ar, []⟩] [] (bA true) [] := by
 obtain ⟨b, c, h⟩ := mvalid_x ⟨k, tkn, ar, []⟩ ⟨by show tkn.length ≤ 1000; omega, hl3, Nat.zero_le _⟩
 have hb := (h f hf).2 ⟨ht, rfl, hl, fun i hi => ?_⟩
 ·rw [hb] at c; exact c
 ·have : ar.getD i default ∈ ar := by
   rw [List.getD_eq_getElem?_getD, List.getElem?_eq_getElem (by omega)]
   exact List.getElem_mem _
  have := ha _ this
  unfold nmB
  exact decide_eq_true this
theorem reg_h {c : Cf} {d : Dsk} {a : Ag} (hI : DskI c d) (hF : Fresh d a) (hv : AgV a) (s now v cl : Int) {p : List Int} (hR : Rt c d 4 now [v, cl] p) (hlv : 0 < d.rg.bk.level) (hvh : d.rg.vh = []) (h1 : 0 ≤ v ∧ v ≤ 4294967295) (h2 : 0 ≤ cl ∧ cl ≤ a.cls) (h3 : 0 < a.lim.getD cl.toNat default) :
  CallSim Tryz.prog 16 [cfA c, dskA d, iA s, itA ⟨0, 4, p⟩, iA now] [] (hdT d.rg.num 4 ⟨dkV (rtD d 4) [⟨v, cl⟩] (rtD d 4).rq, ackM 4 v, -1, 0⟩) [] := by
 have hI1 := rtD_i hI 4 (fun _ => hlv)
 obtain ⟨f1, f2, f3, f4, f5⟩ := fresh_rt hF 4 rfl hlv
 have hvc := hv.c
 have hsl : a.sec.length = 8 := by have := hv.s; omega
 have hbl := hI1.bl
 rw [hI1.bb.symm, f1.b.2] at hbl
 have hg := gv_fresh f1 hv (by rw [f3, hvh]; rfl) hbl
 have hcls : min (rtD d 4).rg.ag.cls ((rtD d 4).rg.tk.getD (0 : Int).toNat default).cls = a.cls := by
  rw [f1.t, f1.ag]
  show min a.cls a.cls = a.cls
  omega
 have cv := vregister_c [] (by simp) (agC a a.cls) hv.l (by show a.cls ≤ 3; omega) ⟨v, cl⟩ rfl h1.1 h1.2 h2.1 h2.2 rfl (by show ((0 : Nat) : Int) < a.lim.getD cl.toNat default; omega) (by simp) 0 (by simp) (fun i h => by omega) (fun h => by simp at h)
 have m1 := msv (k := 4) (tkn := d.rg.num :: 0 :: d.rg.ag.sec) (ar := [v, cl]) (.inr (.inr (.inl ⟨rfl, rfl⟩))) (by rw [hF.ag]; simp [hsl]) rfl (fun x hx => by simp at hx; rcases hx with rfl | rfl <;> omega) (by simp)
 have q1 := do4_ok (rtD d 4).rg hg _ v cl 0 now (secD (rtD d 4)) (us_fresh f1) (.inl (by unfold secD; rw [f1.r]; rfl)) m1 [⟨v, cl⟩] (by rw [f3, hvh, hcls, f1.ag]; exact cv)
 have q2 := dreg_c (rtD d 4) ⟨4, d.rg.num :: 0 :: d.rg.ag.sec, [v, cl], []⟩ 0 now hI1.v hI1.dn _ _ false 0 q1 (fun h => by cases h)
 have w1 := hP_reg c d s now 4 p _ _ hR.k0.1 hR.k0.2 hR.dec _ 0 hR.open' (.inr (.inr (.inl rfl))) _ _ 0 (by rw [hR.dk]; exact q2)
 have w2 := HP_of c d s now ⟨0, 4, p⟩ hI.bd _ _ _ _ w1
 rw [if_pos rfl, hdM_yes] at w2
 have hn : (rtD d 4).rg.num = d.rg.num := by rw [f1.n, hF.n]
 have e : dgD (rtD d 4) ⟨4, d.rg.num :: 0 :: d.rg.ag.sec, [v, cl], []⟩ (rgV (rtD d 4).rg [⟨v, cl⟩]) false 0 = dkV (rtD d 4) [⟨v, cl⟩] (rtD d 4).rq := rfl
 rw [e] at w2
 rw [← hn]
 exact w2
theorem rem_h {c : Cf} {d : Dsk} {a : Ag} (hI : DskI c d) (hF : Fresh d a) (hv : AgV a) (s now v cl : Int) {p : List Int} (hR : Rt c d 5 now [v] p) (hlv : 0 < d.rg.bk.level) (hvh : d.rg.vh = [⟨v, cl⟩]) (h1 : 0 ≤ v ∧ v ≤ 4294967295) (h2 : 0 ≤ cl ∧ cl ≤ 3) :
  CallSim Tryz.prog 16 [cfA c, dskA d, iA s, itA ⟨0, 5, p⟩, iA now] [] (hdT d.rg.num 5 ⟨dkV (rtD d 5) [] (witQ d.rq v), ackM 5 v, -1, 0⟩) [] := by
 have hI1 := rtD_i hI 5 (fun _ => hlv)
 obtain ⟨f1, f2, f3, f4, f5⟩ := fresh_rt hF 5 rfl hlv
 have hsl : a.sec.length = 8 := by have := hv.s; omega
 have hbl := hI1.bl
 rw [hI1.bb.symm, f1.b.2] at hbl
 have hvv := vv1 v cl h1 h2
 have hg := gv_fresh f1 hv (by rw [f3, hvh]; exact hvv) hbl
 have cv := vremove_c [⟨v, cl⟩] (by simp) v hvv (by simp [hasV])
 have er : rmV [⟨v, cl⟩] v = [] := by simp [rmV]
 rw [er] at cv
 have m1 := msv (k := 5) (tkn := d.rg.num :: 0 :: d.rg.ag.sec) (ar := [v]) (.inr (.inr (.inr ⟨rfl, rfl⟩))) (by rw [hF.ag]; simp [hsl]) rfl (fun x hx => by simp at hx; omega) (by simp)
 have q1 := do5_ok (rtD d 5).rg hg _ v 0 now (secD (rtD d 5)) (us_fresh f1) (.inl (by unfold secD; rw [f1.r]; rfl)) m1 [] (by rw [f3, hvh]; exact cv)
 have q2 := dreg_c (rtD d 5) ⟨5, d.rg.num :: 0 :: d.rg.ag.sec, [v], []⟩ 0 now hI1.v hI1.dn _ _ false 0 q1 (fun _ => ⟨v, rfl⟩)
 have w1 := hP_reg c d s now 5 p _ _ hR.k0.1 hR.k0.2 hR.dec _ 0 hR.open' (.inr (.inr (.inr rfl))) _ _ 0 (by rw [hR.dk]; exact q2)
 have w2 := HP_of c d s now ⟨0, 5, p⟩ hI.bd _ _ _ _ w1
 rw [if_pos rfl, hdM_yes] at w2
 have hn : (rtD d 5).rg.num = d.rg.num := by rw [f1.n, hF.n]
 have e : dgD (rtD d 5) ⟨5, d.rg.num :: 0 :: d.rg.ag.sec, [v], []⟩ (rgV (rtD d 5).rg []) false 0 = dkV (rtD d 5) [] (witQ d.rq v) := rfl
 rw [e] at w2
 rw [← hn]
 exact w2
theorem sub_h {c : Cf} {d : Dsk} (hI : DskI c d) (s now : Int) (n0 : 0 ≤ now) (n1 : now ≤ 1073741824) (id v life : Int) (qs : List Qd) (hq : qs.length ≤ 3) (hp : ∀ q ∈ qs, 0 ≤ q.j ∧ 0 ≤ q.p) {p : List Int} (hR : Rt c d 6 now (id :: v :: life :: q4L qs) p) (hlv : 0 < d.rg.bk.level) (he : dsE c (rtD d 6) ((rtD d 6).rg.tk.getD (0 : Int).toNat default).cls id v life now qs = 0) :
  CallSim Tryz.prog 16 [cfA c, dskA d, iA s, itA ⟨0, 6, p⟩, iA now] [] (hdT d.rg.num 6 ⟨dkQ (rtD d 6) (insQ (rtD d 6).rq (newQ id (findV (rtD d 6).rg.vh v) life (qs.map (mwQ now)) now)), ackM 6 id, -1, 0⟩) [] := by
 have hI1 := rtD_i hI 6 (fun _ => hlv)
 have htk : (rtD d 6).rg.tk.length = 8 := hI1.t8
 have hnum : (rtD d 6).rg.num = d.rg.num := by unfold rtD; split <;> rfl
 have k4 := ask6_c c (rtD d 6) (d.rg.num :: 0 :: d.rg.ag.sec) id v life 0 now qs hI1.bd hI1.v (by omega) (by omega) hq hp n0 n1
 unfold dsL at k4
 rw [if_pos he, he] at k4
 have k5 := hP_askO c d s now 6 p _ _ hR.k0.1 hR.k0.2 hR.dec _ 0 hR.open' (.inl rfl) id _ rfl _ (by rw [hR.dk]; exact k4)
 rw [hR.dk] at k5
 have k6 := HP_of c d s now ⟨0, 6, p⟩ hI.bd _ _ _ _ k5
 rw [hdM_yes] at k6
 rw [← hnum]
 exact k6
theorem can_h {c : Cf} {d : Dsk} (hI : DskI c d) (s now : Int) (id : Int) {p : List Int} (hR : Rt c d 8 now [id] p) (hlv : 0 < d.rg.bk.level) (hh : hasQ d.rq id = true) :
  CallSim Tryz.prog 16 [cfA c, dskA d, iA s, itA ⟨0, 8, p⟩, iA now] [] (hdT d.rg.num 8 ⟨dkQ (rtD d 8) (canQ d.rq id), ackM 8 id, -1, 0⟩) [] := by
 have hI1 := rtD_i hI 8 (fun _ => hlv)
 have hnum : (rtD d 8).rg.num = d.rg.num := by unfold rtD; split <;> rfl
 have hrq : (rtD d 8).rq = d.rq := by unfold rtD; split <;> rfl
 have k4 := ask8_c c (rtD d 8) (d.rg.num :: 0 :: d.rg.ag.sec) id 0 now hI1.v
 rw [hrq, if_pos hh, if_pos hh] at k4
 have k5 := hP_askO c d s now 8 p _ _ hR.k0.1 hR.k0.2 hR.dec _ 0 hR.open' (.inr (.inr rfl)) id _ rfl _ (by rw [hR.dk]; exact k4)
 rw [hR.dk] at k5
 have k6 := HP_of c d s now ⟨0, 8, p⟩ hI.bd _ _ _ _ k5
 rw [hdM_yes] at k6
 rw [← hnum]
 exact k6
theorem list_h {c : Cf} {d : Dsk} (hI : DskI c d) (s now : Int) {p : List Int} (hR : Rt c d 9 now [] p) : CallSim Tryz.prog 16 [cfA c, dskA d, iA s, itA ⟨0, 9, p⟩, iA now] [] (hdT d.rg.num 9 ⟨d, listM d, -1, 0⟩) [] := by
 have hd : rtD d 9 = d := rfl
 have k5 := hP_tell c d s now 9 p _ [] hR.k0.1 hR.k0.2 hR.dec _ 0 hR.open' (.inr (.inl rfl)) (listM d) (by rw [hR.dk, hd]; exact tellList_c d now hI.bd)
 rw [hR.dk, hd] at k5
 have k6 := HP_of c d s now ⟨0, 9, p⟩ hI.bd _ _ _ _ k5
 rw [hdM_yes] at k6
 exact k6
end
end Av
end Go.Proofs.YtaikgchmpieooaaGreat
