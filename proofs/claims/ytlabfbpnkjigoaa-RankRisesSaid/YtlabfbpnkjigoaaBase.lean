/- Common words for the walks: a slice that came in reads as a list of integers; worlds that extend a world. -/
import Derived.Test.YtlabfbpnkjigoaaProg
import Derived.WalkKit
import Derived.ProofKit
import Derived.Below
import Derived.Deep.QuietTactic
import Derived.BigQuiet
import Derived.WalkLawsBesides
import Derived.Deep.RegionHeld3
import Derived.Lib.Hide
namespace Go.Proofs.Ytlabfbpnkjigoaa
open Go.RowKit

/-- The element at a place; 0 beyond the end. -/
def atI (xs : List Int) (j : Nat) : Int := xs.getD j 0
/-- The slice '.slice A n c' holds the integers xs, below the heap's end. -/
def RdI (w : World) (A : Option Addr) (n c : Nat) (xs : List Int) : Prop :=
  xs.length = n ∧ n ≤ c ∧ n ≤ 1099511627776 ∧ (0 < n → ∃ b o, A = some ⟨b, o, none⟩ ∧ b < w.heap.size ∧ ∀ j, j < n → w.cell? ⟨b, o + j, none⟩ = some (.int .i64 (atI xs j)))

theorem RdI.below {w w' : World} {A : Option Addr} {n c : Nat} {xs : List Int} (h : RdI w A n c xs) (hb : Below w.heap.size w w') : RdI w' A n c xs := by
  obtain ⟨h1, h2, h2', h3⟩ := h
  refine ⟨h1, h2, h2', fun hn => ?_⟩
  obtain ⟨b, o, e, hlt, hc⟩ := h3 hn
  exact ⟨b, o, e, Nat.lt_of_lt_of_le hlt hb.size, fun j hj => (hb.cell (p := ⟨b, o + j, none⟩) hlt).trans (hc j hj)⟩
theorem RdI.drew {w : World} {A : Option Addr} {n c : Nat} {xs : List Int} (h : RdI w A n c xs) : RdI w.drew A n c xs := h
theorem RdI.alloc {w : World} {A : Option Addr} {n c : Nat} {xs : List Int} (h : RdI w A n c xs) (o : Obj) : RdI (w.alloc o) A n c xs :=
  h.below ((Below.refl _ _).alloc (Nat.le_refl _) o)

theorem ret_int {k : IntKind} {a b : Int} (h : a = b) : Ending.returned (.int k a) = .returned (.int k b) := by rw [h]
theorem ret_bool {a b : Bool} (h : a = b) : Ending.returned (.bool a) = .returned (.bool b) := by rw [h]
theorem below_drewN {B : Nat} {a w : World} (h : Below B a w) (n : Nat) : Below B a (w.drewN n) := ⟨h.os, h.tape, h.output, h.size, h.block⟩

/-- A claim. -/
structure Cl where
  ag : Int
  id : Int
  ph : Int
  k : Int
  si : Int
instance : Inhabited Cl := ⟨⟨0, 0, 0, 0, 0⟩⟩
def atC (cs : List Cl) (j : Nat) : Cl := cs.getD j default
/-- The slice '.slice A n c' holds the claims cs. -/
def RdC (w : World) (A : Option Addr) (n c : Nat) (cs : List Cl) : Prop :=
  cs.length = n ∧ n ≤ c ∧ n ≤ 1099511627776 ∧ (0 < n → ∃ b o, A = some ⟨b, o, none⟩ ∧ b < w.heap.size ∧ ∀ j, j < n →
    w.cell? ⟨b, o + j * 5, none⟩ = some (.int .i64 (atC cs j).ag) ∧ w.cell? ⟨b, o + j * 5 + 1, none⟩ = some (.int .i64 (atC cs j).id) ∧
    w.cell? ⟨b, o + j * 5 + 2, none⟩ = some (.int .i64 (atC cs j).ph) ∧ w.cell? ⟨b, o + j * 5 + 3, none⟩ = some (.int .i64 (atC cs j).k) ∧
    w.cell? ⟨b, o + j * 5 + 4, none⟩ = some (.int .i64 (atC cs j).si))
theorem RdC.below {w w' : World} {A : Option Addr} {n c : Nat} {cs : List Cl} (h : RdC w A n c cs) (hb : Below w.heap.size w w') : RdC w' A n c cs := by
  obtain ⟨h1, h2, h2', h3⟩ := h
  refine ⟨h1, h2, h2', fun hn => ?_⟩
  obtain ⟨b, o, e, hlt, hc⟩ := h3 hn
  refine ⟨b, o, e, Nat.lt_of_lt_of_le hlt hb.size, fun j hj => ?_⟩
  obtain ⟨c0, c1, c2, c3, c4⟩ := hc j hj
  have hk : ∀ i, w'.cell? ⟨b, i, none⟩ = w.cell? ⟨b, i, none⟩ := fun i => hb.cell (p := ⟨b, i, none⟩) hlt
  simp only [hk]
  exact ⟨c0, c1, c2, c3, c4⟩
theorem RdC.alloc {w : World} {A : Option Addr} {n c : Nat} {cs : List Cl} (h : RdC w A n c cs) (o : Obj) : RdC (w.alloc o) A n c cs :=
  h.below ((Below.refl _ _).alloc (Nat.le_refl _) o)

/-- A world in which all that was in w is as it was. -/
structure Ext (w : World) where
  world : World
  below : Below w.heap.size w world
namespace Ext
variable {w : World}
@[go_sem] theorem cell_ (x : Ext w) (b o : Nat) (h : b < w.heap.size) : x.world.cell? ⟨b, o, none⟩ = w.cell? ⟨b, o, none⟩ := x.below.cell (p := ⟨b, o, none⟩) h
@[go_sem] theorem frozen_ (x : Ext w) (b o : Nat) (h : b < w.heap.size) : x.world.frozen? ⟨b, o, none⟩ = w.frozen? ⟨b, o, none⟩ := x.below.frozen (p := ⟨b, o, none⟩) h
theorem size_ (x : Ext w) : w.heap.size ≤ x.world.heap.size := x.below.size
@[go_sem] theorem lt_ (x : Ext w) (b : Nat) (h : b < w.heap.size) : (b < x.world.heap.size) = True := eq_true (Nat.lt_of_lt_of_le h x.below.size)
@[go_sem] theorem le_ (x : Ext w) (b : Nat) (h : b ≤ w.heap.size) : (b ≤ x.world.heap.size) = True := eq_true (Nat.le_trans h x.below.size)
@[go_sem] theorem lt_add (x : Ext w) (b n : Nat) (h : b < w.heap.size) : (b < x.world.heap.size + n) = True := eq_true (by have := x.below.size; omega)
@[go_sem] theorem le_add (x : Ext w) (b n : Nat) (h : b ≤ w.heap.size) : (b ≤ x.world.heap.size + n) = True := eq_true (by have := x.below.size; omega)
def refl (w : World) : Ext w := ⟨w, Below.refl _ _⟩
instance : Nonempty (Ext w) := ⟨refl w⟩
def step (x : Ext w) {v : World} (h : Below x.world.heap.size x.world v) : Ext w := ⟨v, x.below.trans (h.mono x.below.size)⟩
end Ext
theorem ext_below {B : Nat} {a w : World} (h : Below B a w) (x : Ext w) (hB : B ≤ w.heap.size) : Below B a x.world := h.trans (x.below.mono hB)
theorem belowExt {a w : World} (h : Below a.heap.size a w) (x : Ext w) : Below a.heap.size a x.world := h.trans (x.below.mono h.size)
theorem belowAlloc {a w : World} (h : Below a.heap.size a w) (o : Obj) : Below a.heap.size a (w.alloc o) := h.alloc h.size o
theorem RdC.ext {w : World} {A : Option Addr} {n c : Nat} {xs : List Cl} (h : RdC w A n c xs) (x : Ext w) : RdC x.world A n c xs := h.below x.below
theorem RdI.ext {w : World} {A : Option Addr} {n c : Nat} {xs : List Int} (h : RdI w A n c xs) (x : Ext w) : RdI x.world A n c xs := h.below x.below

/-- A contract that only makes memory, met in a world that extends w. -/
theorem Calls.ext {P : Program} {f : FuncId} {args : Array Value} {w : World} {x : Ext w} {v : Value}
    (h : Calls P f args x.world fun e w' => e = .returned v ∧ Below x.world.heap.size x.world w') : Calls P f args x.world fun e w' => e = .returned v ∧ ∃ y : Ext w, w' = y.world :=
  h.mono fun _ _ ⟨he, hb⟩ => ⟨he, x.step hb, rfl⟩
theorem Calls.ext0 {P : Program} {f : FuncId} {args : Array Value} {w : World} {v : Value}
    (h : Calls P f args w fun e w' => e = .returned v ∧ Below w.heap.size w w') : Calls P f args w fun e w' => e = .returned v ∧ ∃ y : Ext w, w' = y.world :=
  h.mono fun _ _ ⟨he, hb⟩ => ⟨he, ⟨_, hb⟩, rfl⟩

theorem Calls.below0 {P : Program} {f : FuncId} {args : Array Value} {w : World} {v : Value} (h : Calls P f args w fun e w' => e = .returned v ∧ w' = w) : Calls P f args w fun e w' => e = .returned v ∧ Below w.heap.size w w' :=
  h.mono fun _ _ ⟨he, hb⟩ => ⟨he, hb ▸ Below.refl _ _⟩
theorem Calls.extD {P : Program} {f : FuncId} {args : Array Value} {w : World} {x : Ext w} {v : Value}
    (h : Calls P f args x.world.drew fun e w' => e = .returned v ∧ Below x.world.drew.heap.size x.world.drew w') : Calls P f args x.world.drew fun e w' => e = .returned v ∧ ∃ y : Ext w, w' = y.world :=
  h.mono fun _ _ ⟨he, hb⟩ => ⟨he, x.step (((Below.refl _ _).drew).trans hb), rfl⟩

theorem wp_region_ext_lit {P : Program} {id : Nat} {Q : Exit → Act → World → Prop} {a : Act} {w : World} {l : List Oper} (hm : P.follows .mixedOrders = true) (hB : Region.lexB .any l.toArray = true)
    (h : wpQuiet P l.toArray (fun w' => ∃ x : Ext w, w' = x.world) (fun a' => ∀ w', (∃ x : Ext w, w' = x.world) → Q .normal a' w') l a) : (Code.region id l.toArray true).wp P Q a w :=
  wp_region_quiet (C := fun w' => ∃ x : Ext w, w' = x.world) hm hB ⟨⟨w.drew, (Below.refl _ _).drew⟩, rfl⟩ (by simpa using h)
theorem wp_region_ext_lit2 {P : Program} {id : Nat} {Q : Exit → Act → World → Prop} {a : Act} {w : World} {x : Ext w} {l : List Oper} (hm : P.follows .mixedOrders = true) (hB : Region.lexB .any l.toArray = true)
    (h : wpQuiet P l.toArray (fun w' => ∃ x : Ext w, w' = x.world) (fun a' => ∀ w', (∃ x : Ext w, w' = x.world) → Q .normal a' w') l a) : (Code.region id l.toArray true).wp P Q a x.world :=
  wp_region_quiet (C := fun w' => ∃ x : Ext w, w' = x.world) hm hB ⟨x.step ((Below.refl _ _).drew), rfl⟩ (by simpa using h)
theorem wpQuiet_ext {P : Program} {l : List Oper} {w : World} {Q : Exit → Act → World → Prop} {a : Act} (h : ∀ x : Ext w, Q .normal a x.world) :
    wpQuiet P l.toArray (fun w' => ∃ x : Ext w, w' = x.world) (fun a' => ∀ w', (∃ x : Ext w, w' = x.world) → Q .normal a' w') [] a :=
  fun _ ⟨x, hx⟩ => hx ▸ h x

end Go.Proofs.Ytlabfbpnkjigoaa
