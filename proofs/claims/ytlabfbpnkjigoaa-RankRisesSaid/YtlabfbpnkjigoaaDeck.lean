/- The deck of numbers: its words, Mod, New, Next, Range, Left. -/
import Derived.Test.YtlabfbpnkjigoaaBase
namespace Go.Proofs.Ytlabfbpnkjigoaa
open Go.RowKit

/-- The deck in block bd has the numbers r left; its list lies below block B. -/
def Dk (w : World) (B bd : Nat) (r : List Int) : Prop :=
  ∃ (A : Option Addr) (n c at_ : Nat) (xs : List Int), w.heap[bd]? = some (.cells #[.slice A n c, .int .i64 at_] 71 (0, 0)) ∧ B ≤ bd ∧ at_ ≤ n ∧ r = xs.drop at_ ∧
    xs.length = n ∧ n ≤ c ∧ c ≤ 9223372036854775807 ∧ (0 < n → ∃ b o, A = some ⟨b, o, none⟩ ∧ b < B ∧ ∀ j, j < n → w.cell? ⟨b, o + j, none⟩ = some (.int .i64 (atI xs j)))

theorem Dk.keep {w w' : World} {B bd : Nat} {r : List Int} (h : Dk w B bd r) (h1 : ∀ k, k < B → w'.heap[k]? = w.heap[k]?) (h2 : w'.heap[bd]? = w.heap[bd]?) : Dk w' B bd r := by
  obtain ⟨A, n, c, at_, xs, g1, g2, g3, g4, g5, g6, g7, g8⟩ := h
  refine ⟨A, n, c, at_, xs, h2.trans g1, g2, g3, g4, g5, g6, g7, fun hn => ?_⟩
  obtain ⟨b, o, e, hb, hc⟩ := g8 hn
  exact ⟨b, o, e, hb, fun j hj => (World.cell?_of_block (a := ⟨b, o + j, none⟩) (h1 b hb)).trans (hc j hj)⟩
theorem Dk.lt {w : World} {B bd : Nat} {r : List Int} (h : Dk w B bd r) : bd < w.heap.size := by
  obtain ⟨A, n, c, at_, xs, g1, _⟩ := h
  exact (Array.getElem?_eq_some_iff.1 g1).1
theorem Dk.le {w : World} {B bd : Nat} {r : List Int} (h : Dk w B bd r) : B ≤ bd := by
  obtain ⟨A, n, c, at_, xs, _, g, _⟩ := h
  exact g
theorem Dk.drew {w : World} {B bd : Nat} {r : List Int} (h : Dk w B bd r) : Dk w.drew B bd r := h
theorem Dk.drewN {w : World} {B bd : Nat} {r : List Int} (h : Dk w B bd r) (n : Nat) : Dk (w.drewN n) B bd r := h
theorem Dk.alloc {w : World} {B bd : Nat} {r : List Int} (h : Dk w B bd r) (o : Obj) : Dk (w.alloc o) B bd r :=
  h.keep (fun k hk => Below.heap_alloc w o k (Nat.lt_trans (Nat.lt_of_lt_of_le hk h.le) h.lt)) (Below.heap_alloc w o bd h.lt)
theorem Dk.setCell {w : World} {B bd : Nat} {r : List Int} (h : Dk w B bd r) {p : Addr} (hp : B ≤ p.block) (hne : bd ≠ p.block) (u : Value) : Dk (w.setCell p u) B bd r :=
  h.keep (fun k hk => Below.heap_setCell w p u k (by omega)) (Below.heap_setCell w p u bd hne)
theorem Dk.ext {w : World} {B bd : Nat} {r : List Int} (h : Dk w B bd r) (x : Ext w) : Dk x.world B bd r :=
  h.keep (fun k hk => x.below.block k (Nat.lt_trans (Nat.lt_of_lt_of_le hk h.le) h.lt)) (x.below.block bd h.lt)
theorem Dk.grown {w w' : World} {B bd : Nat} {r : List Int} (h : Dk w B bd r) {row : Option Nat} (hg : w.grownBy w' row) (hr : ∀ k, row = some k → B ≤ k ∧ k ≠ bd) : Dk w' B bd r :=
  h.keep (fun k hk => hg.block k (Nat.lt_trans (Nat.lt_of_lt_of_le hk h.le) h.lt) (fun e => by have := (hr k e.symm).1; omega)) (hg.block bd h.lt (fun e => (hr bd e.symm).2 rfl))

/-- A world in which all that was in w is as it was, but for block bd. -/
structure ExtD (bd : Nat) (w : World) where
  world : World
  grown : w.grownBy world (some bd)
theorem grown_trans' {a b c : World} {row : Option Nat} (h : a.grownBy b row) (k : b.grownBy c row) : a.grownBy c row :=
  ⟨k.os.trans h.os, k.tape.trans h.tape, k.output.trans h.output, Nat.le_trans h.size k.size, fun i hi hne => (k.block i (Nat.lt_of_lt_of_le hi h.size) hne).trans (h.block i hi hne)⟩
theorem grown_refl (a : World) (row : Option Nat) : a.grownBy a row := ⟨rfl, rfl, rfl, Nat.le_refl _, fun _ _ _ => rfl⟩
theorem grown_alloc' {a w : World} {row : Option Nat} (h : a.grownBy w row) (o : Obj) : a.grownBy (w.alloc o) row := grown_trans' h (World.grownBy_alloc w o row)
theorem grown_drew {a w : World} {row : Option Nat} (h : a.grownBy w row) : a.grownBy w.drew row := ⟨h.os, h.tape, h.output, h.size, h.block⟩
theorem grown_drewN {a w : World} {row : Option Nat} (h : a.grownBy w row) (n : Nat) : a.grownBy (w.drewN n) row := ⟨h.os, h.tape, h.output, h.size, h.block⟩
theorem grown_ext {a w : World} {row : Option Nat} (h : a.grownBy w row) (x : Ext w) : a.grownBy x.world row :=
  grown_trans' h ⟨x.below.os, x.below.tape, x.below.output, x.below.size, fun k hk _ => x.below.block k hk⟩
theorem grown_setNew {a w : World} {row : Option Nat} (h : a.grownBy w row) {p : Addr} (hp : a.heap.size ≤ p.block) (u : Value) : a.grownBy (w.setCell p u) row :=
  ⟨h.os, h.tape, h.output, by simpa [World.setCell] using h.size, fun k hk hne => (Below.heap_setCell w p u k (by omega)).trans (h.block k hk hne)⟩
theorem grown_setRow {a w : World} {g : Nat} (h : a.grownBy w (some g)) {p : Addr} (hp : p.block = g) (u : Value) : a.grownBy (w.setCell p u) (some g) :=
  ⟨h.os, h.tape, h.output, by simpa [World.setCell] using h.size, fun k hk hne => (Below.heap_setCell w p u k (fun e => hne (by rw [e, hp]))).trans (h.block k hk hne)⟩
theorem grown_row {a w w' : World} {row r2 : Option Nat} (h : a.grownBy w row) (hg : w.grownBy w' r2) (hr : ∀ k, r2 = some k → a.heap.size ≤ k) : a.grownBy w' row :=
  ⟨hg.os.trans h.os, hg.tape.trans h.tape, hg.output.trans h.output, Nat.le_trans h.size hg.size, fun k hk hne => (hg.block k (Nat.lt_of_lt_of_le hk h.size) (fun e => by have := hr k e.symm; omega)).trans (h.block k hk hne)⟩
/-- Where the one row that was written is new, all that was is as it was. -/
theorem below_of_grown {a w : World} {g : Nat} (h : a.grownBy w (some g)) (hg : a.heap.size ≤ g) : Below a.heap.size a w :=
  ⟨h.os, h.tape, h.output, h.size, fun k hk => h.block k hk (fun e => by injection e; omega)⟩
theorem below_grown {B : Nat} {a w w' : World} {row : Option Nat} (h : Below B a w) (hg : w.grownBy w' row) (hB : B ≤ w.heap.size) (hr : ∀ k, row = some k → B ≤ k) : Below B a w' := h.grown hg hB hr

namespace ExtD
variable {bd : Nat} {w : World}
@[go_sem] theorem cell_ (x : ExtD bd w) (b o : Nat) (h : b < w.heap.size) (hne : b ≠ bd) : x.world.cell? ⟨b, o, none⟩ = w.cell? ⟨b, o, none⟩ :=
  World.cell?_of_block (a := ⟨b, o, none⟩) (x.grown.block b h (fun e => hne (by injection e)))
@[go_sem] theorem frozen_ (x : ExtD bd w) (b o : Nat) (h : b < w.heap.size) (hne : b ≠ bd) : x.world.frozen? ⟨b, o, none⟩ = w.frozen? ⟨b, o, none⟩ :=
  World.frozen?_of_block (a := ⟨b, o, none⟩) (x.grown.block b h (fun e => hne (by injection e)))
theorem size_ (x : ExtD bd w) : w.heap.size ≤ x.world.heap.size := x.grown.size
@[go_sem] theorem lt_ (x : ExtD bd w) (b : Nat) (h : b < w.heap.size) : (b < x.world.heap.size) = True := eq_true (Nat.lt_of_lt_of_le h x.grown.size)
@[go_sem] theorem le_ (x : ExtD bd w) (b : Nat) (h : b ≤ w.heap.size) : (b ≤ x.world.heap.size) = True := eq_true (Nat.le_trans h x.grown.size)
@[go_sem] theorem lt_add (x : ExtD bd w) (b n : Nat) (h : b < w.heap.size) : (b < x.world.heap.size + n) = True := eq_true (by have := x.grown.size; omega)
@[go_sem] theorem le_add (x : ExtD bd w) (b n : Nat) (h : b ≤ w.heap.size) : (b ≤ x.world.heap.size + n) = True := eq_true (by have := x.grown.size; omega)
def refl (w : World) : ExtD bd w := ⟨w, grown_refl _ _⟩
instance : Nonempty (ExtD bd w) := ⟨refl w⟩
def step (x : ExtD bd w) {v : World} (h : x.world.grownBy v (some bd)) : ExtD bd w := ⟨v, grown_trans' x.grown h⟩
end ExtD
theorem grown_extD {a w : World} {bd : Nat} (h : a.grownBy w (some bd)) (x : ExtD bd w) : a.grownBy x.world (some bd) := grown_trans' h x.grown

/-- A contract of a function that takes from the deck. -/
theorem Calls.deck {P : Program} {f : FuncId} {args : Array Value} {w : World} {B bd : Nat} {r : List Int} {v : Value} {x : ExtD bd w}
    (h : Calls P f args x.world fun e w' => e = .returned v ∧ x.world.grownBy w' (some bd) ∧ Dk w' B bd r) : Calls P f args x.world fun e w' => e = .returned v ∧ ∃ y : ExtD bd w, w' = y.world ∧ Dk y.world B bd r :=
  h.mono fun _ _ ⟨he, hg, hd⟩ => ⟨he, x.step hg, rfl, hd⟩
theorem Calls.deck0 {P : Program} {f : FuncId} {args : Array Value} {w : World} {B bd : Nat} {r : List Int} {v : Value}
    (h : Calls P f args w fun e w' => e = .returned v ∧ w.grownBy w' (some bd) ∧ Dk w' B bd r) : Calls P f args w fun e w' => e = .returned v ∧ ∃ y : ExtD bd w, w' = y.world ∧ Dk y.world B bd r :=
  h.mono fun _ _ ⟨he, hg, hd⟩ => ⟨he, ⟨_, hg⟩, rfl, hd⟩

/-- What is left behind k numbers. -/
def dr (r : List Int) (k : Nat) : List Int := r.drop k
theorem dr_tail (r : List Int) (k : Nat) : (dr r k).tail = dr r (k + 1) := by simp [dr]
theorem dr_zero (r : List Int) : dr r 0 = r := rfl
theorem dr_dr (r : List Int) (j k : Nat) : dr (dr r j) k = dr r (j + k) := by simp [dr]
theorem Dk.tl {w : World} {B bd : Nat} {r : List Int} {k : Nat} (h : Dk w B bd (dr r k).tail) : Dk w B bd (dr r (k + 1)) := dr_tail r k ▸ h
/-- The number that is taken, modulo n; 0 of an empty deck. -/
def nx (r : List Int) (n : Int) : Int := match r with | [] => 0 | a :: _ => a % n
theorem nx_bd (r : List Int) (n : Int) (h : 1 ≤ n) : 0 ≤ nx r n ∧ nx r n < n := by
  unfold nx
  split
  · omega
  · exact ⟨Int.emod_nonneg _ (by omega), Int.emod_lt_of_pos _ (by omega)⟩
theorem nx_cons (a : Int) (l : List Int) (n : Int) : nx (a :: l) n = a % n := rfl

theorem mod_w (v n : Int) (w : World) (h1 : 1 ≤ n) (h2 : n ≤ 1099511627776) :
    Calls Try.prog 16 #[.int .i64 v, .int .i64 n] w fun e w' => e = .returned (.int .i64 (v % n)) ∧ Below w.heap.size w w' := by
  have hn0 : (n == 0) = false := by simp; omega
  by_cases h0 : 0 ≤ v
  · have hb := Int.emod_nonneg v (show n ≠ 0 by omega)
    go_enter Try.func16, Try.ntmps16
    go_wp2
    go_ret
    exact ⟨rfl, Below.refl _ _⟩
  · have e1 : v.tmod n = -((-v).tmod n) := by rw [Int.neg_tmod]; omega
    have e2 : (-v).tmod n = (-v) % n := Int.tmod_eq_emod_of_nonneg (by omega)
    have b1 := Int.emod_nonneg (-v) (show n ≠ 0 by omega)
    have b2 := Int.emod_lt_of_pos (-v) (show 0 < n by omega)
    have h3 : -n < v.tmod n := by omega
    have h4 : v.tmod n ≤ 0 := by omega
    have h5 := Int.tmod_add_mul_tdiv v n
    have key : v % n = if v.tmod n < 0 then v.tmod n + n else v.tmod n := by
      split
      · have : v = n * (v.tdiv n - 1) + (v.tmod n + n) := by rw [Int.mul_sub]; omega
        generalize v.tdiv n = q at *
        generalize v.tmod n = t at *
        rw [this, Int.add_comm, Int.add_mul_emod_self_left, Int.emod_eq_of_lt (by omega) (by omega)]
      · have h6 : v.tmod n = 0 := by omega
        have : v = n * v.tdiv n := by omega
        rw [h6]
        generalize v.tdiv n = q at *
        rw [this]
        exact Int.mul_emod_right n q
    have key' := Lib.hid key
    clear key e1 e2 b1 b2 h5
    go_enter Try.func16, Try.ntmps16
    go_wp2
    · go_ret
      exact ⟨ret_int (by rw [key'.out, if_pos (by assumption)]), Below.refl _ _⟩
    · go_ret
      exact ⟨ret_int (by rw [key'.out, if_neg (by omega)]), Below.refl _ _⟩

theorem new_w (A : Option Addr) (n c : Nat) (xs : List Int) (w : World) (h1 : xs.length = n) (h2 : n ≤ c) (h3 : c ≤ 9223372036854775807)
    (h4 : 0 < n → ∃ b o, A = some ⟨b, o, none⟩ ∧ b < w.heap.size ∧ ∀ j, j < n → w.cell? ⟨b, o + j, none⟩ = some (.int .i64 (atI xs j))) (B : Nat) (hB : B ≤ w.heap.size)
    (h5 : 0 < n → ∀ b o, A = some ⟨b, o, none⟩ → b < B) :
    Calls Try.prog 14 #[.slice A n c] w fun e w' => e = .returned (.pointer (some ⟨w.heap.size, 0, none⟩)) ∧ Below w.heap.size w w' ∧ w'.heap.size = w.heap.size + 1 ∧ Dk w' B w.heap.size xs := by
  have h1' := Lib.hid h1
  have h4' := Lib.hid h4
  have h5' := Lib.hid h5
  clear h1 h4 h5
  go_enter Try.func14, Try.ntmps14
  go_wp2
  go_ret
  refine ⟨rfl, by (repeat (first | with_reducible exact Below.refl _ _ | with_reducible assumption | with_reducible refine belowExt ?_ _ | with_reducible refine belowAlloc ?_ _ | with_reducible refine Below.drew ?_ | with_reducible refine below_drewN ?_ _ | with_reducible refine Below.setCell ?_ (by simp; try omega) _)), by simp, A, n, c, 0, xs, heap_alloc_new w _, hB, Nat.zero_le _, rfl, h1'.out, h2, h3, fun hn => ?_⟩
  obtain ⟨b, o, e, hlt, hc⟩ := h4'.out hn
  exact ⟨b, o, e, h5'.out hn b o e, fun j hj => (World.cell?_alloc_lt w _ ⟨b, o + j, none⟩ hlt).trans (hc j hj)⟩

theorem next_w (B bd : Nat) (r : List Int) (n : Int) (w : World) (h1 : 1 ≤ n) (h2 : n ≤ 1099511627776) (hd : Dk w B bd r) :
    Calls Try.prog 38 #[.pointer (some ⟨bd, 0, none⟩), .int .i64 n] w fun e w' => e = .returned (.int .i64 (nx r n)) ∧ w.grownBy w' (some bd) ∧ Dk w' B bd r.tail := by
  have hbd := hd.lt
  have hd0 := Lib.hid hd
  obtain ⟨A, m, c, at_, xs, g1, g2, g3, g4, g5, g6, g7, g8⟩ := hd
  have c0 : w.cell? ⟨bd, 0, none⟩ = some (.slice A m c) := cell_of_row w bd 0 _ _ (0, 0) g1
  have c1 : w.cell? ⟨bd, 1, none⟩ = some (.int .i64 at_) := cell_of_row w bd 1 _ _ (0, 0) g1
  have f1 : w.frozen? ⟨bd, 1, none⟩ = false := by simp [World.frozen?, g1]
  have g1' := Lib.hid g1
  have g4' := Lib.hid g4
  have g5' := Lib.hid g5
  clear g1 g4 g5
  by_cases hlt : at_ < m
  · obtain ⟨b, o, rfl, hb, hcell⟩ := g8 (by omega)
    have hc := hcell at_ hlt
    have hne : b ≠ bd := by omega
    have hne' : bd ≠ b := by omega
    have hbw : b < w.heap.size := by omega
    have hr : Hid (r = atI xs at_ :: xs.drop (at_ + 1)) := by
      have hx : at_ < xs.length := by rw [g5'.out]; exact hlt
      unfold Hid
      rw [g4'.out, List.drop_eq_getElem_cons hx]
      simp [atI, hx]
    have hcell' := Lib.hid hcell
    clear hcell g8
    go_enter Try.func38, Try.ntmps38
    go_wp2
    ((first | refine wp_region_ext_lit2 (by kernel_rfl) (by kernel_rfl) ?_ | refine wp_region_ext_lit (by kernel_rfl) (by kernel_rfl) ?_); (repeat (go_big_quiet_step ((fail)))); refine wpQuiet_ext ?_; intro xq)
    revert xq
    intro x1
    go_wp2
    ((first | refine wp_region_ext_lit2 (by kernel_rfl) (by kernel_rfl) ?_ | refine wp_region_ext_lit (by kernel_rfl) (by kernel_rfl) ?_); (repeat (go_big_quiet_step ((go_at_call 16; exact Calls.ext (mod_w _ _ _ h1 h2))))); refine wpQuiet_ext ?_; intro xq)
    go_wp2
    go_ret
    refine ⟨ret_int (by rw [hr.out]; rfl), grown_ext (grown_setRow (grown_ext (grown_refl _ _) _) rfl _) _, ?_⟩
    have e1 : x1.world.heap[bd]? = some (.cells #[.slice (some ⟨b, o, none⟩) m c, .int .i64 at_] 71 (0, 0)) := (x1.below.block bd hbd).trans g1'.out
    have hD : Dk (x1.world.setCell ⟨bd, 1, none⟩ (.int .i64 (at_ + 1))) B bd r.tail := by
      refine ⟨some ⟨b, o, none⟩, m, c, at_ + 1, xs, ?_, g2, hlt, by rw [hr.out]; rfl, g5'.out, g6, g7, fun _ => ⟨b, o, rfl, hb, fun j hj => ?_⟩⟩
      · simp [World.setCell, Array.getElem?_modify, e1]
      · have e2 : (x1.world.setCell ⟨bd, 1, none⟩ (.int .i64 (at_ + 1))).heap[b]? = w.heap[b]? := (Below.heap_setCell _ _ _ b hne).trans (x1.below.block b hbw)
        exact (World.cell?_of_block (a := ⟨b, o + j, none⟩) e2).trans (hcell'.out j hj)
    exact hD.ext xq
  · have hr : Hid (r = []) := by
      unfold Hid
      rw [g4'.out]
      exact List.drop_eq_nil_of_le (by rw [g5'.out]; omega)
    clear g8
    go_enter Try.func38, Try.ntmps38
    go_wp2
    ((first | refine wp_region_ext_lit2 (by kernel_rfl) (by kernel_rfl) ?_ | refine wp_region_ext_lit (by kernel_rfl) (by kernel_rfl) ?_); (repeat (go_big_quiet_step ((fail)))); refine wpQuiet_ext ?_; intro xq)
    go_wp2
    go_ret
    refine ⟨ret_int (by rw [hr.out]; rfl), grown_ext (grown_refl _ _) _, ?_⟩
    rw [hr.out]
    exact (hr.out ▸ hd0.out).ext _

theorem range_w (B bd : Nat) (r : List Int) (lo hi : Int) (w : World) (h1 : lo ≤ hi) (h2 : hi ≤ 1000000000) (h3 : -1000000000 ≤ lo) (hd : Dk w B bd r) :
    Calls Try.prog 39 #[.pointer (some ⟨bd, 0, none⟩), .int .i64 lo, .int .i64 hi] w fun e w' => e = .returned (.int .i64 (lo + nx r (hi - lo + 1))) ∧ w.grownBy w' (some bd) ∧ Dk w' B bd r.tail := by
  have hb := nx_bd r (hi - lo + 1) (by omega)
  go_enter Try.func39, Try.ntmps39
  go_wp2_with (go_at_call 38; refine (next_w _ _ _ _ _ (by omega) (by omega) hd).mono ?_; rintro e w' ⟨rfl, hg, hD⟩)
  go_ret
  exact ⟨rfl, hg, hD⟩

theorem next_k (B bd : Nat) (r : List Int) (k : Nat) (n : Int) (w : World) (h1 : 1 ≤ n) (h2 : n ≤ 1099511627776) (hd : Dk w B bd (dr r k)) :
    Calls Try.prog 38 #[.pointer (some ⟨bd, 0, none⟩), .int .i64 n] w fun e w' => e = .returned (.int .i64 (nx (dr r k) n)) ∧ w.grownBy w' (some bd) ∧ Dk w' B bd (dr r (k + 1)) :=
  (next_w B bd _ n w h1 h2 hd).mono fun _ _ ⟨a, b, c⟩ => ⟨a, b, c.tl⟩
theorem range_k (B bd : Nat) (r : List Int) (k : Nat) (lo hi : Int) (w : World) (h1 : lo ≤ hi) (h2 : hi ≤ 1000000000) (h3 : -1000000000 ≤ lo) (hd : Dk w B bd (dr r k)) :
    Calls Try.prog 39 #[.pointer (some ⟨bd, 0, none⟩), .int .i64 lo, .int .i64 hi] w fun e w' => e = .returned (.int .i64 (lo + nx (dr r k) (hi - lo + 1))) ∧ w.grownBy w' (some bd) ∧ Dk w' B bd (dr r (k + 1)) :=
  (range_w B bd _ lo hi w h1 h2 h3 hd).mono fun _ _ ⟨a, b, c⟩ => ⟨a, b, c.tl⟩

theorem left_w (B bd : Nat) (r : List Int) (w : World) (hd : Dk w B bd r) :
    Calls Try.prog 41 #[.pointer (some ⟨bd, 0, none⟩)] w fun e w' => e = .returned (.bool (!r.isEmpty)) ∧ Below w.heap.size w w' := by
  have hbd := hd.lt
  obtain ⟨A, m, c, at_, xs, g1, g2, g3, g4, g5, g6, g7, g8⟩ := hd
  have c0 : w.cell? ⟨bd, 0, none⟩ = some (.slice A m c) := cell_of_row w bd 0 _ _ (0, 0) g1
  have c1 : w.cell? ⟨bd, 1, none⟩ = some (.int .i64 at_) := cell_of_row w bd 1 _ _ (0, 0) g1
  have hr : Hid ((!r.isEmpty) = decide (at_ < m)) := by
    unfold Hid
    have e : r.length = m - at_ := by rw [g4, List.length_drop, g5]
    cases r with
    | nil => simp at e; simp; omega
    | cons a l => simp at e; simp; omega
  clear g1 g4 g5 g8
  go_enter Try.func41, Try.ntmps41
  go_wp2
  ((first | refine wp_region_ext_lit2 (by kernel_rfl) (by kernel_rfl) ?_ | refine wp_region_ext_lit (by kernel_rfl) (by kernel_rfl) ?_); (repeat (go_big_quiet_step ((fail)))); refine wpQuiet_ext ?_; intro xq)
  go_wp2
  go_ret
  exact ⟨ret_bool hr.out.symm, by (repeat (first | with_reducible exact Below.refl _ _ | with_reducible assumption | with_reducible refine belowExt ?_ _ | with_reducible refine belowAlloc ?_ _ | with_reducible refine Below.drew ?_ | with_reducible refine below_drewN ?_ _ | with_reducible refine Below.setCell ?_ (by simp; try omega) _))⟩
end Go.Proofs.Ytlabfbpnkjigoaa
