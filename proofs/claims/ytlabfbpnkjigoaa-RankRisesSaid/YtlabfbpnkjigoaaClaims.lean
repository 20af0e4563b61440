/- The deck's claims. -/
import Derived.Test.YtlabfbpnkjigoaaDeck
import Derived.Test.YtlabfbpnkjigoaaSoft
import Derived.Deep.AppendLies
namespace Go.Proofs.Ytlabfbpnkjigoaa
open Go.RowKit

def classOf (j : Int) : Int := if j = 0 then 0 else if j = 1 then 1 else if j = 2 then 1 else if j = 3 then 0 else if j = 4 then 2 else 3
/-- One claim off the deck. -/
def mkClaim (ph now : Int) (r : List Int) : Cl := ⟨nx (dr r 0) 3, nx (dr r 1) 4, nx (dr r 2) ph, classOf (nx (dr r 3) 6), max 0 (now - nx (dr r 4) 20)⟩
def Cl.cells (c : Cl) : List Value := [.int .i64 c.ag, .int .i64 c.id, .int .i64 c.ph, .int .i64 c.k, .int .i64 c.si]
theorem claim_info : (Try.prog.info? 51).map (fun i => (i.zero, i.size, i.bytes)) = some (some (.agg #[.int .i64 0, .int .i64 0, .int .i64 0, .int .i64 0, .int .i64 0]), 5, 40) := by kernel_rfl
theorem class_at (q : Nat) (h : q < 6) : (#[.int .i64 0, .int .i64 1, .int .i64 1, .int .i64 0, .int .i64 2, .int .i64 3] : Array Value)[q]? = some (.int .i64 (classOf q)) := by
  match q, h with
  | 0, _ | 1, _ | 2, _ | 3, _ | 4, _ | 5, _ => rfl

theorem max_if (a b : Int) : (if a < b then b - a else 0) = max 0 (b - a) := by split <;> omega

/-- What changes in a step: the deck, and before the append is done the row that is appended to. -/
structure RC (bd : Nat) (row : Option Nat) (N k : Nat) (w w' : World) : Prop where
  os : w'.os = w.os
  tape : w'.tape = w.tape
  output : w'.output = w.output
  size : w.heap.size ≤ w'.heap.size
  block : ∀ j, j < w.heap.size → j ≠ bd → (k < N → some j ≠ row) → w'.heap[j]? = w.heap[j]?
section
variable {bd : Nat} {row : Option Nat} {N k : Nat}
theorem RC_refl (w : World) : RC bd row N k w w := ⟨rfl, rfl, rfl, Nat.le_refl _, fun _ _ _ _ => rfl⟩
theorem RC_alloc (w : World) (o : Obj) : RC bd row N k w (w.alloc o) := ⟨rfl, rfl, rfl, by simp, fun j hj _ _ => Below.heap_alloc w o j hj⟩
theorem RC_grown {w w' : World} (h : w.grownBy w' (some bd)) : RC bd row N k w w' := ⟨h.os, h.tape, h.output, h.size, fun j hj hne _ => h.block j hj (fun e => hne (by injection e))⟩
theorem RC_row {w w' : World} (h : w.grownBy w' row) (hk : k < N) : RC bd row N k w w' := ⟨h.os, h.tape, h.output, h.size, fun j hj _ hr => h.block j hj (hr hk)⟩
theorem RC.grown {w0 w w' : World} (h0 : w0.grownBy w (some bd)) (h : RC bd row N k w w') (hr : ∀ g, row = some g → w0.heap.size ≤ g) : w0.grownBy w' (some bd) :=
  ⟨h.os.trans h0.os, h.tape.trans h0.tape, h.output.trans h0.output, Nat.le_trans h0.size h.size, fun j hj hne =>
    (h.block j (Nat.lt_of_lt_of_le hj h0.size) (fun e => hne (by rw [e])) (fun _ e => by have := hr j e.symm; omega)).trans (h0.block j hj hne)⟩
theorem RC.trans {a b c : World} {k' : Nat} (h : RC bd row N 0 a b) (g : RC bd row N k' b c) (_h0 : 0 < N) : RC bd row N 0 a c :=
  ⟨g.os.trans h.os, g.tape.trans h.tape, g.output.trans h.output, Nat.le_trans h.size g.size, fun j hj hne hr => (g.block j (Nat.lt_of_lt_of_le hj h.size) hne (fun _ => hr _h0)).trans (h.block j hj hne hr)⟩
end

def ΦC (bd : Nat) (row : Option Nat) (B0 : Nat) (v7 : Value) (n : Nat) (l : List Value) (ph now : Int) (r : List Int) (t k : Nat) (v : Value) (w : World) : Prop :=
  match t with
  | 15 => v = v7
  | 16 => v = .pointer (some ⟨bd, 0, none⟩)
  | 17 => v = .int .i64 (nx (dr r 0) 3)
  | 18 => v = .pointer (some ⟨bd, 0, none⟩)
  | 19 => v = .int .i64 (nx (dr r 1) 4)
  | 20 => v = .pointer (some ⟨bd, 0, none⟩)
  | 21 => v = .int .i64 ph
  | 22 => v = .int .i64 (nx (dr r 2) ph)
  | 23 => ∃ g, v = .slice (some ⟨g, 0, none⟩) 6 6 ∧ B0 ≤ g ∧ w.heap[g]? = some (.cells #[.int .i64 0, .int .i64 1, .int .i64 1, .int .i64 0, .int .i64 2, .int .i64 3] 3 (0, 0))
  | 24 => v = .pointer (some ⟨bd, 0, none⟩)
  | 25 => v = .int .i64 (nx (dr r 3) 6)
  | 26 => ∃ g j, v = .pointer (some ⟨g, j, none⟩) ∧ B0 ≤ g ∧ g < w.heap.size ∧ w.cell? ⟨g, j, none⟩ = some (.int .i64 (classOf (nx (dr r 3) 6)))
  | 27 => v = .int .i64 (classOf (nx (dr r 3) 6))
  | 28 => v = .int .i64 now
  | 29 => v = .pointer (some ⟨bd, 0, none⟩)
  | 30 => v = .int .i64 (nx (dr r 4) 20)
  | 31 => v = .int .i64 (now - nx (dr r 4) 20)
  | 32 => v = .int .i64 (mkClaim ph now r).si
  | 33 => v = .agg (mkClaim ph now r).cells.toArray
  | 34 => ∃ g, v = .slice (some ⟨g, 0, none⟩) 1 1 ∧ B0 ≤ g ∧ w.heap[g]? = some (.cells (mkClaim ph now r).cells.toArray 51 (0, 0))
  | 35 => 6 ≤ k ∧ w.ownsRow (bd + 1) 51 5 v (n + 1) (l ++ (mkClaim ph now r).cells) ∧ (v.ownBlock = row ∨ ∃ g, v.ownBlock = some g ∧ B0 ≤ g)
  | 7 => 6 ≤ k ∧ w.ownsRow (bd + 1) 51 5 v (n + 1) (l ++ (mkClaim ph now r).cells) ∧ (v.ownBlock = row ∨ ∃ g, v.ownBlock = some g ∧ B0 ≤ g)
  | _ => True
def WC (B bd : Nat) (row : Option Nat) (B0 : Nat) (v7 : Value) (n : Nat) (l : List Value) (r : List Int) (w0 : World) (k : Nat) (w : World) : Prop :=
  Dk w B bd (dr r (min k 5)) ∧ (k < 6 → w.ownsRow (bd + 1) 51 5 v7 n l) ∧ B0 ≤ w.heap.size ∧ RC bd row 6 0 w0 w
section
variable {B bd : Nat} {row : Option Nat} {B0 : Nat} {v7 : Value} {n : Nat} {l : List Value} {r : List Int} {w0 : World} {k : Nat} {w w' : World}
theorem WC_alloc (h : WC B bd row B0 v7 n l r w0 k w) (o : Obj) : WC B bd row B0 v7 n l r w0 k (w.alloc o) :=
  ⟨h.1.alloc o, fun hk => (h.2.1 hk).alloc o, Nat.le_trans h.2.2.1 (by simp), h.2.2.2.trans (RC_alloc (k := 0) w o) (by omega)⟩
theorem WC_next (h : WC B bd row B0 v7 n l r w0 k w) (hg : w.grownBy w' (some bd)) (hk : k < 5) (hD : Dk w' B bd (dr r (min k 5)).tail) : WC B bd row B0 v7 n l r w0 (k + 1) w' := by
  refine ⟨?_, fun _ => (h.2.1 (by omega)).kept hg ?_, Nat.le_trans h.2.2.1 hg.size, h.2.2.2.trans (RC_grown (k := 0) hg) (by omega)⟩
  · rw [show min k 5 = k by omega] at hD; rw [show min (k + 1) 5 = k + 1 by omega]; exact hD.tl
  · cases hv : v7.ownBlock with
    | none => exact .inl rfl
    | some g =>
      right
      have := ((h.2.1 (by omega)).lt g hv).1
      intro e
      injection e with e
      omega
theorem ΦC_stab {ph now : Int} (hB : bd < B0) (hrow : ∀ g, row = some g → g < B0) (t k : Nat) (c : Bool) (v : Value) (w w' : World) (hR : RC bd row 6 k w w') (h : ΦC bd row B0 v7 n l ph now r t k v w) : ΦC bd row B0 v7 n l ph now r t (if c then k + 1 else k) v w' := by
  have blk : ∀ g, B0 ≤ g → g < w.heap.size → w'.heap[g]? = w.heap[g]? := fun g hg hlt => hR.block g hlt (by omega) (fun _ e => by have := hrow g e.symm; omega)
  have own : (6 ≤ k ∧ w.ownsRow (bd + 1) 51 5 v (n + 1) (l ++ (mkClaim ph now r).cells) ∧ (v.ownBlock = row ∨ ∃ g, v.ownBlock = some g ∧ B0 ≤ g)) →
      (6 ≤ (if c then k + 1 else k) ∧ w'.ownsRow (bd + 1) 51 5 v (n + 1) (l ++ (mkClaim ph now r).cells) ∧ (v.ownBlock = row ∨ ∃ g, v.ownBlock = some g ∧ B0 ≤ g)) := by
    rintro ⟨h6, ho, hb⟩
    refine ⟨by split <;> omega, ?_, hb⟩
    have hg : w.grownBy w' (some bd) := ⟨hR.os, hR.tape, hR.output, hR.size, fun j hj hne => hR.block j hj (fun e => hne (by rw [e])) (fun h => by omega)⟩
    refine ho.kept hg ?_
    cases hv : v.ownBlock with
    | none => exact .inl rfl
    | some g =>
      right
      have := (ho.lt g hv).1
      intro e
      injection e with e
      omega
  have hlt : ∀ {g : Nat} {o : Obj}, w.heap[g]? = some o → g < w.heap.size := fun h => (Array.getElem?_eq_some_iff.1 h).1
  unfold ΦC at h ⊢
  split at h
  all_goals first
    | exact h
    | exact own h
    | (obtain ⟨g, e, hg, hb⟩ := h; exact ⟨g, e, hg, (blk g hg (hlt hb)).trans hb⟩)
    | (obtain ⟨g, j, e, hg, hlt', hb⟩ := h; exact ⟨g, j, e, hg, Nat.lt_of_lt_of_le hlt' hR.size, (World.cell?_of_block (a := ⟨g, j, none⟩) (blk g hg hlt')).trans hb⟩)
end

/-- The claims of a deck: k of them. -/
def claimAt (ph now : Int) (r : List Int) (i : Nat) : Cl := mkClaim ph now (dr r (1 + 5 * i))
def claimsN (ph now : Int) (r : List Int) (k : Nat) : List Cl := (List.range k).map (claimAt ph now r)
def claimsF (ph now : Int) (r : List Int) : List Cl := claimsN ph now r (nx r 6).toNat
def claimsR (r : List Int) : List Int := dr r (1 + 5 * (nx r 6).toNat)
def cellsOf (cs : List Cl) : List Value := cs.flatMap Cl.cells
theorem cellsOf_succ (ph now : Int) (r : List Int) (k : Nat) : cellsOf (claimsN ph now r (k + 1)) = cellsOf (claimsN ph now r k) ++ (claimAt ph now r k).cells := by
  simp [cellsOf, claimsN, List.range_succ]

set_option maxHeartbeats 2000000 in
theorem claims_own (B bd : Nat) (r : List Int) (ph now : Int) (w : World) (hd : Dk w B bd r) (hp1 : 1 ≤ ph) (hp2 : ph ≤ 1000) (hn1 : 0 ≤ now) (hn2 : now ≤ 1000000) :
    Calls Try.prog 42 #[.pointer (some ⟨bd, 0, none⟩), .int .i64 ph, .int .i64 now] w fun e w' => ∃ v, e = .returned v ∧ w'.ownsRow (bd + 1) 51 5 v (nx r 6).toNat (cellsOf (claimsF ph now r)) ∧ (∀ g, v.ownBlock = some g → w.heap.size ≤ g) ∧
      w.grownBy w' (some bd) ∧ Dk w' B bd (claimsR r) := by
  have hk := nx_bd (dr r 0) 6 (by omega)
  obtain ⟨K, hK⟩ := Int.eq_ofNat_of_zero_le hk.1
  have hK' : K ≤ 5 := by omega
  have HK := Lib.hid (show nx r 6 = K from hK)
  go_enter Try.func42, Try.ntmps42
  go_wp2_with (go_at_call 38; refine (next_w B bd (dr r 0) _ _ (by omega) (by omega) hd).mono ?_; rintro e w1 ⟨rfl, hg, hD⟩)
  clear hK hk
  go_loopw [7, 8] (fun v7 k wr => ∃ i : Nat, i ≤ K ∧ k = .int .i64 ((K : Int) - i) ∧ wr.ownsRow (bd + 1) 51 5 v7 i (cellsOf (claimsN ph now r i)) ∧ (∀ g, v7.ownBlock = some g → w.heap.size ≤ g) ∧ w.grownBy wr (some bd) ∧ Dk wr B bd (dr r (1 + 5 * i))) (fun _ k _ => (intOf k).toNat)
  case atStart => exact ⟨0, Nat.zero_le _, by go_num, World.ownsRow_nil _ _ _ _, fun _ h => absurd h (by simp [Value.ownBlock]), hg, hD.tl⟩
  case round =>
    obtain ⟨i, hi, rfl, hown, hnew, hg', hD'⟩ := hrel
    by_cases hlt : i < K
    · go_wp2_with fail
      have hB : bd < wr.heap.size := hD'.lt
      have hrow : ∀ g, u7.ownBlock = some g → g < wr.heap.size := fun g hg => (hown.lt g hg).2
      have HO := Lib.hid hown
      have HD := Lib.hid hD'
      have HN := Lib.hid hnew
      have HG := Lib.hid hg'
      have HR := Lib.hid hrow
      clear hown hD' hnew hg' hrow
      obtain ⟨q, hq⟩ : ∃ q, q = dr r (1 + 5 * i) := ⟨_, rfl⟩
      rw [← hq] at HD
      have HQ0 := Lib.hid hq
      clear hq
      refine Soft.regionV [[],[],[1],[],[1,2,3],[],[],[1,2,3,4,5,6],[],[],[1,2,3,4,5,6,7,9],[1,2,3,4,5,6,7,8,9,10],[1,2,3,4,5,6,7,8,9,10,11],[],[],[1,2,3,4,5,6,7,9,10,14],[1,2,3,4,5,6,7,9,10,13,14,15],[1,2,3,4,5,6,7,9,10,13,14,15,16],[1,2,3,4,5,6,7,8,9,10,11,12,13,14,15,16,17],[1,2,3,4,5,6,7,8,9,10,11,12,13,14,15,16,17,18],[0,1,2,3,4,5,6,7,8,9,10,11,12,13,14,15,16,17,18,19],[0,1,2,3,4,5,6,7,8,9,10,11,12,13,14,15,16,17,18,19,20]] [⟨[],[7],0,5,false⟩,⟨[],[0],0,0,false⟩,⟨[16],[],0,0,true⟩,⟨[],[0],0,1,false⟩,⟨[18],[],1,1,true⟩,⟨[],[0],0,2,false⟩,⟨[],[1],0,2,false⟩,⟨[20,21],[],2,2,true⟩,⟨[],[],0,5,false⟩,⟨[],[0],0,3,false⟩,⟨[24],[],3,3,true⟩,⟨[23,25],[],4,5,false⟩,⟨[26],[],4,5,false⟩,⟨[],[2],0,5,false⟩,⟨[],[0],0,4,false⟩,⟨[29],[],4,4,true⟩,⟨[28,30],[],5,5,false⟩,⟨[31],[],5,5,false⟩,⟨[17,19,22,27,32],[],5,5,false⟩,⟨[33],[],5,5,false⟩,⟨[15,34],[],5,5,true⟩,⟨[35],[],6,6,false⟩] 6 37 [15,16,17,18,19,20,21,22,23,24,25,26,27,28,29,30,31,32,33,34,35,7] (by kernel_rfl) rfl (by kernel_rfl) (ΦC bd u7.ownBlock wr.heap.size u7 i (cellsOf (claimsN ph now r i)) ph now q) (WC B bd u7.ownBlock wr.heap.size u7 i (cellsOf (claimsN ph now r i)) q wr) (RC bd u7.ownBlock 6) (ΦC_stab hB HR.out) ⟨HD.out.drew, fun _ => HO.out, Nat.le_refl _, ⟨rfl, rfl, rfl, Nat.le_refl _, fun _ _ _ _ => rfl⟩⟩ ⟨?_, ?_, ?_, ?_, ?_, ?_, ?_, ?_, ?_, ?_, ?_, ?_, ?_, ?_, ?_, ?_, ?_, ?_, ?_, ?_, ?_, ?_, trivial⟩ ?_
      · -- 0: slot 15 := Op.move (t7)
        intro ρ w k hρ h1 h2 hW hv hf next hK
        have hc := hρ.const; have hfn := hρ.func
        have e7 := hf 7 (by simp)
        have HW := Lib.hid hW; clear hW hv hf h1 h2 hρ
        go_simp; try go_bits
        exact hK _ _ (RC_refl _) (fun t ht => by cases ht; exact rfl) HW.out
      · -- 1: slot 16 := Op.move (t0)
        intro ρ w k hρ h1 h2 hW hv hf next hK
        have hc := hρ.const; have hfn := hρ.func
        have e0 := hf 0 (by simp)
        obtain rfl : k = 0 := Nat.le_antisymm h2 h1
        have HW := Lib.hid hW; clear hW hv hf h1 h2 hρ
        go_simp; try go_bits
        exact hK _ _ (RC_refl _) (fun t ht => by cases ht; exact rfl) HW.out
      · -- 2: slot 17 := Op.call { callee := Callee.value (Operand.func 38), args := #[t16, Operand.const (Value.int IntKind.i64 3)], argTypes := #[27, 3] }
        intro ρ w k hρ h1 h2 hW hv hf next hK
        have hc := hρ.const; have hfn := hρ.func
        have e16 := hv 16 (by simp)
        simp only [ΦC] at e16
        obtain rfl : k = 0 := Nat.le_antisymm h2 h1
        have HW := Lib.hid hW; clear hW hv hf h1 h2 hρ
        go_simp; try go_bits
        refine (next_w B bd _ _ _ (by omega) (by omega) HW.out.1).mono ?_
        rintro e w' ⟨rfl, hg, hD⟩
        exact ⟨_, rfl, hK _ _ (RC_grown hg) (fun t ht => by cases ht; exact rfl) (WC_next HW.out hg (by omega) hD)⟩
      · -- 3: slot 18 := Op.move (t0)
        intro ρ w k hρ h1 h2 hW hv hf next hK
        have hc := hρ.const; have hfn := hρ.func
        have e0 := hf 0 (by simp)
        have HW := Lib.hid hW; clear hW hv hf h1 h2 hρ
        go_simp; try go_bits
        exact hK _ _ (RC_refl _) (fun t ht => by cases ht; exact rfl) HW.out
      · -- 4: slot 19 := Op.call { callee := Callee.value (Operand.func 38), args := #[t18, Operand.const (Value.int IntKind.i64 4)], argTypes := #[27, 3] }
        intro ρ w k hρ h1 h2 hW hv hf next hK
        have hc := hρ.const; have hfn := hρ.func
        have e18 := hv 18 (by simp)
        simp only [ΦC] at e18
        obtain rfl : k = 1 := Nat.le_antisymm h2 h1
        have HW := Lib.hid hW; clear hW hv hf h1 h2 hρ
        go_simp; try go_bits
        refine (next_w B bd _ _ _ (by omega) (by omega) HW.out.1).mono ?_
        rintro e w' ⟨rfl, hg, hD⟩
        exact ⟨_, rfl, hK _ _ (RC_grown hg) (fun t ht => by cases ht; exact rfl) (WC_next HW.out hg (by omega) hD)⟩
      · -- 5: slot 20 := Op.move (t0)
        intro ρ w k hρ h1 h2 hW hv hf next hK
        have hc := hρ.const; have hfn := hρ.func
        have e0 := hf 0 (by simp)
        have HW := Lib.hid hW; clear hW hv hf h1 h2 hρ
        go_simp; try go_bits
        exact hK _ _ (RC_refl _) (fun t ht => by cases ht; exact rfl) HW.out
      · -- 6: slot 21 := Op.move (t1)
        intro ρ w k hρ h1 h2 hW hv hf next hK
        have hc := hρ.const; have hfn := hρ.func
        have e1 := hf 1 (by simp)
        have HW := Lib.hid hW; clear hW hv hf h1 h2 hρ
        go_simp; try go_bits
        exact hK _ _ (RC_refl _) (fun t ht => by cases ht; exact rfl) HW.out
      · -- 7: slot 22 := Op.call { callee := Callee.value (Operand.func 38), args := #[t20, t21], argTypes := #[27, 3] }
        intro ρ w k hρ h1 h2 hW hv hf next hK
        have hc := hρ.const; have hfn := hρ.func
        have e20 := hv 20 (by simp)
        have e21 := hv 21 (by simp)
        simp only [ΦC] at e20 e21
        obtain rfl : k = 2 := Nat.le_antisymm h2 h1
        have HW := Lib.hid hW; clear hW hv hf h1 h2 hρ
        go_simp; try go_bits
        refine (next_w B bd _ _ _ (by omega) (by omega) HW.out.1).mono ?_
        rintro e w' ⟨rfl, hg, hD⟩
        exact ⟨_, rfl, hK _ _ (RC_grown hg) (fun t ht => by cases ht; exact rfl) (WC_next HW.out hg (by omega) hD)⟩
      · -- 8: slot 23 := Op.buildSlice 22 6 #[(0, Operand.const (Value.int IntKind.i64 0)), (1, Operand.const (Value.int IntKind.i64 1)), (2, Operand.const (Value.int IntKind.
        intro ρ w k hρ h1 h2 hW hv hf next hK
        have hc := hρ.const; have hfn := hρ.func
        have HW := Lib.hid hW; clear hW hv hf h1 h2 hρ
        go_simp; try go_bits
        exact hK _ _ (RC_alloc _ _) (fun t ht => by cases ht; exact ⟨_, rfl, HW.out.2.2.1, heap_alloc_new _ _⟩) (WC_alloc HW.out _)
      · -- 9: slot 24 := Op.move (t0)
        intro ρ w k hρ h1 h2 hW hv hf next hK
        have hc := hρ.const; have hfn := hρ.func
        have e0 := hf 0 (by simp)
        have HW := Lib.hid hW; clear hW hv hf h1 h2 hρ
        go_simp; try go_bits
        exact hK _ _ (RC_refl _) (fun t ht => by cases ht; exact rfl) HW.out
      · -- 10: slot 25 := Op.call { callee := Callee.value (Operand.func 38), args := #[t24, Operand.const (Value.int IntKind.i64 6)], argTypes := #[27, 3] }
        intro ρ w k hρ h1 h2 hW hv hf next hK
        have hc := hρ.const; have hfn := hρ.func
        have e24 := hv 24 (by simp)
        simp only [ΦC] at e24
        obtain rfl : k = 3 := Nat.le_antisymm h2 h1
        have HW := Lib.hid hW; clear hW hv hf h1 h2 hρ
        go_simp; try go_bits
        refine (next_w B bd _ _ _ (by omega) (by omega) HW.out.1).mono ?_
        rintro e w' ⟨rfl, hg, hD⟩
        exact ⟨_, rfl, hK _ _ (RC_grown hg) (fun t ht => by cases ht; exact rfl) (WC_next HW.out hg (by omega) hD)⟩
      · -- 11: slot 26 := Op.indexAddr 22 (t23) (t25)
        intro ρ w k hρ h1 h2 hW hv hf next hK
        have hc := hρ.const; have hfn := hρ.func
        have e23 := hv 23 (by simp)
        have e25 := hv 25 (by simp)
        simp only [ΦC] at e25
        obtain ⟨g, e23, hg, hblk⟩ := e23
        obtain ⟨z, hq⟩ := Int.eq_ofNat_of_zero_le (nx_bd (dr q 3) 6 (by omega)).1
        have hq6 : z < 6 := by have := (nx_bd (dr q 3) 6 (by omega)).2; omega
        have hz6 : (z : Int) < 6 := by omega
        have HQ := Lib.hid hq
        rw [hq] at e25
        have HB := Lib.hid hblk
        clear hblk hq
        have HW := Lib.hid hW; clear hW hv hf h1 h2 hρ
        go_simp; try go_bits
        refine hK _ _ (RC_refl _) (fun t ht => by
          cases ht
          refine ⟨g, z, rfl, hg, (Array.getElem?_eq_some_iff.1 HB.out).1, ?_⟩
          rw [cell_of_row _ g z _ _ (0, 0) HB.out, HQ.out]
          exact class_at z hq6) HW.out
      · -- 12: slot 27 := Op.load 3 (t26)
        intro ρ w k hρ h1 h2 hW hv hf next hK
        have hc := hρ.const; have hfn := hρ.func
        have e26 := hv 26 (by simp)
        obtain ⟨g, j, e26, hg, hlt, hcell⟩ := e26
        have HW := Lib.hid hW; clear hW hv hf h1 h2 hρ
        go_simp; try go_bits
        exact hK _ _ (RC_refl _) (fun t ht => by cases ht; exact rfl) HW.out
      · -- 13: slot 28 := Op.move (t2)
        intro ρ w k hρ h1 h2 hW hv hf next hK
        have hc := hρ.const; have hfn := hρ.func
        have e2 := hf 2 (by simp)
        have HW := Lib.hid hW; clear hW hv hf h1 h2 hρ
        go_simp; try go_bits
        exact hK _ _ (RC_refl _) (fun t ht => by cases ht; exact rfl) HW.out
      · -- 14: slot 29 := Op.move (t0)
        intro ρ w k hρ h1 h2 hW hv hf next hK
        have hc := hρ.const; have hfn := hρ.func
        have e0 := hf 0 (by simp)
        have HW := Lib.hid hW; clear hW hv hf h1 h2 hρ
        go_simp; try go_bits
        exact hK _ _ (RC_refl _) (fun t ht => by cases ht; exact rfl) HW.out
      · -- 15: slot 30 := Op.call { callee := Callee.value (Operand.func 38), args := #[t29, Operand.const (Value.int IntKind.i64 20)], argTypes := #[27, 3] }
        intro ρ w k hρ h1 h2 hW hv hf next hK
        have hc := hρ.const; have hfn := hρ.func
        have e29 := hv 29 (by simp)
        simp only [ΦC] at e29
        obtain rfl : k = 4 := Nat.le_antisymm h2 h1
        have HW := Lib.hid hW; clear hW hv hf h1 h2 hρ
        go_simp; try go_bits
        refine (next_w B bd _ _ _ (by omega) (by omega) HW.out.1).mono ?_
        rintro e w' ⟨rfl, hg, hD⟩
        exact ⟨_, rfl, hK _ _ (RC_grown hg) (fun t ht => by cases ht; exact rfl) (WC_next HW.out hg (by omega) hD)⟩
      · -- 16: slot 31 := Op.binOp BinOp.sub 3 (t28) (t30) 3
        intro ρ w k hρ h1 h2 hW hv hf next hK
        have hc := hρ.const; have hfn := hρ.func
        have e28 := hv 28 (by simp)
        have e30 := hv 30 (by simp)
        simp only [ΦC] at e28 e30
        obtain rfl : k = 5 := Nat.le_antisymm h2 h1
        have HW := Lib.hid hW; clear hW hv hf h1 h2 hρ
        have hb := nx_bd (dr q 4) 20 (by omega)
        go_simp; try go_bits
        exact hK _ _ (RC_refl _) (fun t ht => by cases ht; exact rfl) HW.out
      · -- 17: slot 32 := Op.call { callee := Callee.builtin Builtin.max, args := #[Operand.const (Value.int IntKind.i64 0), t31], argTypes := #[3, 3] }
        intro ρ w k hρ h1 h2 hW hv hf next hK
        have hc := hρ.const; have hfn := hρ.func
        have e31 := hv 31 (by simp)
        simp only [ΦC] at e31
        obtain rfl : k = 5 := Nat.le_antisymm h2 h1
        have HW := Lib.hid hW; clear hW hv hf h1 h2 hρ
        go_simp; try go_bits
        exact hK _ _ (RC_refl _) (fun t ht => by cases ht; exact congrArg _ (max_if _ _)) HW.out
      · -- 18: slot 33 := Op.build 51 #[(0, t17), (1, t19), (2, t22), (3, t27), (4, t32)]
        intro ρ w k hρ h1 h2 hW hv hf next hK
        have hc := hρ.const; have hfn := hρ.func
        have e17 := hv 17 (by simp)
        have e19 := hv 19 (by simp)
        have e22 := hv 22 (by simp)
        have e27 := hv 27 (by simp)
        have e32 := hv 32 (by simp)
        simp only [ΦC] at e17 e19 e22 e27 e32
        obtain rfl : k = 5 := Nat.le_antisymm h2 h1
        have HW := Lib.hid hW; clear hW hv hf h1 h2 hρ
        go_simp; try go_bits
        exact hK _ _ (RC_refl _) (fun t ht => by cases ht; exact rfl) HW.out
      · -- 19: slot 34 := Op.buildSlice 47 1 #[(0, t33)]
        intro ρ w k hρ h1 h2 hW hv hf next hK
        have hc := hρ.const; have hfn := hρ.func
        have e33 := hv 33 (by simp)
        have e33' : ρ (.tmp 33) = .agg #[.int .i64 (mkClaim ph now q).ag, .int .i64 (mkClaim ph now q).id, .int .i64 (mkClaim ph now q).ph, .int .i64 (mkClaim ph now q).k, .int .i64 (mkClaim ph now q).si] := e33
        clear e33
        generalize hcl : mkClaim ph now q = cl at *
        have HCL := Lib.hid hcl; clear hcl
        obtain rfl : k = 5 := Nat.le_antisymm h2 h1
        have HW := Lib.hid hW; clear hW hv hf h1 h2 hρ
        go_simp; try go_bits
        exact hK _ _ (RC_alloc _ _) (fun t ht => by cases ht; exact ⟨_, rfl, HW.out.2.2.1, by rw [HCL.out]; exact heap_alloc_new _ _⟩) (WC_alloc HW.out _)
      · -- 20: slot 35 := Op.call { callee := Callee.builtin Builtin.append, args := #[t15, t34], argTypes := #[47, 47] }
        intro ρ w k hρ h1 h2 hW hv hf next hK
        have hc := hρ.const; have hfn := hρ.func
        have e15 := hv 15 (by simp)
        have e34 := hv 34 (by simp)
        simp only [ΦC] at e15
        obtain ⟨g, e34, hg, hblk⟩ := e34
        have HB := Lib.hid hblk
        clear hblk
        obtain rfl : k = 5 := Nat.le_antisymm h2 h1
        have HW := Lib.hid hW; clear hW hv hf h1 h2 hρ
        obtain ⟨i0, hi0, hz0, hz1, hz2⟩ := info_parts claim_info
        obtain ⟨v', w', hrun, hown', hgr, _, hat⟩ := run_append_own_at (P := Try.prog) w (bd + 1) 47 47 51 i0 _ 5 40 Try.underlying47 hi0 hz0 hz1 hz2 rfl (by omega) u7 i (cellsOf (claimsN ph now r i)) (HW.out.2.1 (by omega)) ⟨g, 0, none⟩ 1 1 (mkClaim ph now q).cells rfl
          (fun j u hu => World.news_of_block HB.out j u (by simpa using hu)) (fun u hu => by simp [Cl.cells] at hu; rcases hu with h | h | h | h | h <;> subst h <;> rfl) (by simp only [maxLen]; omega) (by omega) (by have := HW.out.1.lt; omega)
        have HX := Lib.hid hown'
        have HY := Lib.hid hgr
        refine Soft.uponV_append (by rw [e15, e34]; exact hrun) ?_
        exact hK _ _ (RC_row HY.out (by omega)) (fun t ht => by cases ht; exact ⟨Nat.le_refl _, HX.out, hat.imp id fun e => ⟨_, e, HW.out.2.2.1⟩⟩) ⟨HW.out.1.grown HY.out (fun j hj => by
          have h1 := ((HW.out.2.1 (by omega)).lt j hj).1
          have h2 := HW.out.1.le
          omega), fun h => absurd (show 6 < 6 from h) (Nat.lt_irrefl 6), Nat.le_trans HW.out.2.2.1 HY.out.size, HW.out.2.2.2.trans (RC_row (k := 0) HY.out (by omega)) (by omega)⟩
      · -- 21: slot 7 := Op.assign (t35)
        intro ρ w k hρ h1 h2 hW hv hf next hK
        have hc := hρ.const; have hfn := hρ.func
        have E35 := Lib.hid (hv 35 (by simp))
        obtain rfl : k = 6 := Nat.le_antisymm h2 h1
        have HW := Lib.hid hW; clear hW hv hf h1 h2 hρ
        go_simp; try go_bits
        exact hK _ _ (RC_refl _) (fun t ht => by cases ht; exact E35.out) HW.out
      · intro u w' hW hu
        have h7 := Lib.hid (hu 7 (by simp))
        have HW := Lib.hid hW
        clear hW hu
        have hi1 : 0 ≤ (K : Int) - i := by omega
        simp only [Soft.putAll, Act.put, List.setIfInBounds_toArray, List.set_cons_succ, List.set_cons_zero]
        go_wp2
        go_roundw
        case rel =>
          refine ⟨i + 1, by omega, by go_num, ?_, fun g hg => ?_, ?_, ?_⟩
          · rw [cellsOf_succ]
            have := h7.out.2.1
            rw [HQ0.out] at this
            exact this
          · rcases h7.out.2.2 with e | ⟨g', e, hb⟩
            · exact HN.out g (e ▸ hg)
            · rw [hg] at e
              injection e with e
              rw [e]
              exact Nat.le_trans HG.out.size hb
          · exact HW.out.2.2.2.grown HG.out HN.out
          · have := HW.out.1
            rw [HQ0.out, dr_dr] at this
            exact this
        case measure => simp [intOf]; omega
    · have hiK : i = K := by omega
      subst hiK
      go_wp2
      go_ret
      refine ⟨_, rfl, ?_, hnew, hg', ?_⟩
      · unfold claimsF
        rw [HK.out]
        exact hown
      · unfold claimsR
        rw [HK.out]
        exact hD'
end Go.Proofs.Ytlabfbpnkjigoaa
