/- The deck's service. -/
import Derived.Test.YtlabfbpnkjigoaaDeck
import Derived.Test.YtlabfbpnkjigoaaSoft
import Derived.Deep.AppendLies
namespace Go.Proofs.Ytlabfbpnkjigoaa
open Go.RowKit

theorem rg_set {E : Nat → Prop} {a w : World} (h : Soft.RG E a w) (p : Addr) (u : Value) (hE : E p.block) : Soft.RG E a (w.setCell p u) := h.trans (Soft.RG_set w p u hE) (fun _ _ e => e)
theorem rg_extD {E : Nat → Prop} {a w : World} {bd : Nat} (h : Soft.RG E a w) (x : ExtD bd w) (hE : E bd) : Soft.RG E a x.world := h.trans (Soft.RG_grown (E := E) x.grown (fun g e => by injection e with e; exact e ▸ hE)) (fun _ _ e => e)
theorem rg_alloc {E : Nat → Prop} {a w : World} (h : Soft.RG E a w) (o : Obj) : Soft.RG E a (w.alloc o) := h.trans (Soft.RG_alloc (E := E) w o) (fun _ _ e => e)
theorem rg_drew {E : Nat → Prop} {a w : World} (h : Soft.RG E a w) : Soft.RG E a w.drew := h.trans (Soft.RG_drew (E := E) w) (fun _ _ e => e)
theorem rg_ext {E : Nat → Prop} {a w : World} (h : Soft.RG E a w) (x : Ext w) : Soft.RG E a x.world := h.trans (Soft.RG_below (E := E) x.below) (fun _ _ e => e)

def endAt (now : Int) (r : List Int) : Int := if nx (dr r 1) 3 = 0 then -1 else if nx (dr r 1) 3 = 1 then 0 else max (-1) (now - nx (dr r 0) 6)
theorem int_info : (Try.prog.info? 3).map (fun i => (i.zero, i.size, i.bytes)) = some (some (.int .i64 0), 1, 8) := by kernel_rfl
theorem end_at (now : Int) (r : List Int) (z : Nat) (h : z < 3) (e : nx (dr r 1) 3 = z) : (#[.int .i64 (-1), .int .i64 0, .int .i64 (max (-1) (now - nx (dr r 0) 6))] : Array Value)[z]? = some (.int .i64 (endAt now r)) := by
  unfold endAt
  rw [e]
  match z, h with
  | 0, _ | 1, _ | 2, _ => rfl
theorem max_if' (a b : Int) : (if a < b then b else a) = max a b := by omega

/-- What may change: the deck, the row that is appended to, the local struct. -/
def ES (bd sb : Nat) (row : Option Nat) (k j : Nat) : Prop := j = bd ∨ (k = 2 ∧ some j = row) ∨ (k = 3 ∧ j = sb)
def ΦS (bd sb : Nat) (row : Option Nat) (B0 : Nat) (v0 : Value) (n : Nat) (l : List Value) (now : Int) (r : List Int) (t k : Nat) (v : Value) (w : World) : Prop :=
  match t with
  | 12 => v = .pointer (some ⟨sb, 2, none⟩)
  | 13 => v = v0
  | 14 => v = .int .i64 now
  | 15 => v = .pointer (some ⟨bd, 0, none⟩)
  | 16 => v = .int .i64 (nx (dr r 0) 6)
  | 17 => v = .int .i64 (now - nx (dr r 0) 6)
  | 18 => v = .int .i64 (max (-1) (now - nx (dr r 0) 6))
  | 19 => ∃ g, v = .slice (some ⟨g, 0, none⟩) 3 3 ∧ B0 ≤ g ∧ w.heap[g]? = some (.cells #[.int .i64 (-1), .int .i64 0, .int .i64 (max (-1) (now - nx (dr r 0) 6))] 3 (0, 0))
  | 20 => v = .pointer (some ⟨bd, 0, none⟩)
  | 21 => v = .int .i64 (nx (dr r 1) 3)
  | 22 => ∃ g j, v = .pointer (some ⟨g, j, none⟩) ∧ B0 ≤ g ∧ g < w.heap.size ∧ w.cell? ⟨g, j, none⟩ = some (.int .i64 (endAt now r))
  | 23 => v = .int .i64 (endAt now r)
  | 24 => ∃ g, v = .slice (some ⟨g, 0, none⟩) 1 1 ∧ B0 ≤ g ∧ w.heap[g]? = some (.cells #[.int .i64 (endAt now r)] 3 (0, 0))
  | 25 => 3 ≤ k ∧ w.ownsRow (bd + 1) 3 1 v (n + 1) (l ++ [.int .i64 (endAt now r)]) ∧ (v.ownBlock = row ∨ ∃ g, v.ownBlock = some g ∧ B0 ≤ g)
  | 26 => v = .pointer (some ⟨sb, 2, none⟩)
  | _ => True
def WS (B bd sb : Nat) (row : Option Nat) (B0 : Nat) (v0 : Value) (n : Nat) (l : List Value) (now : Int) (r : List Int) (w0 : World) (k : Nat) (w : World) : Prop :=
  Dk w B bd (dr r (min k 2)) ∧ (k < 3 → w.heap[sb]? = some (.cells #[.int .i64 (-1), .int .i64 0, v0] 46 (0, 0)) ∧ w.ownsRow (bd + 1) 3 1 v0 n l) ∧
    (k = 3 → w.heap[sb]? = some (.cells #[.int .i64 (-1), .int .i64 0, v0] 46 (0, 0))) ∧ B0 ≤ w.heap.size ∧ Soft.RG (fun j => j = bd ∨ some j = row ∨ j = sb) w0 w ∧
    (4 ≤ k → ∃ v, w.heap[sb]? = some (.cells #[.int .i64 (-1), .int .i64 0, v] 46 (0, 0)) ∧ w.ownsRow (bd + 1) 3 1 v (n + 1) (l ++ [.int .i64 (endAt now r)]) ∧ (v.ownBlock = row ∨ ∃ g, v.ownBlock = some g ∧ B0 ≤ g))
section
variable {B bd sb : Nat} {row : Option Nat} {B0 : Nat} {v0 : Value} {n : Nat} {l : List Value} {now : Int} {r : List Int} {w0 : World} {k : Nat} {w w' : World}
theorem lt_of_block {w : World} {g : Nat} {o : Obj} (h : w.heap[g]? = some o) : g < w.heap.size := (Array.getElem?_eq_some_iff.1 h).1
theorem WS_alloc (h : WS B bd sb row B0 v0 n l now r w0 k w) (o : Obj) : WS B bd sb row B0 v0 n l now r w0 k (w.alloc o) := by
  obtain ⟨h1, h2, h3, h4, h5, h6⟩ := h
  have al : ∀ {g : Nat} {b : Obj}, w.heap[g]? = some b → (w.alloc o).heap[g]? = some b := fun hb => (Below.heap_alloc w o _ (lt_of_block hb)).trans hb
  exact ⟨h1.alloc o, fun hk => ⟨al (h2 hk).1, (h2 hk).2.alloc o⟩, fun hk => al (h3 hk), Nat.le_trans h4 (by simp), h5.trans (Soft.RG_alloc (E := fun _ => False) w o) (fun _ _ h => h.elim), fun hk => by
    obtain ⟨v, a, b, c⟩ := h6 hk
    exact ⟨v, al a, b.alloc o, c⟩⟩
theorem WS_next (hb : bd < sb) (h : WS B bd sb row B0 v0 n l now r w0 k w) (hg : w.grownBy w' (some bd)) (hk : k < 2) (hD : Dk w' B bd (dr r (min k 2)).tail) : WS B bd sb row B0 v0 n l now r w0 (k + 1) w' := by
  obtain ⟨h1, h2, h3, h4, h5, h6⟩ := h
  have g2 := h2 (by omega)
  refine ⟨?_, fun _ => ⟨(hg.block sb (lt_of_block g2.1) (fun e => by injection e; omega)).trans g2.1, g2.2.kept hg ?_⟩, fun hk' => absurd hk' (by omega), Nat.le_trans h4 hg.size, h5.trans (Soft.RG_grown (E := fun j => j = bd) hg (fun g e => by injection e with e; exact e.symm)) (fun j _ e => .inl e), fun hk' => absurd hk' (by omega)⟩
  · rw [show min k 2 = k by omega] at hD
    rw [show min (k + 1) 2 = k + 1 by omega]
    exact hD.tl
  · cases hv : v0.ownBlock with
    | none => exact .inl rfl
    | some g =>
      right
      have := (g2.2.lt g hv).1
      intro e
      injection e with e
      omega
theorem ΦS_stab (hB : bd < B0) (hS : sb < B0) (hrow : ∀ g, row = some g → g < B0) (hrs : row ≠ some sb) (t k : Nat) (c : Bool) (v : Value) (w w' : World) (hR : Soft.RG (ES bd sb row k) w w') (h : ΦS bd sb row B0 v0 n l now r t k v w) : ΦS bd sb row B0 v0 n l now r t (if c then k + 1 else k) v w' := by
  have blk : ∀ g, B0 ≤ g → g < w.heap.size → w'.heap[g]? = w.heap[g]? := fun g hg hlt => hR.block g hlt (by
    rintro (e | ⟨_, e⟩ | ⟨_, e⟩)
    · omega
    · have := hrow g e.symm; omega
    · omega)
  have own : (3 ≤ k ∧ w.ownsRow (bd + 1) 3 1 v (n + 1) (l ++ [.int .i64 (endAt now r)]) ∧ (v.ownBlock = row ∨ ∃ g, v.ownBlock = some g ∧ B0 ≤ g)) →
      (3 ≤ (if c then k + 1 else k) ∧ w'.ownsRow (bd + 1) 3 1 v (n + 1) (l ++ [.int .i64 (endAt now r)]) ∧ (v.ownBlock = row ∨ ∃ g, v.ownBlock = some g ∧ B0 ≤ g)) := by
    rintro ⟨h6, ho, hb⟩
    refine ⟨by split <;> omega, hR.own ho fun g hg => ?_, hb⟩
    have h1 := (ho.lt g hg).1
    rintro (e | ⟨_, e⟩ | ⟨_, e⟩)
    · omega
    · omega
    · rcases hb with hb | ⟨g', hb, hb'⟩
      · rw [hg, e] at hb; exact hrs hb.symm
      · rw [hg] at hb; injection hb with hb; omega
  unfold ΦS at h ⊢
  split at h
  all_goals first
    | exact h
    | exact own h
    | (obtain ⟨g, e, hg, hb⟩ := h; exact ⟨g, e, hg, (blk g hg (lt_of_block hb)).trans hb⟩)
    | (obtain ⟨g, j, e, hg, hlt', hb⟩ := h; exact ⟨g, j, e, hg, Nat.lt_of_lt_of_le hlt' hR.size, (World.cell?_of_block (a := ⟨g, j, none⟩) (blk g hg hlt')).trans hb⟩)
end

def endsN (now : Int) (r : List Int) (k : Nat) : List Int := (List.range k).map fun i => endAt now (dr r (2 * i))
def ints (xs : List Int) : List Value := xs.map (.int .i64)
theorem endsN_succ (now : Int) (r : List Int) (k : Nat) : ints (endsN now r (k + 1)) = ints (endsN now r k) ++ [.int .i64 (endAt now (dr r (2 * k)))] := by
  simp [ints, endsN, List.range_succ]
def svcP (ph : Nat) (r : List Int) : Int := if nx (dr r (2 * ph)) 2 = 0 then nx (dr r (2 * ph + 1)) ph else -1
def svcG (ph : Nat) (r : List Int) : Int := if nx (dr r (2 * ph)) 2 = 0 then nx (dr r (2 * ph + 2)) 4 else 0
def svcR (ph : Nat) (r : List Int) : List Int := if nx (dr r (2 * ph)) 2 = 0 then dr r (2 * ph + 3) else dr r (2 * ph + 1)

/-- Behind i rounds. -/
def SvcI (B bd ph : Nat) (r : List Int) (now : Int) (w : World) (k : Value) (wr : World) : Prop :=
  ∃ (i : Nat) (v : Value), i ≤ ph ∧ k = .int .i64 i ∧ wr.heap[w.heap.size + 1]? = some (.cells #[.int .i64 (-1), .int .i64 0, v] 46 (0, 0)) ∧ wr.ownsRow (bd + 1) 3 1 v i (ints (endsN now r i)) ∧
    (∀ g, v.ownBlock = some g → w.heap.size + 2 ≤ g) ∧ Soft.RG (fun j => j = bd ∨ w.heap.size + 1 ≤ j) (w.alloc (.cells #[.int .i64 0, .int .i64 0, .slice none 0 0] 46)) wr ∧ Dk wr B bd (dr r (2 * i))

set_option maxHeartbeats 1000000 in
theorem service_w (B bd : Nat) (r : List Int) (ph : Nat) (now : Int) (w : World) (hd : Dk w B bd r) (hp1 : 1 ≤ ph) (hp2 : ph ≤ 1000) (hn1 : 0 ≤ now) (hn2 : now ≤ 1000000) :
    Calls Try.prog 45 #[.pointer (some ⟨bd, 0, none⟩), .int .i64 ph, .int .i64 now] w fun e w' => ∃ v, e = .returned (.agg #[.int .i64 (svcP ph r), .int .i64 (svcG ph r), v]) ∧ w'.ownsRow (bd + 1) 3 1 v ph (ints (endsN now r ph)) ∧ (∀ g, v.ownBlock = some g → w.heap.size ≤ g) ∧
      w.grownBy w' (some bd) ∧ Dk w' B bd (svcR ph r) := by
  have hbw := hd.lt
  go_enter Try.func45, Try.ntmps45
  go_wp2
  go_loopw [10] (fun k wr => SvcI B bd ph r now w k wr) (fun k _ => ph - (intOf k).toNat)
  case atStart =>
    exact ⟨0, .slice none 0 0, Nat.zero_le _, rfl, (by have := heap_alloc_new (w.alloc (.cells #[.int .i64 0, .int .i64 0, .slice none 0 0] 46)) (.cells #[.int .i64 (-1), .int .i64 0, .slice none 0 0] 46); simpa using this), World.ownsRow_nil _ _ _ _, fun _ h => absurd h (by simp [Value.ownBlock]), Soft.RG_alloc _ _, (hd.alloc _).alloc _⟩
  case round =>
    obtain ⟨i, v0, hi, rfl, hsb, hown, hnew, hrg, hD⟩ := hrel
    by_cases hlt : i < ph
    · go_wp2_with fail
      have hB : bd < wr.heap.size := hD.lt
      have hrow : ∀ g, v0.ownBlock = some g → g < wr.heap.size := fun g hg => (hown.lt g hg).2
      have hvs0 : v0.ownBlock ≠ some (w.heap.size + 1) := fun e => by have := hnew _ e; omega
      have hbd0 : bd < w.heap.size + 1 := by omega
      have hsw : w.heap.size + 1 < wr.heap.size := lt_of_block hsb
      have HB := Lib.hid hsb
      have HO := Lib.hid hown
      have HD := Lib.hid hD
      have HN := Lib.hid hnew
      have HG := Lib.hid hrg
      have HR := Lib.hid hrow
      have HV := Lib.hid hvs0
      clear hsb hown hD hnew hrg hrow hvs0
      obtain ⟨q, hq⟩ : ∃ q, q = dr r (2 * i) := ⟨_, rfl⟩
      rw [← hq] at HD
      have HQ0 := Lib.hid hq
      clear hq
      obtain ⟨sb, hsb⟩ : ∃ sb, sb = w.heap.size + 1 := ⟨_, rfl⟩
      rw [← hsb] at HB HV hbd0 hsw ⊢
      have HSB := Lib.hid hsb
      clear hsb
      have hbd := hbd0
      have hvs : v0.ownBlock ≠ some sb := HV.out
      have HVS := Lib.hid hvs
      clear hvs
      refine Soft.regionV [[],[0],[],[],[3],[2,3,4],[2,3,4,5],[2,3,4,5,6],[],[3,4,8],[2,3,4,5,6,7,8,9],[2,3,4,5,6,7,8,9,10],[2,3,4,5,6,7,8,9,10,11],[0,1,2,3,4,5,6,7,8,9,10,11,12],[0,1,2,3,4,5,6,7,8,9,10,11,12,13],[0,1,2,3,4,5,6,7,8,9,10,11,12,13,14]] [⟨[],[7],0,2,false⟩,⟨[12],[],0,2,false⟩,⟨[],[2],0,2,false⟩,⟨[],[0],0,0,false⟩,⟨[15],[],0,0,true⟩,⟨[14,16],[],1,2,false⟩,⟨[17],[],1,2,false⟩,⟨[18],[],1,2,false⟩,⟨[],[0],0,1,false⟩,⟨[20],[],1,1,true⟩,⟨[19,21],[],2,2,false⟩,⟨[22],[],2,2,false⟩,⟨[23],[],2,2,false⟩,⟨[13,24],[],2,2,true⟩,⟨[],[7],3,3,false⟩,⟨[25,26],[],3,3,true⟩] 4 39 [12,13,14,15,16,17,18,19,20,21,22,23,24,25,26] (by kernel_rfl) rfl (by kernel_rfl) (ΦS bd sb v0.ownBlock wr.heap.size v0 i (ints (endsN now r i)) now q) (WS B bd sb v0.ownBlock wr.heap.size v0 i (ints (endsN now r i)) now q wr) (fun k => Soft.RG (ES bd sb v0.ownBlock k)) (ΦS_stab hB hsw HR.out HVS.out)
        ⟨HD.out.drew, fun _ => ⟨HB.out, HO.out⟩, fun _ => HB.out, Nat.le_refl _, Soft.RG_drew _, fun h => absurd h (by omega)⟩ ⟨?_, ?_, ?_, ?_, ?_, ?_, ?_, ?_, ?_, ?_, ?_, ?_, ?_, ?_, ?_, ?_, trivial⟩ ?_
      · -- 0: slot 12 := Op.fieldAddr 46 (t7) 2
        intro ρ w k hρ h1 h2 hW hv hf next hK
        have hc := hρ.const; have hfn := hρ.func
        have e7 := hf 7 (by simp)
        have HW := Lib.hid hW; clear hW hv hf h1 h2 hρ
        go_simp; try go_bits
        exact hK _ _ (Soft.RG_refl _) (fun t ht => by cases ht; exact rfl) HW.out
      · -- 1: slot 13 := Op.load 22 (t12)
        intro ρ w k hρ h1 h2 hW hv hf next hK
        have hc := hρ.const; have hfn := hρ.func
        have e12 := hv 12 (by simp)
        simp only [ΦS] at e12
        have HW := Lib.hid hW; clear hW hv hf h1 hρ
        have hc2 : w.cell? ⟨sb, 2, none⟩ = some v0 := cell_of_row w sb 2 _ _ (0, 0) (HW.out.2.1 (by have h2' : k ≤ 2 := h2; omega)).1
        clear h2
        go_simp; try go_bits
        exact hK _ _ (Soft.RG_refl _) (fun t ht => by cases ht; exact rfl) HW.out
      · -- 2: slot 14 := Op.move (t2)
        intro ρ w k hρ h1 h2 hW hv hf next hK
        have hc := hρ.const; have hfn := hρ.func
        have e2 := hf 2 (by simp)
        have HW := Lib.hid hW; clear hW hv hf h1 h2 hρ
        go_simp; try go_bits
        exact hK _ _ (Soft.RG_refl _) (fun t ht => by cases ht; exact rfl) HW.out
      · -- 3: slot 15 := Op.move (t0)
        intro ρ w k hρ h1 h2 hW hv hf next hK
        have hc := hρ.const; have hfn := hρ.func
        have e0 := hf 0 (by simp)
        obtain rfl : k = 0 := Nat.le_antisymm h2 h1
        have HW := Lib.hid hW; clear hW hv hf h1 h2 hρ
        go_simp; try go_bits
        exact hK _ _ (Soft.RG_refl _) (fun t ht => by cases ht; exact rfl) HW.out
      · -- 4: slot 16 := Op.call { callee := Callee.value (Operand.func 38), args := #[t15, Operand.const (Value.int IntKind.i64 6)], argTypes := #[27, 3] }
        intro ρ w k hρ h1 h2 hW hv hf next hK
        have hc := hρ.const; have hfn := hρ.func
        have e15 := hv 15 (by simp)
        simp only [ΦS] at e15
        obtain rfl : k = 0 := Nat.le_antisymm h2 h1
        have HW := Lib.hid hW; clear hW hv hf h1 h2 hρ
        go_simp; try go_bits
        refine (next_w B bd _ _ _ (by omega) (by omega) (HW.out.1)).mono ?_
        rintro e w' ⟨rfl, hg, hD⟩
        exact ⟨_, rfl, hK _ _ (Soft.RG_grown hg (fun g e => .inl (by injection e with e; exact e.symm))) (fun t ht => by cases ht; exact rfl) (WS_next hbd HW.out hg (by omega) hD)⟩
      · -- 5: slot 17 := Op.binOp BinOp.sub 3 (t14) (t16) 3
        intro ρ w k hρ h1 h2 hW hv hf next hK
        have hc := hρ.const; have hfn := hρ.func
        have e14 := hv 14 (by simp)
        have e16 := hv 16 (by simp)
        simp only [ΦS] at e14 e16
        have HW := Lib.hid hW; clear hW hv hf h1 h2 hρ
        have hb := nx_bd (dr q 0) 6 (by omega)
        go_simp; try go_bits
        exact hK _ _ (Soft.RG_refl _) (fun t ht => by cases ht; exact rfl) HW.out
      · -- 6: slot 18 := Op.call { callee := Callee.builtin Builtin.max, args := #[Operand.const (Value.int IntKind.i64 (-1)), t17], argTypes := #[3, 3] }
        intro ρ w k hρ h1 h2 hW hv hf next hK
        have hc := hρ.const; have hfn := hρ.func
        have e17 := hv 17 (by simp)
        simp only [ΦS] at e17
        have HW := Lib.hid hW; clear hW hv hf h1 h2 hρ
        go_simp; try go_bits
        exact hK _ _ (Soft.RG_refl _) (fun t ht => by cases ht; exact congrArg _ (max_if' _ _)) HW.out
      · -- 7: slot 19 := Op.buildSlice 22 3 #[(0, Operand.const (Value.int IntKind.i64 (-1))), (1, Operand.const (Value.int IntKind.i64 0)), (2, t18)]
        intro ρ w k hρ h1 h2 hW hv hf next hK
        have hc := hρ.const; have hfn := hρ.func
        have e18 := hv 18 (by simp)
        simp only [ΦS] at e18
        have HW := Lib.hid hW; clear hW hv hf h1 h2 hρ
        go_simp; try go_bits
        exact hK _ _ (Soft.RG_alloc _ _) (fun t ht => by cases ht; exact ⟨_, rfl, HW.out.2.2.2.1, heap_alloc_new _ _⟩) (WS_alloc HW.out _)
      · -- 8: slot 20 := Op.move (t0)
        intro ρ w k hρ h1 h2 hW hv hf next hK
        have hc := hρ.const; have hfn := hρ.func
        have e0 := hf 0 (by simp)
        have HW := Lib.hid hW; clear hW hv hf h1 h2 hρ
        go_simp; try go_bits
        exact hK _ _ (Soft.RG_refl _) (fun t ht => by cases ht; exact rfl) HW.out
      · -- 9: slot 21 := Op.call { callee := Callee.value (Operand.func 38), args := #[t20, Operand.const (Value.int IntKind.i64 3)], argTypes := #[27, 3] }
        intro ρ w k hρ h1 h2 hW hv hf next hK
        have hc := hρ.const; have hfn := hρ.func
        have e20 := hv 20 (by simp)
        simp only [ΦS] at e20
        obtain rfl : k = 1 := Nat.le_antisymm h2 h1
        have HW := Lib.hid hW; clear hW hv hf h1 h2 hρ
        go_simp; try go_bits
        refine (next_w B bd _ _ _ (by omega) (by omega) (HW.out.1)).mono ?_
        rintro e w' ⟨rfl, hg, hD⟩
        exact ⟨_, rfl, hK _ _ (Soft.RG_grown hg (fun g e => .inl (by injection e with e; exact e.symm))) (fun t ht => by cases ht; exact rfl) (WS_next hbd HW.out hg (by omega) hD)⟩
      · -- 10: slot 22 := Op.indexAddr 22 (t19) (t21)
        intro ρ w k hρ h1 h2 hW hv hf next hK
        have hc := hρ.const; have hfn := hρ.func
        have e19 := hv 19 (by simp)
        have e21 := hv 21 (by simp)
        simp only [ΦS] at e21
        obtain ⟨g, e19, hg, hblk⟩ := e19
        obtain ⟨z, hq⟩ := Int.eq_ofNat_of_zero_le (nx_bd (dr q 1) 3 (by omega)).1
        have hz3 : z < 3 := by have := (nx_bd (dr q 1) 3 (by omega)).2; omega
        have hz6 : (z : Int) < 3 := by omega
        have HQ := Lib.hid hq
        rw [hq] at e21
        have HB := Lib.hid hblk
        clear hblk hq
        obtain rfl : k = 2 := Nat.le_antisymm h2 h1
        have HW := Lib.hid hW; clear hW hv hf h1 h2 hρ
        go_simp; try go_bits
        refine hK _ _ (Soft.RG_refl _) (fun t ht => by
          cases ht
          refine ⟨g, z, rfl, hg, (Array.getElem?_eq_some_iff.1 HB.out).1, ?_⟩
          rw [cell_of_row _ g z _ _ (0, 0) HB.out]
          exact end_at now q z hz3 HQ.out) HW.out
      · -- 11: slot 23 := Op.load 3 (t22)
        intro ρ w k hρ h1 h2 hW hv hf next hK
        have hc := hρ.const; have hfn := hρ.func
        have e22 := hv 22 (by simp)
        obtain ⟨g, j, e22, hg, hlt, hcell⟩ := e22
        obtain rfl : k = 2 := Nat.le_antisymm h2 h1
        have HW := Lib.hid hW; clear hW hv hf h1 h2 hρ
        go_simp; try go_bits
        exact hK _ _ (Soft.RG_refl _) (fun t ht => by cases ht; exact rfl) HW.out
      · -- 12: slot 24 := Op.buildSlice 22 1 #[(0, t23)]
        intro ρ w k hρ h1 h2 hW hv hf next hK
        have hc := hρ.const; have hfn := hρ.func
        have e23 := hv 23 (by simp)
        simp only [ΦS] at e23
        obtain rfl : k = 2 := Nat.le_antisymm h2 h1
        have HW := Lib.hid hW; clear hW hv hf h1 h2 hρ
        go_simp; try go_bits
        exact hK _ _ (Soft.RG_alloc _ _) (fun t ht => by cases ht; exact ⟨_, rfl, HW.out.2.2.2.1, heap_alloc_new _ _⟩) (WS_alloc HW.out _)
      · -- 13: slot 25 := Op.call { callee := Callee.builtin Builtin.append, args := #[t13, t24], argTypes := #[22, 22] }
        intro ρ w k hρ h1 h2 hW hv hf next hK
        have hc := hρ.const; have hfn := hρ.func
        have e13 := hv 13 (by simp)
        have e24 := hv 24 (by simp)
        simp only [ΦS] at e13
        obtain ⟨g, e24, hg, hblk⟩ := e24
        have HB := Lib.hid hblk
        clear hblk
        obtain rfl : k = 2 := Nat.le_antisymm h2 h1
        have HW := Lib.hid hW; clear hW hv hf h1 h2 hρ
        have hW2 := HW.out.2.1 (by omega)
        obtain ⟨i0, hi0, hz0, hz1, hz2⟩ := info_parts int_info
        obtain ⟨v', w', hrun, hown', hgr, _, hat⟩ := run_append_own_at (P := Try.prog) w (bd + 1) 22 22 3 i0 _ 1 8 Try.underlying22 hi0 hz0 hz1 hz2 rfl (by omega) v0 i (ints (endsN now r i)) hW2.2 ⟨g, 0, none⟩ 1 1 [.int .i64 (endAt now q)] rfl
          (fun j u hu => World.news_of_block HB.out j u (by simpa using hu)) (fun u hu => by simp at hu; subst hu; rfl) (by simp only [maxLen]; omega) (by omega) (by have := HW.out.1.lt; omega)
        refine Soft.uponV_append (by rw [e13, e24]; exact hrun) ?_
        have hne : ∀ j, v0.ownBlock = some j → j ≠ bd ∧ j ≠ sb := fun j hj => ⟨fun e => by have := (hW2.2.lt j hj).1; omega, fun e => HVS.out (by rw [hj, e])⟩
        exact hK _ _ (Soft.RG_grown hgr (fun j hj => .inr (.inl ⟨rfl, hj.symm⟩))) (fun t ht => by cases ht; exact ⟨Nat.le_refl _, hown', hat.imp id fun e => ⟨_, e, HW.out.2.2.2.1⟩⟩)
          ⟨HW.out.1.grown hgr (fun j hj => by
              have h1 := (hW2.2.lt j hj).1
              have h2 := HW.out.1.le
              have h3 := (hne j hj).1
              omega), fun h => absurd (show 3 < 3 from h) (Nat.lt_irrefl 3),
            fun _ => (hgr.block sb (Array.getElem?_eq_some_iff.1 hW2.1).1 (fun e => (hne sb e.symm).2 rfl)).trans hW2.1, Nat.le_trans HW.out.2.2.2.1 hgr.size,
            HW.out.2.2.2.2.1.trans (Soft.RG_grown (E := fun j => some j = v0.ownBlock) hgr (fun g e => e.symm)) (fun j _ e => .inr (.inl e)), fun h => absurd (show 4 ≤ 3 from h) (by omega)⟩
      · -- 14: slot 26 := Op.fieldAddr 46 (t7) 2
        intro ρ w k hρ h1 h2 hW hv hf next hK
        have hc := hρ.const; have hfn := hρ.func
        have e7 := hf 7 (by simp)
        obtain rfl : k = 3 := Nat.le_antisymm h2 h1
        have HW := Lib.hid hW; clear hW hv hf h1 h2 hρ
        go_simp; try go_bits
        exact hK _ _ (Soft.RG_refl _) (fun t ht => by cases ht; exact rfl) HW.out
      · -- 15: slot None := Op.store 22 (t26) (t25)
        intro ρ w k hρ h1 h2 hW hv hf next hK
        have hc := hρ.const; have hfn := hρ.func
        have e25 := hv 25 (by simp)
        have e26 := hv 26 (by simp)
        simp only [ΦS] at e26
        have E25 := Lib.hid e25
        clear e25
        obtain rfl : k = 3 := Nat.le_antisymm h2 h1
        have HW := Lib.hid hW; clear hW hv hf h1 h2 hρ
        have hb3 := HW.out.2.2.1 rfl
        have hsl : ∃ A1 n1 c1, ρ (.tmp 25) = .slice A1 n1 c1 := by
          rcases E25.out.2.1.2 with ⟨e, _⟩ | ⟨g, cap, cur, e, _⟩
          · exact ⟨_, _, _, e⟩
          · exact ⟨_, _, _, e⟩
        obtain ⟨A1, n1, c1, hsl⟩ := hsl
        have hc2 : w.cell? ⟨sb, 2, none⟩ = some v0 := cell_of_row w sb 2 _ _ (0, 0) hb3
        have hfz : w.frozen? ⟨sb, 2, none⟩ = false := by simp [World.frozen?, hb3]
        have HS := Lib.hid hb3
        clear hb3
        go_simp; try go_bits
        have hown := E25.out.2.1
        rw [hsl] at hown
        have hslt := (Array.getElem?_eq_some_iff.1 HS.out).1
        have hnb : ∀ g, (Value.slice A1 n1 c1).ownBlock = some g → g ≠ sb ∧ g ≠ bd := by
          intro g hg
          refine ⟨?_, fun e => by have := (hown.lt g hg).1; omega⟩
          rcases E25.out.2.2 with e | ⟨g', e, hb⟩
          · rw [hsl, hg] at e
            intro e2
            exact HVS.out (by rw [← e, e2])
          · rw [hsl, hg] at e
            injection e with e
            omega
        refine hK _ _ (Soft.RG_set _ _ _ (.inr (.inr ⟨rfl, rfl⟩))) (fun t ht => by cases ht) ⟨?_, fun h => absurd (show 4 < 3 from h) (by omega), fun h => absurd (show 4 = 3 from h) (by omega), ?_, ?_, fun _ => ⟨.slice A1 n1 c1, ?_, ?_, ?_⟩⟩
        · exact HW.out.1.setCell (p := ⟨sb, 2, none⟩) (by have := HW.out.1.le; simp; omega) (by simp; omega) _
        · simpa [World.setCell] using HW.out.2.2.2.1
        · exact HW.out.2.2.2.2.1.trans (Soft.RG_set (E := fun j => j = sb) w ⟨sb, 2, none⟩ _ rfl) (fun j _ e => .inr (.inr e))
        · simp [World.setCell, Array.getElem?_modify, HS.out]
        · exact (Soft.RG_set (E := fun j => j = sb) w ⟨sb, 2, none⟩ _ rfl).own hown (fun g hg => (hnb g hg).1)
        · rw [← hsl]; exact E25.out.2.2

      · intro u w' hW _
        have hsb := HSB.out
        clear HSB
        subst hsb
        have HW := Lib.hid hW
        clear hW
        simp only [Soft.putAll, Act.put, List.setIfInBounds_toArray, List.set_cons_succ, List.set_cons_zero]
        go_wp2
        go_roundw
        case rel =>
          obtain ⟨h1, _, _, h4, h5, h6⟩ := HW.out
          obtain ⟨v, b1, b2, b3⟩ := h6 (Nat.le_refl _)
          refine ⟨i + 1, v, by omega, by go_num, ?_, ?_, fun g hg => ?_, ?_, ?_⟩
          · exact b1
          · rw [endsN_succ, ← HQ0.out]; exact b2
          · rcases b3 with e | ⟨g', e, hb⟩
            · exact HN.out g (e ▸ hg)
            · rw [hg] at e
              injection e with e
              omega
          · refine HG.out.trans h5 fun j hj e => ?_
            rcases e with e | e | e
            · exact .inl e
            · have := HN.out j e.symm
              exact .inr (by omega)
            · exact .inr (by omega)
          · have := h1
            rw [HQ0.out, dr_dr] at this
            exact this
        case measure => simp [intOf]; omega
    · have hiK : i = ph := by omega
      subst hiK
      have hsw : w.heap.size + 1 < wr.heap.size := lt_of_block hsb
      have hrb : wr.heap[w.heap.size]? = some (.cells #[.int .i64 0, .int .i64 0, .slice none 0 0] 46 (0, 0)) :=
        (hrg.block w.heap.size (by simp) (by omega)).trans (heap_alloc_new _ _)
      have hs0 : wr.cell? ⟨w.heap.size + 1, 0, none⟩ = some (.int .i64 (-1)) := cell_of_row wr _ 0 _ _ (0, 0) hsb
      have hs1 : wr.cell? ⟨w.heap.size + 1, 1, none⟩ = some (.int .i64 0) := cell_of_row wr _ 1 _ _ (0, 0) hsb
      have hs2 : wr.cell? ⟨w.heap.size + 1, 2, none⟩ = some v0 := cell_of_row wr _ 2 _ _ (0, 0) hsb
      have hr0 : wr.cell? ⟨w.heap.size, 0, none⟩ = some (.int .i64 0) := cell_of_row wr _ 0 _ _ (0, 0) hrb
      have hr1 : wr.cell? ⟨w.heap.size, 1, none⟩ = some (.int .i64 0) := cell_of_row wr _ 1 _ _ (0, 0) hrb
      have hr2 : wr.cell? ⟨w.heap.size, 2, none⟩ = some (.slice none 0 0) := cell_of_row wr _ 2 _ _ (0, 0) hrb
      have hf0 : ∀ j, wr.frozen? ⟨w.heap.size + 1, j, none⟩ = false := fun j => by simp [World.frozen?, hsb]
      have hf1 : ∀ j, wr.frozen? ⟨w.heap.size, j, none⟩ = false := fun j => by simp [World.frozen?, hrb]
      have hsw2 : w.heap.size < wr.heap.size := by omega
      have hne1 : ¬ w.heap.size + 1 = bd := by omega
      have hne2 : ¬ w.heap.size = bd := by omega
      obtain ⟨A0, n0, c0, hv0⟩ : ∃ A0 n0 c0, v0 = .slice A0 n0 c0 := by
        rcases hown.2 with ⟨e, _⟩ | ⟨g, cap, cur, e, _⟩
        · exact ⟨_, _, _, e⟩
        · exact ⟨_, _, _, e⟩
      subst hv0
      have HO := Lib.hid hown
      have HN := Lib.hid hnew
      have HG := Lib.hid hrg
      clear hsb hown hnew hrg hrb
      have hfin : ∀ W : World, Soft.RG (fun j => j = bd ∨ j = w.heap.size ∨ j = w.heap.size + 1) wr W → W.ownsRow (bd + 1) 3 1 (.slice A0 n0 c0) i (ints (endsN now r i)) ∧ w.grownBy W (some bd) := by
        intro W hR
        refine ⟨hR.own HO.out fun g hg => ?_, ?_⟩
        · have h1 := HN.out g hg
          have h2 := (HO.out.lt g hg).1
          omega
        · have h1 : Soft.RG (fun j => j = bd ∨ w.heap.size ≤ j) w W := ((Soft.RG_alloc (E := fun j => j = bd ∨ w.heap.size ≤ j) w _).trans HG.out (fun j _ e => e.imp id (fun e => by omega))).trans hR (fun j _ e => e.imp id (fun e => by omega))
          exact h1.to_grown fun j hj e => e.resolve_right (by omega)
      have HF := Lib.hid hfin
      clear hfin
      by_cases hc : nx (dr r (2 * i)) 2 = 0
      · have hc' : (nx (dr r (2 * i)) 2 == 0) = true := by simp [hc]
        have eP : Hid (svcP i r = nx (dr r (2 * i + 1)) i) := if_pos hc
        have eG : Hid (svcG i r = nx (dr r (2 * i + 2)) 4) := if_pos hc
        have eR : Hid (svcR i r = dr r (2 * i + 3)) := if_pos hc
        have hcc := Lib.hid hc
        clear hc
        go_wp2_with (go_at_call 38; (first | (with_reducible refine (Calls.deck (next_w B bd _ _ _ (by omega) (by omega) (by assumption))).mono ?_) | (with_reducible refine (Calls.deck0 (next_w B bd _ _ _ (by omega) (by omega) (by assumption))).mono ?_)); rintro e w' ⟨rfl, x, rfl, hDk⟩)
        refine bodyPost_ret (v := .agg #[.int .i64 (nx (dr r (2 * i + 1)) i), .int .i64 (nx (dr r (2 * i + 2)) 4), .slice A0 n0 c0]) (by simp [results, Try.results45, go_sem, dr_tail, hr0, hr1, hr2, hsw2, hne2]) rfl ⟨.slice A0 n0 c0, by rw [eP.out, eG.out], ?_, ?_, ?_, ?_⟩
        · exact (HF.out _ (by (repeat (first | with_reducible exact Soft.RG_refl _ | with_reducible assumption | with_reducible refine rg_set ?_ _ _ (by simp) | with_reducible refine rg_extD ?_ _ (by simp) | with_reducible refine rg_alloc ?_ _ | with_reducible refine rg_drew ?_ | with_reducible refine rg_ext ?_ _)))).1
        · exact fun g hg => by have := HN.out g hg; omega
        · exact (HF.out _ (by (repeat (first | with_reducible exact Soft.RG_refl _ | with_reducible assumption | with_reducible refine rg_set ?_ _ _ (by simp) | with_reducible refine rg_extD ?_ _ (by simp) | with_reducible refine rg_alloc ?_ _ | with_reducible refine rg_drew ?_ | with_reducible refine rg_ext ?_ _)))).2
        · rw [eR.out]
          have hD3 : Dk x.world B bd (dr r (2 * i + 3)) := by
            have h3 := hDk
            simp only [dr_tail] at h3
            exact h3
          have hle := hd.le
          (repeat (first | with_reducible assumption | with_reducible refine Dk.drew ?_ | with_reducible refine Dk.alloc ?_ _ | with_reducible refine Dk.setCell ?_ (by simp; omega) (by simp; omega) _ | with_reducible refine Dk.ext ?_ _))
      · have hc' : (nx (dr r (2 * i)) 2 == 0) = false := by simp [hc]
        have eP : Hid (svcP i r = -1) := if_neg hc
        have eG : Hid (svcG i r = 0) := if_neg hc
        have eR : Hid (svcR i r = dr r (2 * i + 1)) := if_neg hc
        have hcc := Lib.hid hc
        clear hc
        go_wp2_with (go_at_call 38; (first | (with_reducible refine (Calls.deck (next_w B bd _ _ _ (by omega) (by omega) (by assumption))).mono ?_) | (with_reducible refine (Calls.deck0 (next_w B bd _ _ _ (by omega) (by omega) (by assumption))).mono ?_)); rintro e w' ⟨rfl, x, rfl, hDk⟩)
        refine bodyPost_ret (v := .agg #[.int .i64 (-1), .int .i64 0, .slice A0 n0 c0]) (by simp [results, Try.results45, go_sem, hr0, hr1, hr2, hsw2, hne2]) rfl ⟨.slice A0 n0 c0, by rw [eP.out, eG.out], ?_, ?_, ?_, ?_⟩
        · exact (HF.out _ (by (repeat (first | with_reducible exact Soft.RG_refl _ | with_reducible assumption | with_reducible refine rg_set ?_ _ _ (by simp) | with_reducible refine rg_extD ?_ _ (by simp) | with_reducible refine rg_alloc ?_ _ | with_reducible refine rg_drew ?_ | with_reducible refine rg_ext ?_ _)))).1
        · exact fun g hg => by have := HN.out g hg; omega
        · exact (HF.out _ (by (repeat (first | with_reducible exact Soft.RG_refl _ | with_reducible assumption | with_reducible refine rg_set ?_ _ _ (by simp) | with_reducible refine rg_extD ?_ _ (by simp) | with_reducible refine rg_alloc ?_ _ | with_reducible refine rg_drew ?_ | with_reducible refine rg_ext ?_ _)))).2
        · rw [eR.out]
          have hD3 : Dk x.world B bd (dr r (2 * i + 1)) := by
            have h3 := hDk
            simp only [dr_tail] at h3
            exact h3
          have hle := hd.le
          (repeat (first | with_reducible assumption | with_reducible refine Dk.drew ?_ | with_reducible refine Dk.alloc ?_ _ | with_reducible refine Dk.setCell ?_ (by simp; omega) (by simp; omega) _ | with_reducible refine Dk.ext ?_ _))
end Go.Proofs.Ytlabfbpnkjigoaa
