/- law20.setting: a configuration, a service and claims off a deck. -/
import Derived.Test.YtlabfbpnkjigoaaRead
namespace Go.Proofs.Ytlabfbpnkjigoaa
open Go.RowKit

theorem service_i (B bd : Nat) (r : List Int) (ph : Int) (now : Int) (w : World) (hd : Dk w B bd r) (hp1 : 1 ≤ ph) (hp2 : ph ≤ 1000) (hn1 : 0 ≤ now) (hn2 : now ≤ 1000000) :
    Calls Try.prog 45 #[.pointer (some ⟨bd, 0, none⟩), .int .i64 ph, .int .i64 now] w fun e w' => ∃ v, e = .returned (.agg #[.int .i64 (svcP ph.toNat r), .int .i64 (svcG ph.toNat r), v]) ∧ w'.ownsRow (bd + 1) 3 1 v ph.toNat (ints (endsN now r ph.toNat)) ∧ (∀ g, v.ownBlock = some g → w.heap.size ≤ g) ∧
      w.grownBy w' (some bd) ∧ Dk w' B bd (svcR ph.toNat r) := by
  have e : ph = (ph.toNat : Int) := (Int.toNat_of_nonneg (by omega)).symm
  have h := service_w B bd r ph.toNat now w hd (by omega) (by omega) hn1 hn2
  rw [← e] at h
  exact h

theorem ownsRow_base {w : World} {base base' : Nat} {e : TypeId} {size : Nat} {v : Value} {n : Nat} {xs : List Value} (h : w.ownsRow base e size v n xs) (hb : base' ≤ base) : w.ownsRow base' e size v n xs := by
  refine ⟨h.1, ?_⟩
  rcases h.2 with h2 | ⟨g, cap, cur, hv, hg, r⟩
  · exact .inl h2
  · exact .inr ⟨g, cap, cur, hv, Nat.le_trans hb hg, r⟩
def setPer (r : List Int) : Int := 1 + nx (dr r 0) 5
def setCap (r : List Int) : Int := nx (dr r 1) 6
def setHold (r : List Int) : Int := 1 + nx (dr r 2) 4
def setLock (r : List Int) : Int := nx (dr r 3) 7
def setN (r : List Int) : Int := 1 + nx (dr r 4) 8
def setEnds (r : List Int) (now : Int) : List Int := endsN now (dr r 5) (setN r).toNat
def setP (r : List Int) : Int := svcP (setN r).toNat (dr r 5)
def setG (r : List Int) : Int := svcG (setN r).toNat (dr r 5)
def setClaims (r : List Int) (now : Int) : List Cl := claimsF (setN r) now (svcR (setN r).toNat (dr r 5))
def cfgV (r : List Int) : Value := .agg #[.slice none 0 0, .slice none 0 0, .int .i64 (setPer r), .int .i64 (setCap r), .int .i64 (setHold r), .int .i64 (setLock r)]

def EG (bd b4 b5 k j : Nat) : Prop := j = bd ∨ (k = 2 ∧ j = b4) ∨ (k = 3 ∧ j = b5)
def ΦG (bd B0 : Nat) (r : List Int) (now : Int) (t k : Nat) (v : Value) (w : World) : Prop :=
  match t with
  | 23 => v = cfgV r
  | 24 => v = .pointer (some ⟨bd, 0, none⟩)
  | 25 => v = .int .i64 (setN r)
  | 26 => v = .int .i64 now
  | 27 => ∃ x, v = .agg #[.int .i64 (setP r), .int .i64 (setG r), x] ∧ w.ownsRow (bd + 1) 3 1 x (setN r).toNat (ints (setEnds r now)) ∧ (∀ g, x.ownBlock = some g → B0 ≤ g)
  | 28 => v = .pointer (some ⟨bd, 0, none⟩)
  | 29 => v = .int .i64 (setN r)
  | 30 => v = .int .i64 now
  | 31 => w.ownsRow (bd + 1) 51 5 v (nx (svcR (setN r).toNat (dr r 5)) 6).toNat (cellsOf (setClaims r now)) ∧ (∀ g, v.ownBlock = some g → B0 ≤ g)
  | 6 => w.ownsRow (bd + 1) 51 5 v (nx (svcR (setN r).toNat (dr r 5)) 6).toNat (cellsOf (setClaims r now)) ∧ (∀ g, v.ownBlock = some g → B0 ≤ g)
  | _ => 0 ≤ k
def WG (B bd cb b4 b5 B0 : Nat) (r : List Int) (now : Int) (w0 : World) (k : Nat) (w : World) : Prop :=
  (k = 0 → Dk w B bd (dr r 5)) ∧ (k = 1 → Dk w B bd (svcR (setN r).toNat (dr r 5))) ∧ (2 ≤ k → Dk w B bd (claimsR (svcR (setN r).toNat (dr r 5)))) ∧
    w.heap[cb]? = some (.cells (cfgV r).cells 26 (0, 0)) ∧
    ((k ≤ 2 → w.heap[b4]? = some (.cells #[.slice none 0 0, .slice none 0 0, .int .i64 0, .int .i64 0, .int .i64 0, .int .i64 0] 26 (0, 0))) ∧ (k ≤ 3 → w.heap[b5]? = some (.cells #[.int .i64 0, .int .i64 0, .slice none 0 0] 46 (0, 0)))) ∧
    B0 ≤ w.heap.size ∧ Soft.RG (fun j => j = bd ∨ j = b4 ∨ j = b5) w0 w ∧
    (3 ≤ k → w.heap[b4]? = some (.cells (cfgV r).cells 26 (0, 0))) ∧
    (4 ≤ k → ∃ x, w.heap[b5]? = some (.cells #[.int .i64 (setP r), .int .i64 (setG r), x] 46 (0, 0)) ∧ w.ownsRow (bd + 1) 3 1 x (setN r).toNat (ints (setEnds r now)) ∧ (∀ g, x.ownBlock = some g → B0 ≤ g))
theorem WG_grown {B bd cb b4 b5 B0 : Nat} {r : List Int} {now : Int} {w0 w w' : World} {k : Nat} (hcb : cb ≠ bd) (hb4 : b4 ≠ bd) (hb5 : b5 ≠ bd) (h : WG B bd cb b4 b5 B0 r now w0 k w) (hg : w.grownBy w' (some bd)) (h0 : k + 1 = 0 → Dk w' B bd (dr r 5)) (h1 : k + 1 = 1 → Dk w' B bd (svcR (setN r).toNat (dr r 5)))
    (h2 : 2 ≤ k + 1 → Dk w' B bd (claimsR (svcR (setN r).toNat (dr r 5)))) (hk : k < 2 := by omega) : WG B bd cb b4 b5 B0 r now w0 (k + 1) w' := by
  obtain ⟨_, _, _, g4, ⟨g5, g6⟩, g7, g8, _, _⟩ := h
  have bl : ∀ {j : Nat} {o : Obj}, j ≠ bd → w.heap[j]? = some o → w'.heap[j]? = some o := fun hj hb => (hg.block _ (lt_of_block hb) (fun e => hj (by injection e))).trans hb
  exact ⟨h0, h1, h2, bl hcb g4, ⟨fun _ => bl hb4 (g5 (by omega)), fun _ => bl hb5 (g6 (by omega))⟩, Nat.le_trans g7 hg.size, g8.trans (Soft.RG_grown (E := fun j => j = bd) hg (fun g e => by injection e with e; exact e.symm)) (fun j _ e => .inl e), fun h => absurd h (by omega), fun h => absurd h (by omega)⟩
theorem ΦG_stab {bd b4 b5 B0 : Nat} {r : List Int} {now : Int} (hB : bd < B0) (h4 : b4 < B0) (h5 : b5 < B0) (t k : Nat) (c : Bool) (v : Value) (w w' : World) (hR : Soft.RG (EG bd b4 b5 k) w w') (h : ΦG bd B0 r now t k v w) : ΦG bd B0 r now t (if c then k + 1 else k) v w' := by
  have own : ∀ {e : TypeId} {size n : Nat} {x : Value} {xs : List Value}, w.ownsRow (bd + 1) e size x n xs → (∀ g, x.ownBlock = some g → B0 ≤ g) → w'.ownsRow (bd + 1) e size x n xs := fun ho hb => hR.own ho fun g hg => by
    have := hb g hg
    rintro (e | ⟨_, e⟩ | ⟨_, e⟩) <;> omega
  unfold ΦG at h ⊢
  split at h
  all_goals first
    | exact h
    | (obtain ⟨x, e, ho, hb⟩ := h; exact ⟨x, e, own ho hb, hb⟩)
    | exact ⟨own h.1 h.2, h.2⟩
    | (split <;> omega)

set_option maxHeartbeats 1000000 in
theorem setting_w (A : Option Addr) (n c : Nat) (xs : List Int) (now : Int) (w : World) (h1 : xs.length = n) (h2 : n ≤ c) (h3 : c ≤ 9223372036854775807)
    (h4 : 0 < n → ∃ b o, A = some ⟨b, o, none⟩ ∧ b < w.heap.size ∧ ∀ j, j < n → w.cell? ⟨b, o + j, none⟩ = some (.int .i64 (atI xs j))) (hn1 : 0 ≤ now) (hn2 : now ≤ 1000000) :
    Calls Try.prog 22 #[.slice A n c, .int .i64 now] w fun e w' => ∃ x y, e = .returned (.tuple #[cfgV xs, .agg #[.int .i64 (setP xs), .int .i64 (setG xs), x], y]) ∧ w'.ownsRow w.heap.size 3 1 x (setN xs).toNat (ints (setEnds xs now)) ∧
      w'.ownsRow w.heap.size 51 5 y (nx (svcR (setN xs).toNat (dr xs 5)) 6).toNat (cellsOf (setClaims xs now)) ∧ Below w.heap.size w w' := by
  have hnew := fun (o1 o2 : Obj) => new_w A n c xs ((w.alloc o1).alloc o2) h1 h2 h3 (fun hn => by
    obtain ⟨b, o, e, hb, hc⟩ := h4 hn
    refine ⟨b, o, e, by simp; omega, fun j hj => ?_⟩
    rw [World.cell?_alloc_lt _ _ _ (by simp; omega), World.cell?_alloc_lt _ _ _ (by simpa using hb)]
    exact hc j hj) w.heap.size (by simp; omega) (fun hn b o e => by
      obtain ⟨b', o', e', hb, _⟩ := h4 hn
      rw [e'] at e
      injection e with e
      injection e with e
      omega)
  have HN := Lib.hid hnew
  clear hnew h1 h4
  go_enter Try.func22, Try.ntmps22
  go_wp2_with (go_at_call 14; refine (HN.out _ _).mono ?_; rintro e w1 ⟨rfl, hbel, hsz, hDk⟩)
  have hk4 : w1.heap[w.heap.size]? = some (.cells #[.slice none 0 0, .slice none 0 0, .int .i64 0, .int .i64 0, .int .i64 0, .int .i64 0] 26 (0, 0)) := by
    refine (hbel.block _ (by simp; omega)).trans ((Below.heap_alloc _ _ _ (by simp)).trans (heap_alloc_new _ _))
  have hk5 : w1.heap[w.heap.size + 1]? = some (.cells #[.int .i64 0, .int .i64 0, .slice none 0 0] 46 (0, 0)) := by
    refine (hbel.block _ (by simp)).trans ?_
    have := heap_alloc_new (w.alloc (.cells #[.slice none 0 0, .slice none 0 0, .int .i64 0, .int .i64 0, .int .i64 0, .int .i64 0] 26)) (.cells #[.int .i64 0, .int .i64 0, .slice none 0 0] 46)
    simpa using this
  have hbw : Below w.heap.size w w1 := (((Below.refl _ _).alloc (Nat.le_refl _) _).alloc (by simp) _).trans (hbel.mono (by simp; omega))
  replace hDk : Dk w1 w.heap.size (w.heap.size + 1 + 1) (dr xs 0) := by simpa [dr_zero] using hDk
  have hlt1 := hDk.lt
  have HK4 := Lib.hid hk4
  have HK5 := Lib.hid hk5
  have HBW := Lib.hid hbw
  clear hk4 hk5 hbw hbel hsz HN
  go_wp2_with (first | (go_at_call 39; (first | (with_reducible refine (Calls.deck (range_k w.heap.size (w.heap.size + 1 + 1) xs _ _ _ _ (by omega) (by omega) (by omega) (by assumption))).mono ?_) | (with_reducible refine (Calls.deck0 (range_k w.heap.size (w.heap.size + 1 + 1) xs _ _ _ _ (by omega) (by omega) (by omega) (by assumption))).mono ?_)); rintro e w' ⟨rfl, x, rfl, hDk⟩) | (go_at_call 38; (first | (with_reducible refine (Calls.deck (next_k w.heap.size (w.heap.size + 1 + 1) xs _ _ _ (by omega) (by omega) (by assumption))).mono ?_) | (with_reducible refine (Calls.deck0 (next_k w.heap.size (w.heap.size + 1 + 1) xs _ _ _ (by omega) (by omega) (by assumption))).mono ?_)); rintro e w' ⟨rfl, x, rfl, hDk⟩))
  refine (Calls.deck0 (range_k w.heap.size (w.heap.size + 1 + 1) xs _ _ _ _ (by omega) (by omega) (by omega) (Dk.alloc (by assumption) _))).mono ?_
  rintro e w' ⟨rfl, x2, rfl, hDk5⟩
  go_wp2_with fail
  have hx : w1.heap.size ≤ x.world.heap.size := x.size_
  have hx2 := x2.size_
  simp at hx2
  have k4 : x2.world.heap[w.heap.size]? = some (.cells #[.slice none 0 0, .slice none 0 0, .int .i64 0, .int .i64 0, .int .i64 0, .int .i64 0] 26 (0, 0)) :=
    (x2.grown.block _ (by simp; omega) (fun e => by injection e; omega)).trans ((Below.heap_alloc _ _ _ (by omega)).trans ((x.grown.block _ (by omega) (fun e => by injection e; omega)).trans HK4.out))
  have k5 : x2.world.heap[w.heap.size + 1]? = some (.cells #[.int .i64 0, .int .i64 0, .slice none 0 0] 46 (0, 0)) :=
    (x2.grown.block _ (by simp; omega) (fun e => by injection e; omega)).trans ((Below.heap_alloc _ _ _ (by omega)).trans ((x.grown.block _ (by omega) (fun e => by injection e; omega)).trans HK5.out))
  have kc : x2.world.heap[x.world.heap.size]? = some (.cells (cfgV xs).cells 26 (0, 0)) :=
    (x2.grown.block _ (by simp) (fun e => by injection e; omega)).trans (heap_alloc_new _ _)
  have hb2 : Soft.RG (fun j => j = w.heap.size + 1 + 1) w1 x2.world := by
    refine (Soft.RG_grown (E := fun j => j = w.heap.size + 1 + 1) x.grown (fun g e => by injection e with e; exact e.symm)).trans (F := fun j => j = w.heap.size + 1 + 1) ?_ (fun _ _ e => e)
    exact (Soft.RG_alloc (E := fun j => j = w.heap.size + 1 + 1) x.world _).trans (Soft.RG_grown (E := fun j => j = w.heap.size + 1 + 1) x2.grown (fun g e => by injection e with e; exact e.symm)) (fun _ _ e => e)
  have hlt5 := hDk5.lt
  have hgr : Below w.heap.size w x2.world := HBW.out.trans ⟨hb2.os, hb2.tape, hb2.output, hb2.size, fun k hk => hb2.block k (by omega) (by omega)⟩
  have HGR := Lib.hid hgr
  have hlc : x.world.heap.size < x2.world.heap.size := lt_of_block kc
  have hcbd : x.world.heap.size ≠ w.heap.size + 1 + 1 := by omega
  have hcw : w.heap.size + 1 + 1 < x.world.heap.size := by omega
  clear hgr hb2 hx hx2 HK4 HK5 HBW
  generalize x.world.heap.size = cb at kc hlc hcbd hcw ⊢
  generalize x2.world = W at hDk5 hlt5 k4 k5 kc HGR hlc ⊢
  clear x2
  generalize hbd0 : w.heap.size + 1 + 1 = bd
  generalize hb50 : w.heap.size + 1 = b5
  generalize hb40 : w.heap.size = b4
  rw [hbd0] at hDk5 hlt5 hcbd hlt1
  rw [hb50] at k5
  rw [hb40] at k4
  have hb4 : b4 ≠ bd := by omega
  have hb5 : b5 ≠ bd := by omega
  have hc4 : cb ≠ b4 := by omega
  have hc5 : cb ≠ b5 := by omega
  have h45 : b4 + 1 = b5 := by omega
  have hBb4 : w.heap.size = b4 := hb40
  have hl4 : b4 < W.heap.size := lt_of_block k4
  have hl5 : b5 < W.heap.size := lt_of_block k5
  have H1 := Lib.hid hbd0
  have H2 := Lib.hid hb50
  have H3 := Lib.hid hb40
  have hB4 : w.heap.size ≤ b4 := by omega
  have h5d : b5 < bd := by omega
  clear hbd0 hb50 hb40 hBb4
  have H45 := Lib.hid h45
  have h45' : b4 < b5 := by omega
  clear h45
  have hN1 : 1 ≤ setN xs ∧ setN xs ≤ 8 := by
    have := nx_bd (dr xs 4) 8 (by omega)
    unfold setN
    omega
  refine Soft.regionV [[],[],[],[],[1,2,3],[],[],[],[1,2,3,4,5,6,7],[0,1,2,3,4,5,6,7,8],[0,1,2,3,4,5,6,7,8,9],[0,1,2,3,4,5,6,7,8,9,10]] [⟨[],[8],0,2,false⟩,⟨[],[7],0,0,false⟩,⟨[],[9],0,0,false⟩,⟨[],[1],0,0,false⟩,⟨[24,25,26],[],0,0,true⟩,⟨[],[7],0,1,false⟩,⟨[],[9],0,1,false⟩,⟨[],[1],0,1,false⟩,⟨[28,29,30],[],1,1,true⟩,⟨[23],[4],2,2,true⟩,⟨[27],[5],3,3,true⟩,⟨[31],[],4,4,false⟩] 4 32 [23,24,25,26,27,28,29,30,31,6] (by kernel_rfl) rfl (by kernel_rfl) (ΦG bd W.heap.size xs now) (WG w.heap.size bd cb b4 b5 W.heap.size xs now W) (fun k => Soft.RG (EG bd b4 b5 k)) (ΦG_stab hlt5 hl4 hl5)
    ⟨fun _ => hDk5.drew, fun h => absurd h (by omega), fun h => absurd h (by omega), kc, ⟨fun _ => k4, fun _ => k5⟩, Nat.le_refl _, Soft.RG_drew _, fun h => absurd h (by omega), fun h => absurd h (by omega)⟩ ⟨?_, ?_, ?_, ?_, ?_, ?_, ?_, ?_, ?_, ?_, ?_, ?_, trivial⟩ ?_
  · -- 0: slot 23 := Op.load 26 (t8)
    intro ρ w k hρ h1 h2 hW hv hf next hK
    have hc := hρ.const; have hfn := hρ.func
    have e8 := hf 8 (by simp)
    have HW := Lib.hid hW; clear hW hv hf h1 h2 hρ
    have q0 := cell_of_row w cb 0 _ _ (0, 0) HW.out.2.2.2.1
    have q1 := cell_of_row w cb 1 _ _ (0, 0) HW.out.2.2.2.1
    have q2 := cell_of_row w cb 2 _ _ (0, 0) HW.out.2.2.2.1
    have q3 := cell_of_row w cb 3 _ _ (0, 0) HW.out.2.2.2.1
    have q4 := cell_of_row w cb 4 _ _ (0, 0) HW.out.2.2.2.1
    have q5 := cell_of_row w cb 5 _ _ (0, 0) HW.out.2.2.2.1
    simp [cfgV, Value.cells] at q0 q1 q2 q3 q4 q5
    go_simp; try go_bits
    exact hK _ _ (Soft.RG_refl _) (fun t ht => by cases ht; exact rfl) HW.out
  · -- 1: slot 24 := Op.move (t7)
    intro ρ w k hρ h1 h2 hW hv hf next hK
    have hc := hρ.const; have hfn := hρ.func
    have e7 := hf 7 (by simp)
    obtain rfl : k = 0 := Nat.le_antisymm h2 h1
    have HW := Lib.hid hW; clear hW hv hf h1 h2 hρ
    go_simp; try go_bits
    exact hK _ _ (Soft.RG_refl _) (fun t ht => by cases ht; exact rfl) HW.out
  · -- 2: slot 25 := Op.move (t9)
    intro ρ w k hρ h1 h2 hW hv hf next hK
    have hc := hρ.const; have hfn := hρ.func
    have e9 := hf 9 (by simp)
    obtain rfl : k = 0 := Nat.le_antisymm h2 h1
    have HW := Lib.hid hW; clear hW hv hf h1 h2 hρ
    go_simp; try go_bits
    exact hK _ _ (Soft.RG_refl _) (fun t ht => by cases ht; exact rfl) HW.out
  · -- 3: slot 26 := Op.move (t1)
    intro ρ w k hρ h1 h2 hW hv hf next hK
    have hc := hρ.const; have hfn := hρ.func
    have e1 := hf 1 (by simp)
    obtain rfl : k = 0 := Nat.le_antisymm h2 h1
    have HW := Lib.hid hW; clear hW hv hf h1 h2 hρ
    go_simp; try go_bits
    exact hK _ _ (Soft.RG_refl _) (fun t ht => by cases ht; exact rfl) HW.out
  · -- 4: slot 27 := Op.call { callee := Callee.value (Operand.func 45), args := #[t24, t25, t26], argTypes := #[27, 3, 3] }
    intro ρ w k hρ h1 h2 hW hv hf next hK
    have hc := hρ.const; have hfn := hρ.func
    have e24 := hv 24 (by simp)
    have e25 := hv 25 (by simp)
    have e26 := hv 26 (by simp)
    simp only [ΦG] at e24 e25 e26
    obtain rfl : k = 0 := Nat.le_antisymm h2 h1
    have HW := Lib.hid hW; clear hW hv hf h1 h2 hρ
    go_simp; try go_bits
    refine (service_i _ bd _ _ _ _ (HW.out.1 rfl) (by omega) (by omega) (by omega) (by omega)).mono ?_
    rintro e w' ⟨v, rfl, hown, hnew, hg, hD⟩
    refine ⟨_, rfl, hK _ _ (Soft.RG_grown hg (fun g e => .inl (by injection e with e; exact e.symm))) (fun t ht => by cases ht; exact ⟨v, rfl, hown, fun g hg => Nat.le_trans HW.out.2.2.2.2.2.1 (hnew g hg)⟩) (WG_grown hcbd hb4 hb5 HW.out hg (fun h => absurd (show 1 = 0 from h) (by omega)) (fun _ => hD) (fun h => absurd (show 2 ≤ 1 from h) (by omega)))⟩
  · -- 5: slot 28 := Op.move (t7)
    intro ρ w k hρ h1 h2 hW hv hf next hK
    have hc := hρ.const; have hfn := hρ.func
    have e7 := hf 7 (by simp)
    have HW := Lib.hid hW; clear hW hv hf h1 h2 hρ
    go_simp; try go_bits
    exact hK _ _ (Soft.RG_refl _) (fun t ht => by cases ht; exact rfl) HW.out
  · -- 6: slot 29 := Op.move (t9)
    intro ρ w k hρ h1 h2 hW hv hf next hK
    have hc := hρ.const; have hfn := hρ.func
    have e9 := hf 9 (by simp)
    have HW := Lib.hid hW; clear hW hv hf h1 h2 hρ
    go_simp; try go_bits
    exact hK _ _ (Soft.RG_refl _) (fun t ht => by cases ht; exact rfl) HW.out
  · -- 7: slot 30 := Op.move (t1)
    intro ρ w k hρ h1 h2 hW hv hf next hK
    have hc := hρ.const; have hfn := hρ.func
    have e1 := hf 1 (by simp)
    have HW := Lib.hid hW; clear hW hv hf h1 h2 hρ
    go_simp; try go_bits
    exact hK _ _ (Soft.RG_refl _) (fun t ht => by cases ht; exact rfl) HW.out
  · -- 8: slot 31 := Op.call { callee := Callee.value (Operand.func 42), args := #[t28, t29, t30], argTypes := #[27, 3, 3] }
    intro ρ w k hρ h1 h2 hW hv hf next hK
    have hc := hρ.const; have hfn := hρ.func
    have e28 := hv 28 (by simp)
    have e29 := hv 29 (by simp)
    have e30 := hv 30 (by simp)
    simp only [ΦG] at e28 e29 e30
    obtain rfl : k = 1 := Nat.le_antisymm h2 h1
    have HW := Lib.hid hW; clear hW hv hf h1 h2 hρ
    go_simp; try go_bits
    refine (claims_own _ bd _ _ _ _ (HW.out.2.1 rfl) (by omega) (by omega) (by omega) (by omega)).mono ?_
    rintro e w' ⟨v, rfl, hown, hnew, hg, hD⟩
    exact ⟨_, rfl, hK _ _ (Soft.RG_grown hg (fun g e => .inl (by injection e with e; exact e.symm))) (fun t ht => by cases ht; exact ⟨hown, fun g hg => Nat.le_trans HW.out.2.2.2.2.2.1 (hnew g hg)⟩) (WG_grown hcbd hb4 hb5 HW.out hg (fun h => absurd (show 2 = 0 from h) (by omega)) (fun h => absurd (show 2 = 1 from h) (by omega)) (fun _ => hD))⟩
  · -- 9: slot None := Op.store 26 (t4) (t23)
    intro ρ w k hρ h1 h2 hW hv hf next hK
    have hc := hρ.const; have hfn := hρ.func
    have e23 := hv 23 (by simp)
    have e4 := hf 4 (by simp)
    simp only [ΦG] at e23
    obtain rfl : k = 2 := Nat.le_antisymm h2 h1
    have HW := Lib.hid hW; clear hW hv hf h1 h2 hρ
    have hb := HW.out.2.2.2.2.1.1 (Nat.le_refl _)
    have q0 := cell_of_row w b4 0 _ _ (0, 0) hb
    have q1 := cell_of_row w b4 1 _ _ (0, 0) hb
    have q2 := cell_of_row w b4 2 _ _ (0, 0) hb
    have q3 := cell_of_row w b4 3 _ _ (0, 0) hb
    have q4 := cell_of_row w b4 4 _ _ (0, 0) hb
    have q5 := cell_of_row w b4 5 _ _ (0, 0) hb
    simp at q0 q1 q2 q3 q4 q5
    have qf : ∀ j, w.frozen? ⟨b4, j, none⟩ = false := fun j => by simp [World.frozen?, hb]
    unfold cfgV at e23
    have HB := Lib.hid hb
    clear hb
    have key : ∀ W', Soft.RG (fun j => j = b4) w W' → W'.heap[b4]? = some (.cells (cfgV xs).cells 26 (0, 0)) → next undef W' := by
      intro W' hR hn
      obtain ⟨_, _, g3, g4, ⟨_, g6⟩, g7, g8, _, _⟩ := HW.out
      have bl : ∀ {j : Nat} {o : Obj}, j ≠ b4 → w.heap[j]? = some o → W'.heap[j]? = some o := fun hj hb => (hR.block _ (lt_of_block hb) hj).trans hb
      exact hK _ _ (hR.mono (fun j _ e => .inr (.inl ⟨rfl, e⟩))) (fun t ht => by cases ht) ⟨fun h => absurd (show 3 = 0 from h) (by omega), fun h => absurd (show 3 = 1 from h) (by omega), fun _ => (g3 (by omega)).keep (fun j hj => hR.block j (by omega) (by omega)) (hR.block bd (by omega) (by omega)),
        bl hc4 g4, ⟨fun h => absurd (show 3 ≤ 2 from h) (by omega), fun _ => bl (by omega) (g6 (by omega))⟩, Nat.le_trans g7 hR.size, g8.trans hR (fun j _ e => .inr (.inl e)), fun _ => hn, fun h => absurd (show 4 ≤ 3 from h) (by omega)⟩
    have KEY := Lib.hid key
    clear key
    go_simp; try go_bits
    exact KEY.out _ (by (repeat (first | with_reducible exact Soft.RG_refl _ | with_reducible assumption | with_reducible refine rg_set ?_ _ _ (by simp) | with_reducible refine rg_extD ?_ _ (by simp) | with_reducible refine rg_alloc ?_ _ | with_reducible refine rg_drew ?_ | with_reducible refine rg_ext ?_ _))) (by simp [World.setCell, Array.getElem?_modify, HB.out, cfgV, Value.cells])
  · -- 10: slot None := Op.store 46 (t5) (t27)
    intro ρ w k hρ h1 h2 hW hv hf next hK
    have hc := hρ.const; have hfn := hρ.func
    have e27 := hv 27 (by simp)
    have e5 := hf 5 (by simp)
    obtain ⟨y, e27, hown, hnw⟩ := e27
    have HO := Lib.hid hown
    have HNW := Lib.hid hnw
    clear hown hnw
    obtain rfl : k = 3 := Nat.le_antisymm h2 h1
    have HW := Lib.hid hW; clear hW hv hf h1 h2 hρ
    have hb := HW.out.2.2.2.2.1.2 (Nat.le_refl _)
    have q0 := cell_of_row w b5 0 _ _ (0, 0) hb
    have q1 := cell_of_row w b5 1 _ _ (0, 0) hb
    have q2 := cell_of_row w b5 2 _ _ (0, 0) hb
    simp at q0 q1 q2
    have qf : ∀ j, w.frozen? ⟨b5, j, none⟩ = false := fun j => by simp [World.frozen?, hb]
    have HB := Lib.hid hb
    clear hb
    obtain ⟨A0, n0, c0, hy⟩ : ∃ A0 n0 c0, y = .slice A0 n0 c0 := by
      rcases HO.out.2 with ⟨e, _⟩ | ⟨g, cap, cur, e, _⟩
      · exact ⟨_, _, _, e⟩
      · exact ⟨_, _, _, e⟩
    subst hy
    have key : ∀ W', Soft.RG (fun j => j = b5) w W' → W'.heap[b5]? = some (.cells #[.int .i64 (setP xs), .int .i64 (setG xs), .slice A0 n0 c0] 46 (0, 0)) → next undef W' := by
      intro W' hR hn
      obtain ⟨_, _, g3, g4, ⟨_, g6⟩, g7, g8, g9, _⟩ := HW.out
      have bl : ∀ {j : Nat} {o : Obj}, j ≠ b5 → w.heap[j]? = some o → W'.heap[j]? = some o := fun hj hb => (hR.block _ (lt_of_block hb) hj).trans hb
      refine hK _ _ (hR.mono (fun j _ e => .inr (.inr ⟨rfl, e⟩))) (fun t ht => by cases ht) ⟨fun h => absurd (show 4 = 0 from h) (by omega), fun h => absurd (show 4 = 1 from h) (by omega), fun _ => (g3 (by omega)).keep (fun j hj => hR.block j (by omega) (by omega)) (hR.block bd (by omega) (by omega)),
        bl hc5 g4, ⟨fun h => absurd (show 4 ≤ 2 from h) (by omega), fun h => absurd (show 4 ≤ 3 from h) (by omega)⟩, Nat.le_trans g7 hR.size, g8.trans hR (fun j _ e => .inr (.inr e)), fun _ => bl (by omega) (g9 (by omega)), fun _ => ⟨.slice A0 n0 c0, hn, hR.own HO.out (fun g hg => by have := HNW.out g hg; omega), HNW.out⟩⟩
    have KEY := Lib.hid key
    clear key
    go_simp; try go_bits
    exact KEY.out _ (by (repeat (first | with_reducible exact Soft.RG_refl _ | with_reducible assumption | with_reducible refine rg_set ?_ _ _ (by simp) | with_reducible refine rg_extD ?_ _ (by simp) | with_reducible refine rg_alloc ?_ _ | with_reducible refine rg_drew ?_ | with_reducible refine rg_ext ?_ _))) (by simp [World.setCell, Array.getElem?_modify, HB.out])
  · -- 11: slot 6 := Op.assign (t31)
    intro ρ w k hρ h1 h2 hW hv hf next hK
    have hc := hρ.const; have hfn := hρ.func
    have e31 := hv 31 (by simp)
    have E31 := Lib.hid e31
    clear e31
    obtain rfl : k = 4 := Nat.le_antisymm h2 h1
    have HW := Lib.hid hW; clear hW hv hf h1 h2 hρ
    go_simp; try go_bits
    exact hK _ _ (Soft.RG_refl _) (fun t ht => by cases ht; exact E31.out) HW.out

  · intro u w' hW hu
    have HW := Lib.hid hW
    have h6 := Lib.hid (hu 6 (by simp))
    clear hW hu
    simp only [Soft.putAll, Act.put, List.setIfInBounds_toArray, List.set_cons_succ, List.set_cons_zero]
    go_wp2
    obtain ⟨_, _, _, _, _, g7, g8, g9, g10⟩ := HW.out
    obtain ⟨y, b1, b2, b3⟩ := g10 (Nat.le_refl _)
    have c9 := g9 (by omega)
    refine bodyPost_ret (v := .tuple #[cfgV xs, .agg #[.int .i64 (setP xs), .int .i64 (setG xs), y], u 6]) ?_ rfl ⟨y, u 6, rfl, ?_, ?_, ?_⟩
    · have q0 := cell_of_row w' b4 0 _ _ (0, 0) c9
      have q1 := cell_of_row w' b4 1 _ _ (0, 0) c9
      have q2 := cell_of_row w' b4 2 _ _ (0, 0) c9
      have q3 := cell_of_row w' b4 3 _ _ (0, 0) c9
      have q4 := cell_of_row w' b4 4 _ _ (0, 0) c9
      have q5 := cell_of_row w' b4 5 _ _ (0, 0) c9
      have p0 := cell_of_row w' b5 0 _ _ (0, 0) b1
      have p1 := cell_of_row w' b5 1 _ _ (0, 0) b1
      have p2 := cell_of_row w' b5 2 _ _ (0, 0) b1
      simp [cfgV, Value.cells] at q0 q1 q2 q3 q4 q5 p0 p1 p2
      simp [results, Try.results22, go_sem, q0, q1, q2, q3, q4, q5, p0, p1, p2, cfgV]
    · exact ownsRow_base b2 (by have := H3.out; omega)
    · exact ownsRow_base h6.out.1 (by have := H3.out; omega)
    · refine HGR.out.trans ⟨g8.os, g8.tape, g8.output, g8.size, fun k hk => g8.block k (by omega) ?_⟩
      have := H3.out
      omega
end Go.Proofs.Ytlabfbpnkjigoaa
