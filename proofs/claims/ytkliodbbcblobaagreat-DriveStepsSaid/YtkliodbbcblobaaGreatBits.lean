
/- Sets of bits. -/
import Derived.Test.YtkliodbbcblobaaGreatRepr
namespace Go.Proofs.YtkliodbbcblobaaGreat
namespace Av
set_option linter.unusedSimpArgs false
set_option linter.unusedVariables false
set_option maxRecDepth 4000
set_option maxHeartbeats 1000000
def bsF (p : Nat → Bool) : Nat → Int
  | 0 => 0
  | n + 1 => if p n = true then bsF p n + p2 n else bsF p n
theorem bsF_bd (p : Nat → Bool) : ∀ n : Nat, n ≤ 30 → 0 ≤ bsF p n ∧ bsF p n < p2 n
  | 0, _ => ⟨Int.le_refl 0, by show (0 : Int) < 1; decide⟩
  | n + 1, h => by
    have ih := bsF_bd p n (by omega)
    have h2 : p2 ((n + 1 : Nat) : Int) = 2 * p2 (n : Int) := by
      unfold p2
      rw [Int.toNat_natCast, Int.toNat_natCast, Int.pow_succ]
      omega
    have := p2_bd n (by omega)
    unfold bsF
    split <;> omega
theorem bsF_congr {p q : Nat → Bool} : ∀ n : Nat, (∀ i, i < n → p i = q i) → bsF p n = bsF q n
  | 0, _ => rfl
  | n + 1, h => by unfold bsF; rw [h n (by omega), bsF_congr n fun i hi => h i (by omega)]
def bq (b0 b1 b2 b3 b4 b5 b6 b7 : Bool) : Nat → Bool
  | 0 => b0 | 1 => b1 | 2 => b2 | 3 => b3 | 4 => b4 | 5 => b5 | 6 => b6 | 7 => b7 | _ => false
theorem bits8 : ∀ b0 b1 b2 b3 b4 b5 b6 b7 : Bool, ∀ i : _root_.Fin 8, (andI (shrI (bsF (bq b0 b1 b2 b3 b4 b5 b6 b7) 8) i.val) 1 == 1) = bq b0 b1 b2 b3 b4 b5 b6 b7 i.val := by decide +kernel
theorem bits_at (p : Nat → Bool) (i : Nat) (hi : i < 8) : (andI (shrI (bsF p 8) i) 1 == 1) = p i := by
  have e : ∀ j, j < 8 → p j = bq (p 0) (p 1) (p 2) (p 3) (p 4) (p 5) (p 6) (p 7) j := fun j hj => by
    match j, hj with
    | 0, _ => rfl | 1, _ => rfl | 2, _ => rfl | 3, _ => rfl | 4, _ => rfl | 5, _ => rfl | 6, _ => rfl | 7, _ => rfl
    | j + 8, h => omega
  rw [bsF_congr 8 e, e i hi]
  exact bits8 _ _ _ _ _ _ _ _ ⟨i, hi⟩
/-- Sets of bits, joined. -/
def bsN (p : Nat → Bool) : Nat → Nat
  | 0 => 0
  | n + 1 => if p n = true then bsN p n + 2 ^ n else bsN p n
theorem bsF_N (p : Nat → Bool) : ∀ n, bsF p n = (bsN p n : Int)
  | 0 => rfl
  | n + 1 => by
    unfold bsF bsN
    rw [bsF_N p n]
    split
    · unfold p2; simp
    · rfl
theorem bsN_lt (p : Nat → Bool) : ∀ n, bsN p n < 2 ^ n
  | 0 => (show 0 < 1 by omega)
  | n + 1 => by
    have := bsN_lt p n
    unfold bsN
    rw [Nat.pow_succ]
    split <;> omega
theorem bsN_bit (p : Nat → Bool) : ∀ n i, (bsN p n).testBit i = (decide (i < n) && p i)
  | 0, i => by simp [bsN]
  | n + 1, i => by
    have hlt := bsN_lt p n
    unfold bsN
    rcases Nat.lt_trichotomy i n with h | h | h
    · rw [decide_eq_true (by omega), Bool.true_and]
      split
      · rw [Nat.add_comm, Nat.testBit_two_pow_add_gt h, bsN_bit p n i, decide_eq_true h, Bool.true_and]
      · rw [bsN_bit p n i, decide_eq_true h, Bool.true_and]
    · subst h
      rw [decide_eq_true (by omega), Bool.true_and]
      split
      · rename_i hp
        rw [Nat.add_comm, Nat.testBit_two_pow_add_eq, bsN_bit p i i, decide_eq_false (by omega), hp]; rfl
      · rename_i hp
        rw [bsN_bit p i i, decide_eq_false (by omega)]
        simpa using hp
    · rw [decide_eq_false (by omega), Bool.false_and]
      refine Nat.testBit_lt_two_pow ?_
      have h2 : 2 ^ (n + 1) ≤ 2 ^ i := Nat.pow_le_pow_right (by omega) (by omega)
      rw [Nat.pow_succ] at h2
      split <;> omega
theorem orI_nat (a b : Nat) (ha : a < 2 ^ 30) (hb : b < 2 ^ 30) : orI a b = ((a ||| b : Nat) : Int) := by
  have h := Nat.or_lt_two_pow ha hb
  unfold orI
  rw [BitVec.ofInt_natCast, BitVec.ofInt_natCast, BitVec.toNat_or, BitVec.toNat_ofNat, BitVec.toNat_ofNat]
  have e : (2 : Nat) ^ IntKind.i64.bits = 18446744073709551616 := by decide
  rw [e, Nat.mod_eq_of_lt (by omega), Nat.mod_eq_of_lt (by omega)]
  exact wrap_in (k := .i64) (by unfold InR; omega)
theorem orI_bs (p q : Nat → Bool) : orI (bsF p 8) (bsF q 8) = bsF (fun i => p i || q i) 8 := by
  have h1 := bsN_lt p 8
  have h2 := bsN_lt q 8
  rw [bsF_N, bsF_N, bsF_N, orI_nat _ _ (by omega) (by omega)]
  congr 1
  apply Nat.eq_of_testBit_eq
  intro i
  rw [Nat.testBit_or, bsN_bit, bsN_bit, bsN_bit]
  cases decide (i < 8) <;> simp
end Av
end Go.Proofs.YtkliodbbcblobaaGreat
