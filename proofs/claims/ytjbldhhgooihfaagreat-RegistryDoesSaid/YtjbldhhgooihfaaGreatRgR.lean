
/- law17: the references' Check, Open, Expire, Tick. -/
import Derived.Test.YtjbldhhgooihfaaGreatRgQ
import Derived.Test.YtjbldhhgooihfaaGreatRgE
import Derived.Test.YtjbldhhgooihfaaGreatRgF
import Derived.Test.YtjbldhhgooihfaaGreatLibD
namespace Go.Proofs.YtjbldhhgooihfaaGreat
namespace Av
set_option linter.unusedSimpArgs false
set_option linter.unusedVariables false
set_option maxRecDepth 4000
set_option maxHeartbeats 1000000
/-- Sets of bits, joined. -/
def bsN (p : Nat → Bool) : Nat → Nat
  | 0 => 0
  | n + 1 => if p n = true then bsN p n + 2 ^ n else bsN p n
theorem bsF_N (p : Nat → Bool) : ∀ n, bsF p n = (bsN p n : Int)
  | 0 => rfl
  | n + 1 => by
    unfold bsF bsN
    rw [bsF_N p n]
    split
    · unfold p2; simp
    · rfl
theorem bsN_lt (p : Nat → Bool) : ∀ n, bsN p n < 2 ^ n
  | 0 => (show 0 < 1 by omega)
  | n + 1 => by
    have := bsN_lt p n
    unfold bsN
    rw [Nat.pow_succ]
    split <;> omega
theorem bsN_bit (p : Nat → Bool) : ∀ n i, (bsN p n).testBit i = (decide (i < n) && p i)
  | 0, i => by simp [bsN]
  | n + 1, i => by
    have hlt := bsN_lt p n
    unfold bsN
    rcases Nat.lt_trichotomy i n with h | h | h
    · rw [decide_eq_true (by omega), Bool.true_and]
      split
      · rw [Nat.add_comm, Nat.testBit_two_pow_add_gt h, bsN_bit p n i, decide_eq_true h, Bool.true_and]
      · rw [bsN_bit p n i, decide_eq_true h, Bool.true_and]
    · subst h
      rw [decide_eq_true (by omega), Bool.true_and]
      split
      · rename_i hp
        rw [Nat.add_comm, Nat.testBit_two_pow_add_eq, bsN_bit p i i, decide_eq_false (by omega), hp]; rfl
      · rename_i hp
        rw [bsN_bit p i i, decide_eq_false (by omega)]
        simpa using hp
    · rw [decide_eq_false (by omega), Bool.false_and]
      refine Nat.testBit_lt_two_pow ?_
      have h2 : 2 ^ (n + 1) ≤ 2 ^ i := Nat.pow_le_pow_right (by omega) (by omega)
      rw [Nat.pow_succ] at h2
      split <;> omega
theorem orI_nat (a b : Nat) (ha : a < 2 ^ 30) (hb : b < 2 ^ 30) : orI a b = ((a ||| b : Nat) : Int) := by
  have h := Nat.or_lt_two_pow ha hb
  unfold orI
  rw [BitVec.ofInt_natCast, BitVec.ofInt_natCast, BitVec.toNat_or, BitVec.toNat_ofNat, BitVec.toNat_ofNat]
  have e : (2 : Nat) ^ IntKind.i64.bits = 18446744073709551616 := by decide
  rw [e, Nat.mod_eq_of_lt (by omega), Nat.mod_eq_of_lt (by omega)]
  exact wrap_in (k := .i64) (by unfold InR; omega)
theorem orI_bs (p q : Nat → Bool) : orI (bsF p 8) (bsF q 8) = bsF (fun i => p i || q i) 8 := by
  have h1 := bsN_lt p 8
  have h2 := bsN_lt q 8
  rw [bsF_N, bsF_N, bsF_N, orI_nat _ _ (by omega) (by omega)]
  congr 1
  apply Nat.eq_of_testBit_eq
  intro i
  rw [Nat.testBit_or, bsN_bit, bsN_bit, bsN_bit]
  cases decide (i < 8) <;> simp
def exP (l : List Tk) (now : Int) (n : Nat) (j : Nat) : Bool := (List.range n).any fun i => usF l i && exF (l.getD i default) now && ldF l 9 j i
theorem exP_succ (l : List Tk) (now : Int) (n : Nat) : exP l now (n + 1) = fun j => exP l now n j || (usF l n && exF (l.getD n default) now && ldF l 9 j n) := by
  funext j
  unfold exP
  rw [List.range_succ, List.any_append]
  simp
end Av
end Go.Proofs.YtjbldhhgooihfaaGreat
