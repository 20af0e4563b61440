/- Part 22: contracts of the functions, and what they rest upon. -/
import Derived.Test.YtaikgchmpieooaaGreatP21
namespace Go.Proofs.YtaikgchmpieooaaGreat
namespace Av
set_option linter.unusedSimpArgs false
set_option linter.unusedVariables false
section
def iA (n : Int) : AV := .s (.int .i64 n)
def yA (n : Int) : AV := .s (.int .u8 n)
def bA (b : Bool) : AV := .s (.bool b)
def slA {α : Type} (f : α → AV) (l : List α) : AV := .sl false (l.map f)
structure Cl where
 ag : Int
 id : Int
 ph : Int
 k : Int
 si : Int
structure Ph where
 ring : Int
 group : Int
 ming : Int
 maxg : Int
 yel : Int
 red : Int
 walk : Int
 clear : Int
structure Jn where
 ph : List Ph
 cf : List Int
 st : Int
structure Ag where
 sec : List Int
 rights : Int
 cls : Int
 lim : List Int
 req : Int
 ses : Int
 rate : Int
 burst : Int
structure Cf where
 js : List Jn
 ags : List Ag
 per : Int
 cap : Int
 hold : Int
 lock : Int
structure Tk where
 used : Bool
 sec : List Int
 par : Int
 rights : Int
 cls : Int
 til : Int
structure Vh where
 id : Int
 cls : Int
structure Bk where
 level : Int
 rate : Int
 burst : Int
structure Rg where
 num : Int
 ag : Ag
 tk : List Tk
 vh : List Vh
 bk : Bk
structure Ms where
 kind : Int
 tok : List Int
 args : List Int
 data : List Int
def phA (p : Ph) : AV := .agg [iA p.ring, iA p.group, iA p.ming, iA p.maxg, iA p.yel, iA p.red, iA p.walk, iA p.clear]
def jnA (j : Jn) : AV := .agg [slA phA j.ph, slA iA j.cf, iA j.st]
def agA (a : Ag) : AV := .agg [slA yA a.sec, iA a.rights, iA a.cls, slA iA a.lim, iA a.req, iA a.ses, iA a.rate, iA a.burst]
def cfA (c : Cf) : AV := .agg [slA jnA c.js, slA agA c.ags, iA c.per, iA c.cap, iA c.hold, iA c.lock]
def tkA (t : Tk) : AV := .agg [bA t.used, slA yA t.sec, iA t.par, iA t.rights, iA t.cls, iA t.til]
def vhA (v : Vh) : AV := .agg [iA v.id, iA v.cls]
def bkA (b : Bk) : AV := .agg [iA b.level, iA b.rate, iA b.burst]
def rgA (r : Rg) : AV := .agg [iA r.num, slA yA r.ag.sec, iA r.ag.rights, iA r.ag.cls, slA iA r.ag.lim, iA r.ag.req, iA r.ag.ses, iA r.ag.rate, iA r.ag.burst, slA tkA r.tk, slA vhA r.vh, iA r.bk.level, iA r.bk.rate, iA r.bk.burst]
def msA (m : Ms) : AV := .agg [iA m.kind, slA yA m.tok, slA iA m.args, slA yA m.data]
instance : Inhabited Tk := ⟨⟨false, [], -1, 0, 0, 0⟩⟩
instance : Inhabited Vh := ⟨⟨0, 0⟩⟩
instance : Inhabited Cl := ⟨⟨0, 0, 0, 0, 0⟩⟩
instance : Inhabited Ph := ⟨⟨0, 0, 0, 0, 0, 0, 0, 0⟩⟩
instance : Inhabited Jn := ⟨⟨[], [], 0⟩⟩
instance : Inhabited Ag := ⟨⟨[], 0, 0, [], 0, 0, 0, 0⟩⟩
theorem fin_bool {TT : List TI} {rs : List ResultVar} {h0 h1 : List (Nat × Ent)} {e : Exit} {st : St} {b b' : Bool} (h : Fin TT rs h0 (bA b') h1 e st) (hb : b' = b) : Fin TT rs h0 (bA b) h1 e st := hb ▸ h
theorem map_at {α : Type} [Inhabited α] (f : α → AV) (l : List α) (i : Nat) (h : i < l.length) : (l.map f)[i]? = some (f (l.getD i default)) := by simp [List.getD, h]
theorem map_atI {α : Type} [Inhabited α] (f : α → AV) (l : List α) (i : Int) (h0 : 0 ≤ i) (h : i < l.length) : (l.map f)[i.toNat]? = some (f (l.getD i.toNat default)) := map_at f l _ (by omega)
end
section
set_option maxRecDepth 4000
set_option maxHeartbeats 1000000
theorem mod_alt (v n : Int) (h1 : 1 ≤ n) : -n < v.tmod n ∧ v.tmod n < n ∧ v % n = if v.tmod n < 0 then v.tmod n + n else v.tmod n := by
  have e0 := Int.emod_nonneg v (show n ≠ 0 by omega)
  have e1 := Int.emod_lt_of_pos v (show 0 < n by omega)
  have e2 : v.tmod n = if 0 ≤ v ∨ n ∣ v then v % n else v % n - n := by rw [Int.tmod_eq_emod]; have : (n.natAbs : Int) = n := by omega
                                                                        split <;> omega
  rw [e2]
  split
  · refine ⟨by omega, by omega, ?_⟩
    rw [if_neg (by omega)]
  · rename_i hd
    have : v % n ≠ 0 := fun h => hd (.inr (Int.dvd_of_emod_eq_zero h))
    refine ⟨by omega, by omega, ?_⟩
    rw [if_pos (by omega)]
    omega
theorem mod_c (v n : Int) (h1 : 1 ≤ n) (h2 : n ≤ 1099511627776) : CallSim Tryz.prog 14 [iA v, iA n] [] (iA (v % n)) [] := by
 obtain ⟨b1, b2, e⟩ := mod_alt v n h1
 by_cases h : v.tmod n < 0
 ·rw [e, if_pos h]
  (refine eN Tryz.func14 Tryz.call14 fun F hF => ?_)
  (repeat' (first | refine WZ ?_ | refine SG0 (I2 (fun hc => ?_) (fun hc => ?_)) | refine SR ?_ | refine SK0 (I2 (fun hc => ?_) (fun hc => ?_)) | fail))
  exact fr0
 ·rw [e, if_neg h]
  (refine eN Tryz.func14 Tryz.call14 fun F hF => ?_)
  (repeat' (first | refine WZ ?_ | refine SG0 (I2 (fun hc => ?_) (fun hc => ?_)) | refine SR ?_ | refine SK0 (I2 (fun hc => ?_) (fun hc => ?_)) | fail))
  exact fr0
structure Dk where
 l : List Int
 a : Nat
 h : a ≤ l.length
 hl : l.length ≤ 9223372036854775807
def dkE (d : Dk) : Ent := .box [slA iA d.l, iA d.a]
def nx (d : Dk) (n : Int) : Int := if d.a < d.l.length then d.l.getD d.a 0 % n else 0
def ad (d : Dk) : Dk := if h : d.a < d.l.length then ⟨d.l, d.a + 1, h, d.hl⟩ else d
theorem nx_bd (d : Dk) (n : Int) (h1 : 1 ≤ n) : 0 ≤ nx d n ∧ nx d n < n := by
 unfold nx
 split
 ·exact ⟨Int.emod_nonneg _ (by omega), Int.emod_lt_of_pos _ (by omega)⟩
 ·omega
theorem new_c (l : List Int) (hl : l.length ≤ 9223372036854775807) : CallSim Tryz.prog 11 [slA iA l] [] (.ptr 1000 0 0) [(1000, dkE ⟨l, 0, Nat.zero_le _, hl⟩)] := by
 (refine eN Tryz.func11 Tryz.call11 fun F hF => ?_)
 repeat' (first | refine x_auto tok rfl rfl ?_ | (first | refine sim_seq ?_ | refine x_region ?_ | refine x_draw rfl ?_ | refine sim_cond_true rfl ?_ | refine sim_cond_false rfl ?_ | refine sim_cond rfl (fun hc => ?_) (fun hc => ?_) | refine sim_skip ?_ | refine sim_ret ?_ | refine sim_exit ?_ | refine sim_block ?_) | refine x_nil ?_ | refine x_w (stp_box (v := .agg _) 1000 rfl rfl) rfl rfl rfl ?_)
 exact fin_own [1000] rfl rfl rfl rfl
theorem next_c (d : Dk) (n : Int) (h1 : 1 ≤ n) (h2 : n ≤ 1099511627776) : CallSim Tryz.prog 13 [.ptr 1000 0 0, iA n] [(1000, dkE d)] (iA (nx d n)) [(1000, dkE (ad d))] := by
 have hl : (d.l.map iA).length = d.l.length := by simp
 have hb := d.hl
 by_cases h : d.a < d.l.length
 ·have hy := map_atI iA d.l ((d.a : Int) + 1 - 1) (by omega) (by omega)
  rw [show nx d n = d.l.getD ((d.a : Int) + 1 - 1).toNat 0 % n by unfold nx; rw [if_pos h, show ((d.a : Int) + 1 - 1).toNat = d.a by omega]]
  rw [show ad d = ⟨d.l, d.a + 1, h, d.hl⟩ by unfold ad; rw [dif_pos h]]
  (refine eN Tryz.func13 Tryz.call13 fun F hF => ?_)
  (repeat' (first | refine WZ ?_ | refine SG0 (I2 (fun hc => ?_) (fun hc => ?_)) | (refine is_ops ?_; refine is_call ?_; refine x_q (stp_call (mod_c _ _ h1 h2) rfl rfl rfl rfl rfl) rfl ?_) | refine SR ?_ | refine SK0 (I2 (fun hc => ?_) (fun hc => ?_)) | fail))
  exact fin_own [1000] rfl rfl rfl rfl
 ·rw [show nx d n = 0 by unfold nx; rw [if_neg h], show ad d = d by unfold ad; rw [dif_neg h]]
  (refine eN Tryz.func13 Tryz.call13 fun F hF => ?_)
  (repeat' (first | refine WZ ?_ | refine SG0 (I2 (fun hc => ?_) (fun hc => ?_)) | (refine is_ops ?_; refine is_call ?_; refine x_q (stp_call (mod_c _ _ h1 h2) rfl rfl rfl rfl rfl) rfl ?_) | refine SR ?_ | refine SK0 (I2 (fun hc => ?_) (fun hc => ?_)) | fail))
  exact fin_own [1000] rfl rfl rfl rfl
theorem range_c (d : Dk) (lo hi : Int) (h1 : 0 ≤ lo) (h2 : lo ≤ hi) (h3 : hi ≤ 1000000000) : CallSim Tryz.prog 32 [.ptr 1000 0 0, iA lo, iA hi] [(1000, dkE d)] (iA (lo + nx d (hi - lo + 1))) [(1000, dkE (ad d))] := by
 have hb := nx_bd d (hi - lo + 1) (by omega)
 (refine eN Tryz.func32 Tryz.call32 fun F hF => ?_)
 (repeat' (first | refine WZ ?_ | refine SG0 (I2 (fun hc => ?_) (fun hc => ?_)) | (refine is_ops ?_; refine is_call ?_; refine x_w (stp_call (next_c d _ (by omega) (by omega)) rfl rfl rfl rfl rfl) rfl rfl rfl ?_) | refine SR ?_ | refine SK0 (I2 (fun hc => ?_) (fun hc => ?_)) | fail))
 exact fin_own [1000] rfl rfl rfl rfl
end
section
set_option maxRecDepth 4000
set_option maxHeartbeats 1000000
def secB (n : Int) (i : Nat) : Int := IntKind.u8.wrap (BitVec.ofInt IntKind.u8.bits (IntKind.u8.wrap ((IntKind.u64.wrap n).fdiv (2 ^ (min (8 * (i : Int)).toNat IntKind.u64.bits)))) ^^^ BitVec.ofInt IntKind.u8.bits (29 * (i : Int) + 7)).toNat
def secF (n : Int) : List Int := (List.range 8).map (secB n)
theorem secret_c (n : Int) : CallSim Tryz.prog 40 [iA n] [] (slA yA (secF n)) [] := by
 have hu : ∀ i : Nat, ((List.range i).map (secB n)).map yA = ((List.range i).map (secB n)).map yA := fun _ => rfl
 (refine eN Tryz.func40 Tryz.call40 fun F hF => ?_)
 (repeat' (first | refine WZ ?_ | refine SG0 (I2 (fun hc => ?_) (fun hc => ?_)) | refine SR ?_ | refine SK0 (I2 (fun hc => ?_) (fun hc => ?_)) | fail))
 refine sim_virt 3 1001 1 rfl rfl rfl ?_
 refine sim_loop_r (fun k st => ∃ i : Nat, k + i = 8 ∧ st = ⟨[(0, iA n), (3, .ref 1001 0 (((List.range i).map (secB n)).map yA).length), (5, iA i)], [(1001, .arr 1 (((List.range i).map (secB n)).map yA) true)]⟩)
  8 [1001] [0, 3, 5] rfl ⟨0, rfl, rfl⟩ ?_
 rintro k st ⟨i, hi, rfl⟩
 by_cases hlt : i < 8
 ·have ht : ((List.range (i + 1)).map (secB n)).map yA = ((List.range i).map (secB n)).map yA ++ [yA (secB n i)] := by rw [List.range_succ]; simp
  have hs : ((List.range i).map (secB n)).length = i := by simp
  (repeat' (first | refine WZ ?_ | refine SG0 (I2 (fun hc => ?_) (fun hc => ?_)) | refine SR ?_ | refine SK0 (I2 (fun hc => ?_) (fun hc => ?_)) | fail))
  exact ⟨k - 1, by omega, i + 1, by omega, by rw [ht]; rfl⟩
 ·obtain rfl : i = 8 := by omega
  (repeat' (first | refine WZ ?_ | refine SG0 (I2 (fun hc => ?_) (fun hc => ?_)) | refine SR ?_ | refine SK0 (I2 (fun hc => ?_) (fun hc => ?_)) | fail))
  exact fin_ret [] rfl rfl (congrArg (AV.sl false) List.take_length) rfl
def ad7 (d : Dk) : Dk := ad (ad (ad (ad (ad (ad (ad d))))))
def agF (d : Dk) (num rights : Int) : Ag := ⟨secF (1000 + num), rights, 3, [1 + nx d (3 - 1 + 1), 1 + nx (ad d) (3 - 1 + 1), nx (ad (ad d)) 3, nx (ad (ad (ad d))) 3], 1 + nx (ad (ad (ad (ad d)))) (3 - 1 + 1), 1 + nx (ad (ad (ad (ad (ad d))))) (2 - 1 + 1),
 1 + nx (ad (ad (ad (ad (ad (ad d)))))) (3 - 1 + 1), 1 + nx (ad (ad (ad (ad (ad (ad d)))))) (3 - 1 + 1) + nx (ad7 d) 5⟩
theorem agency_c (d : Dk) (num rights : Int) (h0 : 0 ≤ num) (h1 : num ≤ 1000) : CallSim Tryz.prog 61 [.ptr 1000 0 0, iA num, iA rights] [(1000, dkE d)] (agA (agF d num rights)) [(1000, dkE (ad (ad7 d)))] := by
 have hb := nx_bd (ad (ad (ad (ad (ad (ad d)))))) (3 - 1 + 1) (by omega)
 have hb2 := nx_bd (ad7 d) 5 (by omega)
 have sc := secret_c (1000 + num)
 unfold agF ad7 at *
 generalize secF (1000 + num) = sec at *
 (refine eN Tryz.func61 Tryz.call61 fun F hF => ?_)
 (repeat' (first | refine WZ ?_ | refine SG0 (I2 (fun hc => ?_) (fun hc => ?_)) | (refine is_ops ?_; refine is_call ?_; (first | (refine is_fn 40 ?_; first | refine x_q (stp_call (sc) rfl rfl rfl rfl rfl) rfl ?_ | refine x_w (stp_call (sc) rfl rfl rfl rfl rfl) rfl rfl rfl ?_ | refine x_d (stp_call (sc) rfl rfl rfl rfl rfl) rfl rfl rfl ?_) | (refine is_fn 32 ?_; first | refine x_q (stp_call (range_c _ _ _ (by omega) (by omega) (by omega)) rfl rfl rfl rfl rfl) rfl ?_ | refine x_w (stp_call (range_c _ _ _ (by omega) (by omega) (by omega)) rfl rfl rfl rfl rfl) rfl rfl rfl ?_ | refine x_d (stp_call (range_c _ _ _ (by omega) (by omega) (by omega)) rfl rfl rfl rfl rfl) rfl rfl rfl ?_) | (refine is_fn 13 ?_; first | refine x_q (stp_call (next_c _ _ (by omega) (by omega)) rfl rfl rfl rfl rfl) rfl ?_ | refine x_w (stp_call (next_c _ _ (by omega) (by omega)) rfl rfl rfl rfl rfl) rfl rfl rfl ?_ | refine x_d (stp_call (next_c _ _ (by omega) (by omega)) rfl rfl rfl rfl rfl) rfl rfl rfl ?_))) | refine SR ?_ | refine SK0 (I2 (fun hc => ?_) (fun hc => ?_)) | fail))
 exact fin_own [1000] rfl rfl rfl rfl
end
section
set_option maxRecDepth 4000
set_option maxHeartbeats 1000000
def rvF (r : Int) : Bool := decide (0 ≤ r ∧ r ≤ 63)
theorem rvalid_c (r : Int) : CallSim Tryz.prog 182 [iA r] [] (bA (rvF r)) [] := by
 unfold rvF
 by_cases h1 : 0 ≤ r <;> by_cases h2 : r ≤ 63 <;> simp only [h1, h2, and_true, and_false, decide_true, decide_false] <;> first | (exfalso; omega; done) | ((refine eN Tryz.func182 Tryz.call182 fun F hF => ?_); (refine WW ?_); exact fr0)
theorem rvalid2_c (r : Int) : CallSim Tryz.prog 167 [iA r] [] (bA (rvF r)) [] := by
 unfold rvF
 by_cases h1 : 0 ≤ r <;> by_cases h2 : r ≤ 63 <;> simp only [h1, h2, and_true, and_false, decide_true, decide_false] <;> first | (exfalso; omega; done) | ((refine eN Tryz.func167 Tryz.call167 fun F hF => ?_); (refine WW ?_); exact fr0)
theorem bits_fin : ∀ a b : _root_.Fin 64, (bicI a.val b.val == 0) = (andI a.val b.val == (a.val : Int)) := by decide +kernel
def wiF (a b : Int) : Bool := rvF a && rvF b && (andI a b == a)
theorem wiF_bic (a b : Int) : (rvF a && rvF b && (bicI a b == 0)) = wiF a b := by
 unfold wiF
 cases ha : rvF a <;> cases hb : rvF b <;> simp only [Bool.true_and, Bool.false_and, Bool.and_false, Bool.and_true]
 simp only [rvF, decide_eq_true_eq] at ha hb
 have := bits_fin ⟨a.toNat, by omega⟩ ⟨b.toNat, by omega⟩
 dsimp only at this
 rw [show ((a.toNat : Nat) : Int) = a by omega, show ((b.toNat : Nat) : Int) = b by omega] at this
 exact this
theorem within_c (a b : Int) : CallSim Tryz.prog 212 [iA a, iA b] [] (bA (wiF a b)) [] := by
 have c1 := rvalid_c a
 have c2 := rvalid_c b
 rw [← wiF_bic]
 cases h1 : rvF a <;> cases h2 : rvF b <;> rw [h1] at c1 <;> rw [h2] at c2 <;> simp only [Bool.true_and, Bool.false_and, Bool.and_false] <;> ((refine eN Tryz.func212 Tryz.call212 fun F hF => ?_); (have zc1 := c1; have zc2 := c2; refine WW ?_; clear zc1 zc2); exact fr0)
theorem within2_c (a b : Int) : CallSim Tryz.prog 205 [iA a, iA b] [] (bA (wiF a b)) [] := by
 have c1 := rvalid2_c a
 have c2 := rvalid2_c b
 unfold wiF
 cases h1 : rvF a <;> cases h2 : rvF b <;> rw [h1] at c1 <;> rw [h2] at c2 <;> simp only [Bool.true_and, Bool.false_and, Bool.and_false] <;> ((refine eN Tryz.func205 Tryz.call205 fun F hF => ?_); (have zc1 := c1; have zc2 := c2; refine WW ?_; clear zc1 zc2); exact fr0)
def ndF (k : Int) : Int := if k = 6 ∨ k = 7 ∨ k = 8 then 1 else if k = 4 ∨ k = 5 then 2 else if k = 2 then 4 else if k = 3 then 8 else if k = 10 then 16 else if k = 11 then 32 else 0
theorem ndF_cases (k : Int) : (k = 6 ∧ ndF k = 1) ∨ (k = 7 ∧ ndF k = 1) ∨ (k = 8 ∧ ndF k = 1) ∨ (k = 4 ∧ ndF k = 2) ∨ (k = 5 ∧ ndF k = 2) ∨ (k = 2 ∧ ndF k = 4) ∨ (k = 3 ∧ ndF k = 8) ∨ (k = 10 ∧ ndF k = 16) ∨ (k = 11 ∧ ndF k = 32) ∨
  (k ≠ 6 ∧ k ≠ 7 ∧ k ≠ 8 ∧ k ≠ 4 ∧ k ≠ 5 ∧ k ≠ 2 ∧ k ≠ 3 ∧ k ≠ 10 ∧ k ≠ 11 ∧ ndF k = 0) := by
 by_cases h6 : k = 6
 ·exact (.inl ⟨h6, by subst h6; rfl⟩)
 by_cases h7 : k = 7
 ·exact .inr ((.inl ⟨h7, by subst h7; rfl⟩))
 by_cases h8 : k = 8
 ·exact .inr (.inr ((.inl ⟨h8, by subst h8; rfl⟩)))
 by_cases h4 : k = 4
 ·exact .inr (.inr (.inr ((.inl ⟨h4, by subst h4; rfl⟩))))
 by_cases h5 : k = 5
 ·exact .inr (.inr (.inr (.inr ((.inl ⟨h5, by subst h5; rfl⟩)))))
 by_cases h2 : k = 2
 ·exact .inr (.inr (.inr (.inr (.inr ((.inl ⟨h2, by subst h2; rfl⟩))))))
 by_cases h3 : k = 3
 ·exact .inr (.inr (.inr (.inr (.inr (.inr ((.inl ⟨h3, by subst h3; rfl⟩)))))))
 by_cases h10 : k = 10
 ·exact .inr (.inr (.inr (.inr (.inr (.inr (.inr ((.inl ⟨h10, by subst h10; rfl⟩))))))))
 by_cases h11 : k = 11
 ·exact .inr (.inr (.inr (.inr (.inr (.inr (.inr (.inr ((.inl ⟨h11, by subst h11; rfl⟩)))))))))
 exact .inr (.inr (.inr (.inr (.inr (.inr (.inr (.inr (.inr (⟨h6, h7, h8, h4, h5, h2, h3, h10, h11, by simp [ndF, h6, h7, h8, h4, h5, h2, h3, h10, h11]⟩)))))))))
theorem needed_c (k : Int) : CallSim Tryz.prog 181 [iA k] [] (iA (ndF k)) [] := by
 rcases ndF_cases k with ⟨h, e⟩ | ⟨h, e⟩ | ⟨h, e⟩ | ⟨h, e⟩ | ⟨h, e⟩ | ⟨h, e⟩ | ⟨h, e⟩ | ⟨h, e⟩ | ⟨h, e⟩ | ⟨h1, h2, h3, h4, h5, h6, h7, h8, h9, e⟩ <;> rw [e] <;> ((refine eN Tryz.func181 Tryz.call181 fun F hF => ?_); (refine WW ?_); exact fr0)
theorem needed2_c (k : Int) : CallSim Tryz.prog 168 [iA k] [] (iA (ndF k)) [] := by
 rcases ndF_cases k with ⟨h, e⟩ | ⟨h, e⟩ | ⟨h, e⟩ | ⟨h, e⟩ | ⟨h, e⟩ | ⟨h, e⟩ | ⟨h, e⟩ | ⟨h, e⟩ | ⟨h, e⟩ | ⟨h1, h2, h3, h4, h5, h6, h7, h8, h9, e⟩ <;> rw [e] <;> ((refine eN Tryz.func168 Tryz.call168 fun F hF => ?_); (refine WW ?_); exact fr0)
def peF (r k : Int) : Bool := rvF r && (andI r (ndF k) == ndF k)
theorem permits_c (r k : Int) : CallSim Tryz.prog 150 [iA r, iA k] [] (bA (peF r k)) [] := by
 have c1 := rvalid_c r
 have c2 := needed_c k
 unfold peF
 generalize ndF k = n at *
 cases h1 : rvF r <;> rw [h1] at c1 <;> simp only [Bool.true_and, Bool.false_and] <;> ((refine eN Tryz.func150 Tryz.call150 fun F hF => ?_); (have zc1 := c1; have zc2 := c2; refine WW ?_; clear zc1 zc2); exact fr0)
theorem permits2_c (r k : Int) : CallSim Tryz.prog 128 [iA r, iA k] [] (bA (peF r k)) [] := by
 have c1 := rvalid2_c r
 have c2 := needed2_c k
 unfold peF
 generalize ndF k = n at *
 cases h1 : rvF r <;> rw [h1] at c1 <;> simp only [Bool.true_and, Bool.false_and] <;> ((refine eN Tryz.func128 Tryz.call128 fun F hF => ?_); (have zc1 := c1; have zc2 := c2; refine WW ?_; clear zc1 zc2); exact fr0)
theorem rnew_c (r b : Int) : CallSim Tryz.prog 95 [iA r, iA b] [] (bkA ⟨b, r, b⟩) [] := by
 (refine eN Tryz.func95 Tryz.call95 fun F hF => ?_)
 (refine WW ?_)
 exact fr0
theorem rnew2_c (r b : Int) : CallSim Tryz.prog 97 [iA r, iA b] [] (bkA ⟨b, r, b⟩) [] := by
 (refine eN Tryz.func97 Tryz.call97 fun F hF => ?_)
 (refine WW ?_)
 exact fr0
def bvF (b : Bk) : Bool := decide (0 ≤ b.burst ∧ b.burst ≤ 1000 ∧ 0 ≤ b.rate ∧ b.rate ≤ b.burst ∧ 0 ≤ b.level ∧ b.level ≤ b.burst)
theorem bvalid_c (b : Bk) : CallSim Tryz.prog 186 [bkA b] [] (bA (bvF b)) [] := by
 (cases hb : bvF b with | false => ((refine eN Tryz.func186 Tryz.call186 fun F hF => ?_); ((refine WW (I6 (fun hc hc hc hc hc => ?_) (fun hc hc hc hc hc => ?_) (fun hc hc hc hc => ?_) (fun hc hc hc => ?_) (fun hc hc => ?_) (fun hc => ?_)))); all_goals (first | exact fr0 | (simp only [bvF, decide_eq_false_iff_not] at hb; first | (exfalso; omega) | (apply fin_bool; (exact fr0); simp only [cmpB, decide_eq_false_iff_not, decide_eq_true_eq, beq_eq_false_iff_ne, bne_eq_false_iff_eq, beq_iff_eq, bne_iff_ne, ne_eq]; omega)))) | true => (simp only [bvF, decide_eq_true_eq] at hb; (refine eN Tryz.func186 Tryz.call186 fun F hF => ?_); ((refine WW ?_)); all_goals (first | exact fr0 | (exfalso; omega) | (apply fin_bool; (exact fr0); simp only [cmpB, decide_eq_false_iff_not, decide_eq_true_eq, beq_eq_false_iff_ne, bne_eq_false_iff_eq, beq_iff_eq, bne_iff_ne, ne_eq]; omega))))
theorem bvalid2_c (b : Bk) : CallSim Tryz.prog 204 [bkA b] [] (bA (bvF b)) [] := by
 (cases hb : bvF b with | false => ((refine eN Tryz.func204 Tryz.call204 fun F hF => ?_); ((refine WW (I6 (fun hc hc hc hc hc => ?_) (fun hc hc hc hc hc => ?_) (fun hc hc hc hc => ?_) (fun hc hc hc => ?_) (fun hc hc => ?_) (fun hc => ?_)))); all_goals (first | exact fr0 | (simp only [bvF, decide_eq_false_iff_not] at hb; first | (exfalso; omega) | (apply fin_bool; (exact fr0); simp only [cmpB, decide_eq_false_iff_not, decide_eq_true_eq, beq_eq_false_iff_ne, bne_eq_false_iff_eq, beq_iff_eq, bne_iff_ne, ne_eq]; omega)))) | true => (simp only [bvF, decide_eq_true_eq] at hb; (refine eN Tryz.func204 Tryz.call204 fun F hF => ?_); ((refine WW ?_)); all_goals (first | exact fr0 | (exfalso; omega) | (apply fin_bool; (exact fr0); simp only [cmpB, decide_eq_false_iff_not, decide_eq_true_eq, beq_eq_false_iff_ne, bne_eq_false_iff_eq, beq_iff_eq, bne_iff_ne, ne_eq]; omega))))
def btF (b : Bk) : Bk := ⟨min (b.level + b.rate) b.burst, b.rate, b.burst⟩
theorem btick_c (b : Bk) (h : -1000000000 ≤ b.level + b.rate ∧ b.level + b.rate ≤ 1000000000) : CallSim Tryz.prog 104 [bkA b] [] (bkA (btF b)) [] := by
 (refine eN Tryz.func104 Tryz.call104 fun F hF => ?_)
 (refine WW ?_)
 exact fr0
theorem btick2_c (b : Bk) (h : -1000000000 ≤ b.level + b.rate ∧ b.level + b.rate ≤ 1000000000) : CallSim Tryz.prog 108 [bkA b] [] (bkA (btF b)) [] := by
 (refine eN Tryz.func108 Tryz.call108 fun F hF => ?_)
 (refine WW ?_)
 exact fr0
def tak1 (b : Bk) : Bk := if b.level ≤ 0 then b else ⟨b.level - 1, b.rate, b.burst⟩
theorem btake_c (b : Bk) (h : b.level ≤ 9223372036854775807) : CallSim Tryz.prog 119 [bkA b] [] (.tup [bkA (tak1 b), bA (decide (0 < b.level))]) [] := by
 unfold tak1
 by_cases h1 : b.level ≤ 0
 ·rw [if_pos h1, decide_eq_false (by omega)]
  (refine eN Tryz.func119 Tryz.call119 fun F hF => ?_)
  (refine WW ?_)
  exact fr0
 ·rw [if_neg h1, decide_eq_true (by omega)]
  (refine eN Tryz.func119 Tryz.call119 fun F hF => ?_)
  (refine WW ?_)
  exact fr0
theorem btake2_c (b : Bk) (h : b.level ≤ 9223372036854775807) : CallSim Tryz.prog 87 [bkA b] [] (.tup [bkA (tak1 b), bA (decide (0 < b.level))]) [] := by
 unfold tak1
 by_cases h1 : b.level ≤ 0
 ·rw [if_pos h1, decide_eq_false (by omega)]
  (refine eN Tryz.func87 Tryz.call87 fun F hF => ?_)
  (refine WW ?_)
  exact fr0
 ·rw [if_neg h1, decide_eq_true (by omega)]
  (refine eN Tryz.func87 Tryz.call87 fun F hF => ?_)
  (refine WW ?_)
  exact fr0
def usF (l : List Tk) (s : Int) : Bool := decide (0 ≤ s ∧ s < l.length) && (l.getD s.toNat default).used
theorem used_c (l : List Tk) (s : Int) : CallSim Tryz.prog 148 [slA tkA l, iA s] [] (bA (usF l s)) [] := by
 have hl := map_len tkA l
 unfold usF
 by_cases h1 : 0 ≤ s
 ·by_cases h2 : s < l.length
  ·have hy := map_atI tkA l s h1 h2
   rw [decide_eq_true ⟨h1, h2⟩, Bool.true_and]
   (refine eN Tryz.func148 Tryz.call148 fun F hF => ?_)
   (refine WW ?_)
   exact fr0
  ·rw [decide_eq_false (by omega), Bool.false_and]
   (refine eN Tryz.func148 Tryz.call148 fun F hF => ?_)
   (refine WW ?_)
   exact fr0
 ·rw [decide_eq_false (by omega), Bool.false_and]
  (refine eN Tryz.func148 Tryz.call148 fun F hF => ?_)
  (refine WW ?_)
  exact fr0
def laF (a b : Int) : Bool := decide (b ≠ 0 ∧ (a = 0 ∨ b < a))
theorem later_c (a b : Int) : CallSim Tryz.prog 213 [iA a, iA b] [] (bA (laF a b)) [] := by
 unfold laF
 by_cases h1 : b = 0 <;> by_cases h2 : a = 0 <;> by_cases h3 : b < a <;> simp only [ne_eq, h1, h2, h3, not_true_eq_false, not_false_eq_true, and_true, and_false, true_and, false_and, or_true, true_or, or_false, decide_true, decide_false] <;> first | (exfalso; omega; done) | ((refine eN Tryz.func213 Tryz.call213 fun F hF => ?_); (refine WW ?_); exact fr0)
theorem later2_c (a b : Int) : CallSim Tryz.prog 206 [iA a, iA b] [] (bA (laF a b)) [] := by
 unfold laF
 by_cases h1 : b = 0 <;> by_cases h2 : a = 0 <;> by_cases h3 : b < a <;> simp only [ne_eq, h1, h2, h3, not_true_eq_false, not_false_eq_true, and_true, and_false, true_and, false_and, or_true, true_or, or_false, decide_true, decide_false] <;> first | (exfalso; omega; done) | ((refine eN Tryz.func206 Tryz.call206 fun F hF => ?_); (refine WW ?_); exact fr0)
def exF (t : Tk) (now : Int) : Bool := decide (t.til ≠ 0 ∧ t.til < now)
theorem expired_c (t : Tk) (now : Int) : CallSim Tryz.prog 140 [tkA t, iA now] [] (bA (exF t now)) [] := by
 unfold exF
 by_cases h1 : t.til = 0 <;> by_cases h2 : t.til < now <;> simp only [ne_eq, h1, h2, not_true_eq_false, not_false_eq_true, and_true, and_false, decide_true, decide_false] <;> first | (exfalso; omega; done) | ((refine eN Tryz.func140 Tryz.call140 fun F hF => ?_); (refine WW ?_); exact fr0)
def frT : Tk := ⟨false, [], -1, 0, 0, 0⟩
theorem free_c : CallSim Tryz.prog 136 [] [] (tkA frT) [] := by
 (refine eN Tryz.func136 Tryz.call136 fun F hF => ?_)
 (refine WW ?_)
 exact fr0
end
section
set_option maxRecDepth 4000
set_option maxHeartbeats 1000000
theorem wk_take {α : Type} (f : α → AV) (l : List α) : AV.sl false ((l.map f).take (l.map f).length) = slA f l := by rw [List.take_length]; rfl
def kpL {α : Type} (_ : Nat) (l : List α) : List α := l
theorem cloneI_c (l : List Int) (hl : l.length ≤ 1073741824) : CallSim Tryz.prog 125 [slA iA l] [] (slA iA l) [] := by
 have hll := map_len iA l
 (refine eN Tryz.func125 Tryz.call125 fun F hF => ?_)
 refine sim_nsplit 0 rfl (fun cap hx => ?_) ?_
 ·have : l = [] := by simpa using hx
  subst this
  (refine WW ?_)
  exact fr0
 ·(refine WW ?_)
  refine fin_ret [] rfl rfl (wk_take _ _) rfl
theorem cloneY_c (l : List Int) (hl : l.length ≤ 1073741824) : CallSim Tryz.prog 84 [slA yA l] [] (slA yA l) [] := by
 have hll := map_len yA l
 (refine eN Tryz.func84 Tryz.call84 fun F hF => ?_)
 refine sim_nsplit 0 rfl (fun cap hx => ?_) ?_
 ·have : l = [] := by simpa using hx
  subst this
  (refine WW ?_)
  exact fr0
 ·(refine WW ?_)
  refine fin_ret [] rfl rfl (wk_take _ _) rfl
theorem cloneV_c (l : List Vh) (hl : l.length ≤ 1073741824) : CallSim Tryz.prog 127 [slA vhA l] [] (slA vhA l) [] := by
 have hll := map_len vhA l
 (refine eN Tryz.func127 Tryz.call127 fun F hF => ?_)
 refine sim_nsplit 0 rfl (fun cap hx => ?_) ?_
 ·have : l = [] := by simpa using hx
  subst this
  (refine WW ?_)
  exact fr0
 ·(refine WW ?_)
  refine fin_ret [] rfl rfl (wk_take _ _) rfl
theorem cloneT_own (l : List Tk) (hl : l.length ≤ 1073741824) : CallSim Tryz.prog 126 [slA tkA l] [] (.ref 1001 0 (l.map tkA).length) [(1001, .arr 6 (l.map tkA) false)] := by
 have hll := map_len tkA l
 (refine eN Tryz.func126 Tryz.call126 fun F hF => ?_)
 refine sim_nsplit 0 rfl (fun cap hx => ?_) ?_
 ·have : l = [] := by simpa using hx
  subst this
  (repeat' (first | refine WZ ?_ | refine SG (I2 (fun hc => ?_) (fun hc => ?_)) | refine SG (fun hc => ?_) | (refine is_ops ?_; refine is_call ?_; fail) | (refine is_ops ?_; first | fail) | first | refine SN ?_ | refine SK (I2 (fun hc => ?_) (fun hc => ?_)) | refine SK (fun hc => ?_) | fail))
  refine sim_virtF 2 1001 6 rfl rfl rfl (sim_ret ?_)
  exact fin_own [1001] rfl rfl rfl rfl
 ·repeat' (first | (refine is_ops ?_; first | refine x_auto tok rfl rfl ?_ | (refine is_bin ?_; refine x_q (stp_eqlNil_not tok (.inl ⟨rfl, rfl⟩) rfl rfl rfl rfl) rfl ?_) | (refine is_bsl ?_; refine x_w (nw := [1001]) (stp_buildSlice tok 1001 (xs := []) rfl rfl rfl rfl rfl rfl rfl rfl rfl) rfl rfl rfl ?_) | (refine is_app ?_; refine x_appref0 tok rfl rfl rfl rfl rfl rfl rfl (map_hd _ _ (fun _ => rfl)) rfl rfl rfl (by omega) rfl ?_) | refine x_nil ?_) | (first | refine sim_seq ?_ | refine x_region ?_ | refine x_draw rfl ?_ | refine sim_cond_true rfl ?_ | refine sim_cond_false rfl ?_ | refine sim_cond rfl (fun hc => ?_) (fun hc => ?_) | refine sim_skip ?_ | refine sim_ret ?_ | refine sim_exit ?_ | refine sim_block ?_))
  exact fin_own [1001] rfl rfl rfl rfl
structure TkB (l : List Tk) : Prop where
 n : l.length ≤ 1000000
 s : ∀ t ∈ l, t.sec.length ≤ 1000000
theorem set_at {α : Type} [Inhabited α] (f : α → AV) (l : List α) (i : Nat) (hi : i < l.length) : (kpL i (l.map f)).set i (f (l.getD i default)) = kpL (i + 1) (l.map f) := by
 unfold kpL
 have := map_at f l i hi
 rw [List.getElem?_eq_some_iff] at this
 obtain ⟨h, e⟩ := this
 rw [← e, List.set_getElem_self]
theorem tclone_own (l : List Tk) (hb : TkB l) : CallSim Tryz.prog 138 [slA tkA l] [] (.ref 1001 0 (l.map tkA).length) [(1001, .arr 6 (l.map tkA) false)] := by
 have c := cloneT_own l (by have := hb.n; omega)
 have hn := hb.n
 have hll := map_len tkA l
 (refine eN Tryz.func138 Tryz.call138 fun F hF => ?_)
 (have zc1 := c; refine WW ?_; clear zc1)
 (refine sim_cnt ((l.map tkA).length) [1001] [] [3, 8] [9, 3, 8] rfl (fun i T U => ⟨(9, iA i) :: T, (1001, .arr 6 (kpL i (l.map tkA)) false) :: U⟩) ?_; (conv => whnf); refine ⟨by rfl, ?_, ?_⟩)
 ·intro i hi
  have hi' : i < l.length := by omega
  have hy : (kpL i (l.map tkA))[i]? = some (tkA (l.getD i default)) := map_at tkA l i hi'
  have e := set_at tkA l i hi'
  have c2 := cloneY_c (l.getD i default).sec (by have := hb.s (l.getD i default) (by simp [List.getD, hi']); omega)
  generalize (l.getD i default) = t at *
  generalize kpL i (l.map tkA) = xs at *
  generalize kpL (i + 1) (l.map tkA) = ys at *
  subst e
  (have zc1 := c2; refine WW ?_; clear zc1)
  rfl
 ·(refine WW ?_)
  exact fin_own [1001] rfl rfl rfl rfl
theorem cloneA_c (a : Ag) (h1 : a.sec.length ≤ 1000000) (h2 : a.lim.length ≤ 1000000) : CallSim Tryz.prog 93 [agA a] [] (agA a) [] := by
 have c1 := cloneY_c a.sec (by omega)
 have c2 := cloneI_c a.lim (by omega)
 (refine eN Tryz.func93 Tryz.call93 fun F hF => ?_)
 (have zc1 := c1; have zc2 := c2; refine WW ?_; clear zc1 zc2)
 exact fr0
structure RgB (r : Rg) : Prop where
 tk : TkB r.tk
 s : r.ag.sec.length ≤ 1000000
 l : r.ag.lim.length ≤ 1000000
 v : r.vh.length ≤ 1000000
def rgX (r : Rg) (xs : List AV) : AV := .agg [iA r.num, slA yA r.ag.sec, iA r.ag.rights, iA r.ag.cls, slA iA r.ag.lim, iA r.ag.req, iA r.ag.ses, iA r.ag.rate, iA r.ag.burst, .sl false xs, slA vhA r.vh, iA r.bk.level, iA r.bk.rate, iA r.bk.burst]
theorem rclone_c (r : Rg) (hb : RgB r) : CallSim Tryz.prog 102 [rgA r] [] (rgA r) [] := by
 have c1 := cloneA_c r.ag hb.s hb.l
 have hn := hb.tk.n
 have hv := hb.v
 have c2 := cloneT_own r.tk (by omega)
 have c3 := cloneV_c r.vh (by omega)
 have hll := map_len tkA r.tk
 (refine eN Tryz.func102 Tryz.call102 fun F hF => ?_)
 (have zc1 := c1; have zc2 := c2; refine WW ?_; clear zc1 zc2)
 (refine sim_cnt ((r.tk.map tkA).length) [1001, 1, 2] [1, 2] [1, 2, 14] [15, 1, 2, 14] rfl (fun i T U => ⟨(15, iA i) :: T, (1001, .arr 6 (kpL i (r.tk.map tkA)) false) :: U⟩) ?_; (conv => whnf); refine ⟨by rfl, ?_, ?_⟩)
 ·intro i hi
  have hi' : i < r.tk.length := by omega
  have hy : (kpL i (r.tk.map tkA))[i]? = some (tkA (r.tk.getD i default)) := map_at tkA r.tk i hi'
  have e := set_at tkA r.tk i hi'
  have c2 := cloneY_c (r.tk.getD i default).sec (by have := hb.tk.s (r.tk.getD i default) (by simp [List.getD, hi']); omega)
  generalize (r.tk.getD i default) = t at *
  generalize kpL i (r.tk.map tkA) = xs at *
  generalize kpL (i + 1) (r.tk.map tkA) = ys at *
  subst e
  (have zc1 := c2; refine WW ?_; clear zc1)
  rfl
 ·(have zc1 := c3; refine WW ?_; clear zc1)
  exact fin_ret [] rfl rfl (congrArg (rgX r) List.take_length) rfl
end
section
set_option maxRecDepth 4000
set_option maxHeartbeats 1000000
def chF (l : List Tk) : Nat → Int → List Int
 | 0, _ => []
 | n + 1, s => bif usF l s then s :: chF l n (l.getD s.toNat default).par else []
theorem chF_succ (l : List Tk) (k : Nat) (a : Int) : chF l (k + 1) a = bif usF l a then a :: chF l k (l.getD a.toNat default).par else [] := rfl
theorem usF_bd {l : List Tk} {s : Int} (h : usF l s = true) : 0 ≤ s ∧ s < l.length := by
 unfold usF at h
 simp only [Bool.and_eq_true, decide_eq_true_eq] at h
 exact h.1
theorem chF_us {l : List Tk} : ∀ (n : Nat) (s x : Int), x ∈ chF l n s → usF l x = true
 | 0, s, x, h => by simp [chF] at h
 | n + 1, s, x, h => by
  unfold chF at h
  cases hu : usF l s <;> rw [hu] at h
  ·simp at h
  ·rw [cond_true, List.mem_cons] at h
   rcases h with rfl | h
   ·exact hu
   ·exact chF_us n _ x h
def ancH (l : List Tk) (s : Int) : List (Nat × Ent) := [(1003, .box [iA s]), (1004, .box [slA tkA l])]
theorem anc_c (l : List Tk) (s : Int) : CallSim Tryz.prog 139 [slA tkA l, iA s] [] (.fn 179 [.ptr 1003 0 0, .ptr 1004 0 0]) (ancH l s) := by
 (refine eN Tryz.func139 Tryz.call139 fun F hF => ?_)
 repeat' (first | (refine is_ops ?_; first | refine x_w (stp_box (v := AV.sl _ _) 1004 rfl rfl) rfl rfl rfl ?_ | refine x_w (stp_box (v := AV.s _) 1003 rfl rfl) rfl rfl rfl ?_ | refine x_auto tok rfl rfl ?_ | refine x_nil ?_) | (first | refine sim_seq ?_ | refine x_region ?_ | refine x_draw rfl ?_ | refine sim_cond_true rfl ?_ | refine sim_cond_false rfl ?_ | refine sim_cond rfl (fun hc => ?_) (fun hc => ?_) | refine sim_skip ?_ | refine sim_ret ?_ | refine sim_exit ?_ | refine sim_block ?_))
 exact fin_own [1003, 1004] rfl rfl rfl rfl
theorem anc_it (l : List Tk) (s : Int) : IterSim Tryz.prog 179 [.ptr 1003 0 0, .ptr 1004 0 0] (ancH l s) ((chF l 8 s).map fun x => [iA x]) := by
 have hl := map_len tkA l
 refine iterSim_of Tryz.func179 rfl (fun args w => Tryz.call179 args w) rfl rfl rfl (fun F y hro hit hY => ?_)
 unfold ancH
 (refine WW ?_)
 (refine sim_cntP (8) [1003, 1004] [1003, 1004] [0, 2] [4, 6, 1000000, 0, 2] rfl (fun i T U zs => ∃ (a : Int) (pre : List Int), (chF l 8 s = pre ++ chF l (8 - i) a ∧ pre.length = i) ∧ zs = ⟨(4, iA a) :: (6, iA i) :: (1000000, .gh i) :: T, U⟩) ?_; (conv => whnf); refine ⟨?_, ?_, ?_⟩)
 ·exact ⟨s, [], ⟨rfl, rfl⟩, rfl⟩
 ·rintro i st hi ⟨a, pre, ⟨hp, hpl⟩, rfl⟩
  have c := used_c l a
  obtain ⟨k, hk⟩ : ∃ k, 8 - i = k + 1 := ⟨7 - i, by omega⟩
  rw [hk, chF_succ l k a] at hp
  cases hu : usF l a <;> rw [hu] at c hp
  ·rw [cond_false, List.append_nil] at hp
   (have zc1 := c; refine WW ?_; clear zc1)
   exact fini_ret rfl (.inl (by rw [List.length_map, hp, hpl]))
  ·rw [cond_true] at hp
   obtain ⟨h0, h1⟩ := usF_bd hu
   have hy := map_atI tkA l a h0 h1
   have hys : ((chF l 8 s).map fun x => [iA x])[i]? = some [iA a] := by rw [hp]; simp [← hpl]
   have hlen : i < ((chF l 8 s).map fun x => [iA x]).length := (List.getElem?_eq_some_iff.1 hys).1
   generalize ((chF l 8 s).map fun x => [iA x]) = xs at *
   have hp' : chF l 8 s = (pre ++ [a]) ++ chF l (8 - (i + 1)) (l.getD a.toNat default).par := by rw [hp, show 8 - (i + 1) = k by omega]; simp
   generalize l.getD a.toNat default = t at *
   (repeat' (first | refine WZ ?_ | refine SG (I2 (fun hc => ?_) (fun hc => ?_)) | refine SG (fun hc => ?_) | (refine is_ops ?_; refine is_call ?_; first | (first | (refine is_fn 148 ?_; first | refine x_q (stp_call (c) rfl rfl rfl rfl rfl) rfl ?_ | refine x_w (stp_call (c) rfl rfl rfl rfl rfl) rfl rfl rfl ?_ | refine x_d (stp_call (c) rfl rfl rfl rfl rfl) rfl rfl rfl ?_)) | (refine is_cv ?_; refine x_yield hit hY rfl rfl hys rfl rfl rfl ?_ ?_)) | (refine is_ops ?_; first | refine SM ?_) | first | refine SR ?_ | refine SK (I2 (fun hc => ?_) (fun hc => ?_)) | refine SK (fun hc => ?_) | fail))
   ·exact ⟨t.par, pre ++ [a], ⟨hp', by simp [hpl]⟩, rfl⟩
   ·exact fini_ret rfl (.inr (by omega))
 ·rintro st ⟨a, pre, ⟨hp, hpl⟩, rfl⟩
  rw [show chF l (8 - 8) a = [] from rfl, List.append_nil] at hp
  (refine WW ?_)
  exact fini_normal rfl (.inl (by rw [List.length_map, hp, hpl]))
def deF (l : List Tk) (s top : Int) : Bool := (chF l 8 s).any fun a => a == top
theorem desc_c (l : List Tk) (s top : Int) : CallSim Tryz.prog 190 [slA tkA l, iA s, iA top] [] (bA (deF l s top)) [] := by
 have c := anc_c l s
 unfold ancH at c
 (refine eN Tryz.func190 Tryz.call190 fun F hF => ?_)
 (have zc1 := c; refine WW ?_; clear zc1)
 refine sim_rangeFunc hF (anc_it l s) rfl [5, 6] [5, 6] rfl rfl rfl rfl rfl rfl rfl rfl rfl (fun i ys h => ?_) (fun _ => [(5, .box [iA top]), (6, .box [.s (.bool false)])]) (fun i => ∀ x ∈ (chF l 8 s).take i, x ≠ top) (T := [(5, .ptr 5 0 0), (6, .ptr 6 0 0)]) rfl (by simp) (fun i ys y hys hI F1 h1 h2 => ?_) (fun hI => ?_)
 ·rw [List.getElem?_map, Option.map_eq_some_iff] at h
  obtain ⟨x, _, rfl⟩ := h
  rfl
 ·rw [List.getElem?_map, Option.map_eq_some_iff] at hys
  obtain ⟨x, hx, rfl⟩ := hys
  show Sim _ F1 _ _ ⟨[(11, iA x), (5, .ptr 5 0 0), (6, .ptr 6 0 0)], [(5, .box [iA top]), (6, .box [.s (.bool false)])]⟩ _
  have hmem : x ∈ chF l 8 s := List.mem_of_getElem? hx
  (refine WW ?_)
  refine ⟨rfl, fun F2 g1 g2 => ?_⟩
  by_cases ht : x = top
  ·have hd : deF l s top = true := List.any_eq_true.2 ⟨x, hmem, by simpa using ht⟩
   rw [hd]
   (refine WW ?_)
   exact fr0
  ·(refine WW ?_)
   refine ⟨rfl, fun z hz => ?_⟩
   rw [List.take_add_one, hx] at hz
   simp only [Option.toList_some, List.mem_append, List.mem_singleton] at hz
   rcases hz with hz | rfl
   ·exact hI z hz
   ·exact ht
 ·rw [List.length_map, List.take_length] at hI
  have hd : deF l s top = false := List.any_eq_false.2 fun x hx => by simpa using hI x hx
  rw [hd]
  (refine WW ?_)
  exact fr0
def exAt (l : List Tk) (now : Int) (j : Nat) : Tk := if (chF l 8 j).any (fun a => exF (l.getD a.toNat default) now) = true then frT else l.getD j default
def exS (l : List Tk) (now : Int) (s : Nat) : List Tk := (List.range l.length).map fun j => if j < s then exAt l now j else l.getD j default
def expF (l : List Tk) (now : Int) : List Tk := (List.range l.length).map (exAt l now)
theorem exS_len (l : List Tk) (now : Int) (s : Nat) : (exS l now s).length = l.length := by simp [exS]
theorem exS_zero (l : List Tk) (now : Int) : exS l now 0 = l := by
 unfold exS
 apply List.ext_getElem?
 intro j
 rw [List.getElem?_map]
 by_cases h : j < l.length
 ·rw [List.getElem?_range h]; simp [List.getD, h]
 ·rw [List.getElem?_eq_none (by simp; omega), List.getElem?_eq_none (by omega)]; rfl
theorem exS_end (l : List Tk) (now : Int) : exS l now l.length = expF l now := by
 unfold exS expF
 apply List.map_congr_left
 intro j hj
 rw [List.mem_range] at hj
 rw [if_pos hj]
theorem exS_at (l : List Tk) (now : Int) (s : Nat) (h : s < l.length) : (exS l now s)[s]? = some (l.getD s default) := by
 unfold exS
 rw [List.getElem?_map, List.getElem?_range h]
 simp
theorem exS_succ (l : List Tk) (now : Int) (s : Nat) : exS l now (s + 1) = (exS l now s).set s (exAt l now s) := by
 unfold exS
 apply List.ext_getElem?
 intro j
 rw [List.getElem?_set, List.getElem?_map, List.getElem?_map]
 by_cases h : j < l.length
 ·rw [List.getElem?_range h]
  by_cases hs : s = j
  ·subst hs; simp [h]
  ·rw [if_neg hs]
   by_cases hj : j < s
   ·simp [hj, show j < s + 1 by omega]
   ·simp [hj, show ¬ j < s + 1 by omega]
 ·rw [List.getElem?_eq_none (by simp; omega)]
  split <;> simp; omega
theorem expire_c (l : List Tk) (hb : TkB l) (now : Int) : CallSim Tryz.prog 103 [slA tkA l, iA now] [] (slA tkA (expF l now)) [] := by
 have c := tclone_own l hb
 have hn := hb.n
 have hll := map_len tkA l
 (refine eN Tryz.func103 Tryz.call103 fun F hF => ?_)
 (have zc1 := c; refine WW ?_; clear zc1)
 (refine sim_cnt ((l.map tkA).length) [1001, 2, 3, 5] [2, 3, 5] [2, 3, 5, 11, 18] [12, 2, 3, 5, 11, 18] rfl (fun i T U => ⟨(12, iA i) :: T, (1001, .arr 6 ((exS l now i).map tkA) false) :: U⟩) ?_; (conv => whnf); refine ⟨by (rw [exS_zero]; rfl), ?_, ?_⟩)
 ·intro i hi
  have hi' : i < l.length := by omega
  have c1 := anc_c l i
  unfold ancH at c1
  have hy : ((exS l now i).map tkA)[i]? = some (tkA (l.getD i default)) := by rw [List.getElem?_map, exS_at l now i hi']; rfl
  have es := exS_succ l now i
  have hif := free_c
  have hrl : i < ((exS l now i).map tkA).length := by rw [List.length_map, exS_len]; exact hi'
  (have zc1 := c1; refine WW ?_; clear zc1)
  refine sim_rangeFunc hF (anc_it l i) rfl [2, 3, 5, 6, 1001] [2, 3, 5, 6, 11, 12] rfl rfl rfl rfl rfl rfl rfl rfl rfl (fun k ys h => ?_) (fun _ => [(2, .box [slA tkA l]), (3, .box [iA now]), (5, .box [.ref 1001 0 (l.map tkA).length]), (6, .box [iA i]), (1001, .arr 6 ((exS l now i).map tkA) false)]) (fun k => ∀ x ∈ (chF l 8 i).take k, exF (l.getD x.toNat default) now = false)
   (T := [(2, .ptr 2 0 0), (3, .ptr 3 0 0), (5, .ptr 5 0 0), (6, .ptr 6 0 0), (11, iA (l.map tkA).length), (12, iA i)]) rfl (by simp) (fun k ys y hys hI F1 h1 h2 => ?_) (fun hI => ?_)
  ·rw [List.getElem?_map, Option.map_eq_some_iff] at h
   obtain ⟨x, _, rfl⟩ := h
   rfl
  ·rw [List.getElem?_map, Option.map_eq_some_iff] at hys
   obtain ⟨x, hx, rfl⟩ := hys
   show Sim _ F1 _ _ ⟨[(18, iA x), (2, .ptr 2 0 0), (3, .ptr 3 0 0), (5, .ptr 5 0 0), (6, .ptr 6 0 0), (11, iA (l.map tkA).length), (12, iA i)], [(2, .box [slA tkA l]), (3, .box [iA now]), (5, .box [.ref 1001 0 (l.map tkA).length]), (6, .box [iA i]), (1001, .arr 6 ((exS l now i).map tkA) false)]⟩ _
   have hmem : x ∈ chF l 8 i := List.mem_of_getElem? hx
   obtain ⟨b1, b2⟩ := usF_bd (chF_us _ _ _ hmem)
   have hy2 := map_atI tkA l x b1 b2
   have ce := expired_c (l.getD x.toNat default) now
   (refine WW ?_)
   refine ⟨rfl, fun F2 g1 g2 => ?_⟩
   cases he : exF (l.getD x.toNat default) now <;> rw [he] at ce
   ·(have zc1 := ce; refine WW ?_; clear zc1)
    refine ⟨rfl, fun z hz => ?_⟩
    rw [List.take_add_one, hx] at hz
    simp only [Option.toList_some, List.mem_append, List.mem_singleton] at hz
    rcases hz with hz | rfl
    ·exact hI z hz
    ·exact he
   ·have e2 : (exS l now (i + 1)).map tkA = ((exS l now i).map tkA).set i (tkA frT) := by
     rw [es, exAt, if_pos (List.any_eq_true.2 ⟨x, hmem, he⟩), List.map_set]
    generalize (exS l now i).map tkA = xs at *
    generalize (exS l now (i + 1)).map tkA = ys at *
    subst e2
    (have zc1 := ce; have zc2 := hif; refine WW ?_; clear zc1 zc2)
    rfl
  ·rw [List.length_map, List.take_length] at hI
   have e2 : (exS l now (i + 1)).map tkA = (exS l now i).map tkA := by
    rw [es, exAt, if_neg (by simpa using hI)]
    congr 1
    have := exS_at l now i hi'
    rw [List.getElem?_eq_some_iff] at this
    obtain ⟨h, e⟩ := this
    rw [← e, List.set_getElem_self]
   generalize (exS l now i).map tkA = xs at *
   generalize (exS l now (i + 1)).map tkA = ys at *
   subst e2
   (refine WW ?_)
   rfl
 ·have hl2 : (l.map tkA).length = ((exS l now l.length).map tkA).length := by simp [exS_len]
  rw [← exS_end]
  rw [hll] at *
  (refine WW ?_)
  exact fin_ret [] rfl rfl (congrArg (AV.sl false) (List.take_of_length_le (by simp [exS_len]))) rfl
end
end Av
end Go.Proofs.YtaikgchmpieooaaGreat
