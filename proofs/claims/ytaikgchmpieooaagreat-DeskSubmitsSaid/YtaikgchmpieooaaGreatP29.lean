/- Part 29: contracts of the functions, and what they rest upon. -/
import Derived.Test.YtaikgchmpieooaaGreatP28
import Derived.Test.YtaikgchmpieooaaGreatP22
namespace Go.Proofs.YtaikgchmpieooaaGreat
namespace Av
set_option linter.unusedSimpArgs false
set_option linter.unusedVariables false
section
set_option maxRecDepth 4000
set_option maxHeartbeats 2000000
theorem vdR_ok : ∀ (r : List Int) (i : Nat) (n : Int), BY r → 0 ≤ n → (vdR r i n = (0, 0, 6)) ∨ ((vdR r i n).2.2 = 0 ∧ 0 ≤ (vdR r i n).1 ∧ (vdR r i n).1 ≤ 4294967295 ∧ (i : Int) + 1 ≤ (vdR r i n).2.1 ∧ (vdR r i n).2.1 ≤ i + r.length)
 | [], i, n, _, _ => .inl rfl
 | x :: r, i, n, hb, hn => by
  have hx := hb x (by simp)
  have hp : 0 ≤ n + x.tmod 128 * 128 ^ i := by
   have h1 : 0 ≤ x.tmod 128 := by rw [Int.tmod_eq_emod_of_nonneg hx.1]; omega
   have h2 : (0 : Int) ≤ 128 ^ i := Int.pow_nonneg (by omega)
   have := Int.mul_nonneg h1 h2
   omega
  rw [vdR]
  by_cases h5 : i = 5
  ·exact .inl (if_pos h5)
  rw [if_neg h5]
  by_cases h1 : 128 ≤ x
  ·rw [if_pos h1]
   rcases vdR_ok r (i + 1) (n + x.tmod 128 * 128 ^ i) (fun y hy => hb y (by simp [hy])) hp with h | ⟨a, b, c, d, e⟩
   ·exact .inl h
   ·refine .inr ⟨a, b, c, by omega, ?_⟩
    rw [List.length_cons]
    omega
  ·rw [if_neg h1]
   by_cases h2 : 4294967295 < n + x.tmod 128 * 128 ^ i ∨ (0 < i ∧ x = 0)
   ·exact .inl (if_pos h2)
   ·rw [if_neg h2]
    refine .inr ⟨rfl, hp, by omega, Int.le_refl _, ?_⟩
    show (i : Int) + 1 ≤ _
    rw [List.length_cons]
    omega
theorem vdF_ok (b : List Int) (hb : BY b) : vdF b = (0, 0, 6) ∨ ((vdF b).2.2 = 0 ∧ 0 ≤ (vdF b).1 ∧ (vdF b).1 ≤ 4294967295 ∧ 1 ≤ (vdF b).2.1 ∧ (vdF b).2.1 ≤ b.length) := by
 have := vdR_ok b 0 0 hb (Int.le_refl _)
 rcases this with h | ⟨a, b, c, d, e⟩
 ·exact .inl h
 ·exact .inr ⟨a, b, c, by have : (0 : Int) + 1 ≤ (vdF _).2.1 := d; omega, by have : (vdF _).2.1 ≤ (0 : Int) + _ := e; omega⟩
def nbF : Nat → List Int → Option (List Int × List Int)
 | 0, b => some ([], b)
 | n + 1, b => if (vdF b).2.2 = 0 then (match nbF n (b.drop (vdF b).2.1.toNat) with | none => none | some (l, r) => some ((vdF b).1 :: l, r)) else none
def nbG (l : List Int) : Option (List Int × List Int) → Option (List Int × List Int)
 | none => none
 | some (k, r) => some (l ++ k, r)
theorem nbG_nil (o : Option (List Int × List Int)) : nbG [] o = o := by
 cases o with
 | none => rfl
 | some p => rfl
theorem nbG_no {l b : List Int} {n : Nat} (h : (vdF b).2.2 ≠ 0) : nbG l (nbF (n + 1) b) = none := by
 rw [nbF, if_neg h]
 rfl
theorem nbG_go {l b : List Int} {n : Nat} (h : (vdF b).2.2 = 0) : nbG l (nbF (n + 1) b) = nbG (l ++ [(vdF b).1]) (nbF n (b.drop (vdF b).2.1.toNat)) := by
 rw [nbF, if_pos h]
 cases nbF n (b.drop (vdF b).2.1.toNat) with
 | none => rfl
 | some p => obtain ⟨k, r⟩ := p; simp [nbG]
def nbT : Option (List Int × List Int) → AV
 | none => .tup [slA iA [], slA yA [], bA false]
 | some (l, r) => .tup [slA iA l, slA yA r, bA true]
theorem numbers_c (b : List Int) (n : Nat) (hb : BY b) (hbn : b.length ≤ 100000) (hn : n ≤ 1000) : CallSim Tryz.prog 117 [slA yA b, iA n] [] (nbT (nbF n b)) [] := by
 (refine eN Tryz.func117 Tryz.call117 fun F hF => ?_)
 (refine WW ?_)
 refine sim_stale 12 rfl ?_
 (refine sim_cntP (n) [12] [] [13] [0, 7, 14, 13] rfl (fun i T U zs => ∃ acc c, (acc.length = i ∧ BY c ∧ c.length ≤ 100000 ∧ nbF n b = nbG acc (nbF (n - i) c)) ∧ zs = ⟨(0, slA yA c) :: (7, .ref 12 0 (acc.map iA).length) :: (14, iA i) :: T, (12, .arr 1 (acc.map iA) true) :: U⟩) ?_; (conv => whnf); refine ⟨?_, ?_, ?_⟩)
 ·exact ⟨[], b, ⟨rfl, hb, hbn, by rw [nbG_nil]; rfl⟩, rfl⟩
 ·rintro i st hi ⟨acc, c, ⟨q0, q1, q2, q3⟩, rfl⟩
  have hd := vd_c c q1 q2
  have hl := map_len yA c
  have hla := map_len iA acc
  rw [show n - i = (n - (i + 1)) + 1 by omega] at q3
  rcases vdF_ok c q1 with h | ⟨h1, h2, h3, h4, h5⟩
  ·rw [q3, nbG_no (by rw [h]; decide)]
   rw [h] at hd
   clear q3 h
   show Sim _ _ _ _ _ (rndQ (inB 0 (thenS _ _ _ _ (Fin _ _ [] (.tup [slA iA [], slA yA [], bA false]) []))) _)
   (have zc1 := hd; refine WW ?_; clear zc1)
   exact fr0
  ·rw [nbG_go h1] at q3
   rw [h1] at hd
   have hbd : BY (c.drop (vdF c).2.1.toNat) := fun y hy => q1 y (List.mem_of_mem_drop hy)
   have hcd : (c.drop (vdF c).2.1.toNat).length ≤ 100000 := by rw [List.length_drop]; omega
   clear h1
   rw [q3]
   generalize (vdF c).1 = v at *
   generalize (vdF c).2.1 = k at *
   (have zc1 := hd; refine WW ?_; clear zc1)
   refine ⟨acc ++ [v], c.drop k.toNat, ⟨by simp [q0], hbd, hcd, rfl⟩, ?_⟩
   rw [List.map_append]
   rfl
 ·rintro st ⟨acc, c, ⟨q0, q1, q2, q3⟩, rfl⟩
  rw [q3, Nat.sub_self]
  show Sim _ _ _ _ _ (rndQ (inB 0 (thenS _ _ _ _ (Fin _ _ [] (.tup [slA iA (acc ++ []), slA yA c, bA true]) []))) _)
  rw [List.append_nil]
  (refine WW ?_)
  exact fin_ret [] rfl rfl (congrArg (fun z => AV.tup [z, slA yA c, bA true]) (wk_take _ _)) rfl
theorem numbers2_c (b : List Int) (n : Nat) (hb : BY b) (hbn : b.length ≤ 100000) (hn : n ≤ 1000) : CallSim Tryz.prog 57 [slA yA b, iA n] [] (nbT (nbF n b)) [] := by
 (refine eN Tryz.func57 Tryz.call57 fun F hF => ?_)
 (refine WW ?_)
 refine sim_virt 7 1001 1 rfl rfl rfl ?_
 (refine sim_cntP (n) [1001] [] [11] [0, 7, 12, 11] rfl (fun i T U zs => ∃ acc c, (acc.length = i ∧ BY c ∧ c.length ≤ 100000 ∧ nbF n b = nbG acc (nbF (n - i) c)) ∧ zs = ⟨(0, slA yA c) :: (7, .ref 1001 0 (acc.map iA).length) :: (12, iA i) :: T, (1001, .arr 1 (acc.map iA) true) :: U⟩) ?_; (conv => whnf); refine ⟨?_, ?_, ?_⟩)
 ·exact ⟨[], b, ⟨rfl, hb, hbn, by rw [nbG_nil]; rfl⟩, rfl⟩
 ·rintro i st hi ⟨acc, c, ⟨q0, q1, q2, q3⟩, rfl⟩
  have hd := vd2_c c q1 q2
  have hl := map_len yA c
  have hla := map_len iA acc
  rw [show n - i = (n - (i + 1)) + 1 by omega] at q3
  rcases vdF_ok c q1 with h | ⟨h1, h2, h3, h4, h5⟩
  ·rw [q3, nbG_no (by rw [h]; decide)]
   rw [h] at hd
   clear q3 h
   show Sim _ _ _ _ _ (rndQ (inB 0 (thenS _ _ _ _ (Fin _ _ [] (.tup [slA iA [], slA yA [], bA false]) []))) _)
   (have zc1 := hd; refine WW ?_; clear zc1)
   exact fr0
  ·rw [nbG_go h1] at q3
   rw [h1] at hd
   have hbd : BY (c.drop (vdF c).2.1.toNat) := fun y hy => q1 y (List.mem_of_mem_drop hy)
   have hcd : (c.drop (vdF c).2.1.toNat).length ≤ 100000 := by rw [List.length_drop]; omega
   clear h1
   rw [q3]
   generalize (vdF c).1 = v at *
   generalize (vdF c).2.1 = k at *
   (have zc1 := hd; refine WW ?_; clear zc1)
   refine ⟨acc ++ [v], c.drop k.toNat, ⟨by simp [q0], hbd, hcd, rfl⟩, ?_⟩
   rw [List.map_append]
   rfl
 ·rintro st ⟨acc, c, ⟨q0, q1, q2, q3⟩, rfl⟩
  rw [q3, Nat.sub_self]
  show Sim _ _ _ _ _ (rndQ (inB 0 (thenS _ _ _ _ (Fin _ _ [] (.tup [slA iA (acc ++ []), slA yA c, bA true]) []))) _)
  rw [List.append_nil]
  (refine WW ?_)
  exact fin_ret [] rfl rfl (congrArg (fun z => AV.tup [z, slA yA c, bA true]) (wk_take _ _)) rfl
end
section
set_option maxRecDepth 4000
set_option maxHeartbeats 2000000
def enR : Nat → Int → List Int
 | 0, n => [n]
 | f + 1, n => if n < 128 then [n] else (n % 128 + 128) :: enR f (n / 128)
def enF (n : Int) : List Int := enR 4 n
theorem div_lt {n : Int} {z : Nat} (h : n < 128 ^ (z + 1 + 1)) : n / 128 < 128 ^ (z + 1) := Int.ediv_lt_of_lt_mul (by decide) (by rw [Int.pow_succ] at h; exact h)
theorem enR_lt {f : Nat} {n : Int} (h : n < 128) : enR f n = [n] := by
 cases f with
 | zero => rfl
 | succ f => exact if_pos h
theorem enR_ge {f : Nat} {n : Int} (h : 128 ≤ n) : enR (f + 1) n = (n % 128 + 128) :: enR f (n / 128) := if_neg (by omega)
theorem en2_c (n : Int) (h0 : 0 ≤ n) (h1 : n ≤ 4294967295) : CallSim Tryz.prog 100 [iA n] [] (.tup [slA yA (enF n), iA 0]) [] := by
 have cs := sizeV2_c n
 have hsz : 1 ≤ szF n := by
  rw [szF_lg h0 h1]
  unfold lgF
  repeat' split
  all_goals omega
 generalize szF n = s at *
 generalize hR : enF n = R
 (refine eN Tryz.func100 Tryz.call100 fun F hF => ?_)
 (have zc1 := cs; refine WW ?_; clear zc1)
 refine sim_virt 4 1001 1 rfl rfl rfl ?_
 (refine sim_whl (4) [1001] [] [] [0, 4] rfl (fun zn T U zs => ∃ (m : Int) (acc : List Int), (0 ≤ m ∧ m ≤ 4294967295 ∧ m < 128 ^ (zn + 1) ∧ acc.length + zn = 4 ∧ acc ++ enR zn m = R) ∧ zs = ⟨(0, iA m) :: (4, .ref 1001 0 (acc.map yA).length) :: T, (1001, .arr 1 (acc.map yA) true) :: U⟩) ?_; (conv => whnf); refine ⟨?_, ?_⟩)
 ·exact ⟨n, [], ⟨h0, h1, by show n < 34359738368; omega, rfl, hR⟩, rfl⟩
 ·rintro zn st ⟨m, acc, ⟨q0, q1, q2, q3, q4⟩, rfl⟩
  have hla := map_len yA acc
  by_cases hm : 128 ≤ m
  ·obtain ⟨z, rfl⟩ : ∃ z, zn = z + 1 := by
    cases zn with
    | zero => exfalso; have : m < 128 := q2; omega
    | succ z => exact ⟨z, rfl⟩
   rw [enR_ge hm] at q4
   have hd := div_lt q2
   have ht : m.tmod 128 = m % 128 := Int.tmod_eq_emod_of_nonneg q0
   have hmd : m.tdiv 128 = m / 128 := Int.tdiv_eq_ediv_of_nonneg q0
   have hir : InR .i64 (m.tdiv 128) := ⟨by omega, by omega⟩
   clear q2
   (refine WW ?_)
   refine ⟨z, by omega, m.tdiv 128, acc ++ [m.tmod 128 + 128], ⟨by omega, by omega, by rw [hmd]; exact hd, by simp; omega, by rw [hmd, ht, List.append_assoc]; exact q4⟩, ?_⟩
   rw [List.map_append]
   rfl
  ·rw [enR_lt (by omega)] at q4
   clear q2
   subst q4
   (refine WW ?_)
   refine fin_ret [] rfl rfl ?_ rfl
   show AV.tup [AV.sl false ((acc.map yA ++ [yA m]).take (acc.map yA ++ [yA m]).length), iA 0] = _
   rw [List.take_length]
   unfold slA
   rw [List.map_append]
   rfl
section
variable {P : Program} {tm : List (Nat × AV)} {h : List (Nat × Ent)} {tx ty : Nat} {x y : Operand}
end
end
section
set_option maxRecDepth 4000
set_option maxHeartbeats 2000000
theorem vdR_code : ∀ (r : List Int) (i : Nat) (n : Int), BY r → i ≤ 5 → (vdR r i n).2.2 = 0 → ∃ q : Int, 0 ≤ q ∧ (vdR r i n).1 = n + q * 128 ^ i ∧ (0 < i → 0 < q) ∧ i ≤ 4 ∧ ∃ j : Nat, (vdR r i n).2.1 = ((i + j : Nat) : Int) ∧ enR (4 - i) q = r.take j
 | [], i, n, _, _, h => by exact absurd (show (6 : Int) = 0 from h) (by decide)
 | x :: r, i, n, hb, h5, h => by
  have hx := hb x (by simp)
  by_cases hi : i = 5
  ·exfalso
   rw [vdR, if_pos hi] at h
   exact absurd (show (6 : Int) = 0 from h) (by decide)
  by_cases hx1 : 128 ≤ x
  ·have e : vdR (x :: r) i n = vdR r (i + 1) (n + x.tmod 128 * 128 ^ i) := by rw [vdR, if_neg hi, if_pos hx1]
   rw [e] at h ⊢
   obtain ⟨q, q0, q1, q2, q3, j, q4, q5⟩ := vdR_code r (i + 1) _ (fun y hy => hb y (by simp [hy])) (by omega) h
   have ht : x.tmod 128 = x % 128 := Int.tmod_eq_emod_of_nonneg hx.1
   have hq := q2 (by omega)
   refine ⟨x.tmod 128 + q * 128, by omega, ?_, fun _ => by omega, by omega, j + 1, by rw [q4]; omega, ?_⟩
   ·rw [q1, Int.pow_succ, Int.add_mul, Int.mul_assoc, Int.mul_comm 128, Int.add_assoc]
   ·obtain ⟨f, hf⟩ : ∃ f, 4 - i = f + 1 := ⟨3 - i, by omega⟩
    rw [hf, enR_ge (by omega), List.take_succ_cons, ← q5, show 4 - (i + 1) = f by omega]
    congr 1
    ·omega
    ·congr 1
     omega
  ·have hxm : x.tmod 128 = x := by rw [Int.tmod_eq_emod_of_nonneg hx.1]; omega
   have e : vdR (x :: r) i n = if 4294967295 < n + x.tmod 128 * 128 ^ i ∨ (0 < i ∧ x = 0) then (0, 0, 6) else (n + x.tmod 128 * 128 ^ i, (i : Int) + 1, 0) := by rw [vdR, if_neg hi, if_neg hx1]
   rw [e] at h ⊢
   by_cases hbad : 4294967295 < n + x.tmod 128 * 128 ^ i ∨ (0 < i ∧ x = 0)
   ·rw [if_pos hbad] at h
    exact absurd (show (6 : Int) = 0 from h) (by decide)
   ·rw [if_neg hbad, hxm]
    refine ⟨x, hx.1, rfl, fun h0 => ?_, by omega, 1, by show (i : Int) + 1 = _; omega, ?_⟩
    ·have : x ≠ 0 := fun h => hbad (.inr ⟨h0, h⟩)
     omega
    ·rw [enR_lt (by omega)]
     rfl
theorem vdF_code {b : List Int} (hb : BY b) (h : (vdF b).2.2 = 0) : enF (vdF b).1 = b.take (vdF b).2.1.toNat := by
 obtain ⟨q, _, q1, _, _, j, q4, q5⟩ := vdR_code b 0 0 hb (by omega) h
 have e1 : (vdF b).1 = q := by
  show (vdR b 0 0).1 = q
  rw [q1]
  simp
 have e2 : (vdF b).2.1.toNat = j := by
  show (vdR b 0 0).2.1.toNat = j
  rw [q4]
  simp
 rw [e1, e2]
 exact q5
theorem nbF_ok : ∀ (n : Nat) (b l r : List Int), BY b → nbF n b = some (l, r) → l.length = n ∧ BY r ∧ (∀ x ∈ l, 0 ≤ x ∧ x ≤ 4294967295) ∧ b = (l.map enF).flatten ++ r
 | 0, b, l, r, hb, h => by
  cases h
  exact ⟨rfl, hb, by simp, rfl⟩
 | n + 1, b, l, r, hb, h => by
  rw [nbF] at h
  by_cases he : (vdF b).2.2 = 0
  ·rw [if_pos he] at h
   rcases vdF_ok b hb with h0 | ⟨_, h2, h3, h4, h5⟩
   ·rw [h0] at he
    exact absurd (show (6 : Int) = 0 from he) (by decide)
   cases hn : nbF n (b.drop (vdF b).2.1.toNat) with
   | none => rw [hn] at h; cases h
   | some p =>
    obtain ⟨l', r'⟩ := p
    rw [hn] at h
    cases h
    obtain ⟨g1, g2, g3, g4⟩ := nbF_ok n _ l' r (fun y hy => hb y (List.mem_of_mem_drop hy)) hn
    refine ⟨by simp [g1], g2, fun x hx => ?_, ?_⟩
    ·rcases List.mem_cons.1 hx with rfl | hx
     ·exact ⟨h2, h3⟩
     ·exact g3 x hx
    ·rw [List.map_cons, List.flatten_cons, vdF_code hb he, List.append_assoc, ← g4, List.take_append_drop]
  ·rw [if_neg he] at h
   cases h
end
section
set_option maxRecDepth 4000
set_option maxHeartbeats 2000000
theorem numbers_own (b : List Int) (n : Nat) (l r : List Int) (hb : BY b) (hbn : b.length ≤ 100000) (hn : n ≤ 1000) (hok : nbF n b = some (l, r)) : CallSim Tryz.prog 117 [slA yA b, iA n] [] (.tup [.ref 1001 0 (l.map iA).length, slA yA r, bA true]) [(1001, .arr 1 (l.map iA) true)] := by
 (refine eN Tryz.func117 Tryz.call117 fun F hF => ?_)
 (repeat' (first | refine WZ ?_ | refine SG (I2 (fun hc => ?_) (fun hc => ?_)) | refine SG (fun hc => ?_) | (refine is_ops ?_; refine is_call ?_; fail) | (refine is_ops ?_; first | (refine is_mks ?_; refine x_mksK 1001 tok rfl rfl rfl rfl rfl rfl rfl rfl rfl rfl rfl rfl rfl (by omega) (by omega) rfl rfl rfl ?_)) | first | refine SR ?_ | refine SK (I2 (fun hc => ?_) (fun hc => ?_)) | refine SK (fun hc => ?_) | fail))
 refine sim_stale 1001 rfl ?_
 (refine sim_cntP (n) [1001] [] [13] [0, 7, 14, 13] rfl (fun i T U zs => ∃ acc c, (acc.length = i ∧ BY c ∧ c.length ≤ 100000 ∧ nbF n b = nbG acc (nbF (n - i) c)) ∧ zs = ⟨(0, slA yA c) :: (7, .ref 1001 0 (acc.map iA).length) :: (14, iA i) :: T, (1001, .arr 1 (acc.map iA) true) :: U⟩) ?_; (conv => whnf); refine ⟨?_, ?_, ?_⟩)
 ·exact ⟨[], b, ⟨rfl, hb, hbn, by rw [nbG_nil]; rfl⟩, rfl⟩
 ·rintro i st hi ⟨acc, c, ⟨q0, q1, q2, q3⟩, rfl⟩
  have hd := vd_c c q1 q2
  have hl := map_len yA c
  have hla := map_len iA acc
  rw [show n - i = (n - (i + 1)) + 1 by omega] at q3
  rcases vdF_ok c q1 with h | ⟨h1, h2, h3, h4, h5⟩
  ·rw [nbG_no (by rw [h]; decide), hok] at q3
   cases q3
  ·rw [nbG_go h1] at q3
   rw [h1] at hd
   have hbd : BY (c.drop (vdF c).2.1.toNat) := fun y hy => q1 y (List.mem_of_mem_drop hy)
   have hcd : (c.drop (vdF c).2.1.toNat).length ≤ 100000 := by rw [List.length_drop]; omega
   clear h1
   generalize (vdF c).1 = v at *
   generalize (vdF c).2.1 = k at *
   (have zc1 := hd; refine WW ?_; clear zc1)
   refine ⟨acc ++ [v], c.drop k.toNat, ⟨by simp [q0], hbd, hcd, q3⟩, ?_⟩
   rw [List.map_append]
   rfl
 ·rintro st ⟨acc, c, ⟨q0, q1, q2, q3⟩, rfl⟩
  rw [Nat.sub_self, hok] at q3
  have e : (l, r) = (acc ++ [], c) := Option.some.inj q3
  rw [List.append_nil] at e
  cases e
  (refine WW ?_)
  exact fin_own [1001] rfl rfl rfl rfl
def fixF (k : Int) : Nat := if k = 2 ∨ k = 6 then 3 else if k = 4 then 2 else if k = 1 ∨ k = 9 ∨ k = 12 then 0 else 1
def grpF (k : Int) : Nat := if k = 6 then 4 else if k = 7 then 2 else 0
def shA (fx gr : Nat) : AV := .agg [iA 10, iA fx, iA gr, iA (if gr = 0 then 0 else 1), iA (if gr = 0 then 0 else 3), iA 0]
theorem shape12_c (k : Int) (h0 : 1 ≤ k) (h1 : k ≤ 12) : CallSim Tryz.prog 116 [iA k] [] (.tup [shA (fixF k) (grpF k), bA true]) [] := by
 obtain rfl | rfl | rfl | rfl | rfl | rfl | rfl | rfl | rfl | rfl | rfl | rfl : k = 1 ∨ k = 2 ∨ k = 3 ∨ k = 4 ∨ k = 5 ∨ k = 6 ∨ k = 7 ∨ k = 8 ∨ k = 9 ∨ k = 10 ∨ k = 11 ∨ k = 12 := by omega
 all_goals (refine eN Tryz.func116 Tryz.call116 fun F hF => ?_)
 all_goals (refine WW ?_)
 all_goals exact fr0
def dcF (fx gr : Nat) (p : List Int) : Option (List Int) :=
 if 200 < p.length ∨ p.length < 10 then none else match nbF fx (p.drop 10) with
 | none => none
 | some (a, r) => if gr = 0 then (if r = [] then some a else none) else match nbF 1 r with
  | none => none
  | some (c, r2) => if c.getD 0 0 < 1 ∨ 3 < c.getD 0 0 then none else match nbF ((c.getD 0 0).toNat * gr) r2 with
   | none => none
   | some (f, r3) => if r3 = [] then some (a ++ f) else none
def deT (k : Int) (tok : List Int) : Option (List Int) → AV
 | none => .tup [msA ⟨0, [], [], []⟩, iA 6]
 | some a => .tup [msA ⟨k, tok, a, []⟩, iA 0]
theorem decode_c (k : Int) (h0 : 1 ≤ k) (h1 : k ≤ 12) (p : List Int) (hb : BY p) (hn : p.length ≤ 100000) : CallSim Tryz.prog 74 [iA k, slA yA p] [] (deT k (p.take 10) (dcF (fixF k) (grpF k) p)) [] := by
 have hl := map_len yA p
 have c1 := shape12_c k h0 h1
 have hf : fixF k ≤ 3 := by
  unfold fixF
  repeat' split
  all_goals omega
 have hg : grpF k = 0 ∨ (2 ≤ grpF k ∧ grpF k ≤ 4) := by
  unfold grpF
  repeat' split
  all_goals omega
 generalize fixF k = fx at *
 generalize grpF k = gr at *
 unfold shA at c1
 by_cases hlen : 200 < p.length ∨ p.length < 10
 ·rw [show dcF fx gr p = none from if_pos hlen]
  show CallSim Tryz.prog 74 [iA k, slA yA p] [] (.tup [msA ⟨0, [], [], []⟩, iA 6]) []
  by_cases h2 : 200 < p.length
  ·(refine eN Tryz.func74 Tryz.call74 fun F hF => ?_)
   (have zc1 := c1; refine WW ?_; clear zc1)
   exact fr0
  ·have h3 := hlen.resolve_left h2
   (refine eN Tryz.func74 Tryz.call74 fun F hF => ?_)
   (have zc1 := c1; refine WW ?_; clear zc1)
   exact fr0
 have e0 : dcF fx gr p = _ := if_neg hlen
 rw [e0]
 clear e0
 have hbd : BY (p.drop 10) := fun y hy => hb y (List.mem_of_mem_drop hy)
 have hdl : (p.drop 10).length ≤ 100000 := by rw [List.length_drop]; omega
 have c2 := numbers_c (p.drop 10) fx hbd hdl (by omega)
 cases hnb : nbF fx (p.drop 10) with
 | none =>
  rw [hnb] at c2
  show CallSim Tryz.prog 74 [iA k, slA yA p] [] (.tup [msA ⟨0, [], [], []⟩, iA 6]) []
  unfold nbT at c2
  (refine eN Tryz.func74 Tryz.call74 fun F hF => ?_)
  (have zc1 := c1; have zc2 := c2; refine WW ?_; clear zc1 zc2)
  exact fr0
 | some q =>
 obtain ⟨a, r⟩ := q
 obtain ⟨ha, hbr, har, hsp⟩ := nbF_ok _ _ _ _ hbd hnb
 have hrl : r.length ≤ 100000 := by
  have := congrArg List.length hsp
  rw [List.length_append] at this
  omega
 have hlr := map_len yA r
 have hla := map_len iA a
 have k1 := cloneY_c (p.take 10) (by rw [List.length_take]; omega)
 rcases hg with rfl | ⟨g2, g4⟩
 ·rw [hnb] at c2
  unfold nbT at c2
  dsimp only
  rw [if_pos rfl]
  by_cases hr : r = []
  ·subst hr
   have k2 := cloneY_c [] (by simp)
   rw [if_pos rfl]
   show CallSim Tryz.prog 74 [iA k, slA yA p] [] (.tup [msA ⟨k, p.take 10, a, []⟩, iA 0]) []
   (refine eN Tryz.func74 Tryz.call74 fun F hF => ?_)
   (have zc1 := c1; have zc2 := c2; have zc3 := k1; have zc4 := k2; refine WW ?_; clear zc1 zc2 zc3 zc4)
   exact fr0
  ·have hr0 : r.length ≠ 0 := fun h => hr (List.eq_nil_of_length_eq_zero h)
   rw [if_neg hr]
   show CallSim Tryz.prog 74 [iA k, slA yA p] [] (.tup [msA ⟨0, [], [], []⟩, iA 6]) []
   (refine eN Tryz.func74 Tryz.call74 fun F hF => ?_)
   (have zc1 := c1; have zc2 := c2; refine WW ?_; clear zc1 zc2)
   exact fr0
 have c2o := numbers_own (p.drop 10) fx a r hbd hdl (by omega) hnb
 have c3 := numbers_c r 1 hbr hrl (by omega)
 clear c2
 dsimp only
 rw [if_neg (by omega)]
 cases hnc : nbF 1 r with
 | none =>
  rw [hnc] at c3
  unfold nbT at c3
  show CallSim Tryz.prog 74 [iA k, slA yA p] [] (.tup [msA ⟨0, [], [], []⟩, iA 6]) []
  (refine eN Tryz.func74 Tryz.call74 fun F hF => ?_)
  (have zc1 := c1; have zc2 := c2o; have zc3 := c3; refine WW ?_; clear zc1 zc2 zc3)
  exact fr0
 | some q2 =>
 obtain ⟨c, r2⟩ := q2
 obtain ⟨hc1, hbr2, hcr, hsp2⟩ := nbF_ok _ _ _ _ hbr hnc
 obtain ⟨v, rfl⟩ : ∃ v, c = [v] := by
  cases c with
  | nil => cases hc1
  | cons v c => cases c with
   | nil => exact ⟨v, rfl⟩
   | cons w c => simp at hc1
 have hrl2 : r2.length ≤ 100000 := by
  have := congrArg List.length hsp2
  rw [List.length_append] at this
  omega
 rw [hnc] at c3
 unfold nbT at c3
 dsimp only
 rw [show [v].getD 0 0 = v from rfl]
 by_cases hv : v < 1 ∨ 3 < v
 ·rw [if_pos hv]
  show CallSim Tryz.prog 74 [iA k, slA yA p] [] (.tup [msA ⟨0, [], [], []⟩, iA 6]) []
  by_cases hv1 : v < 1
  ·(refine eN Tryz.func74 Tryz.call74 fun F hF => ?_)
   (have zc1 := c1; have zc2 := c2o; have zc3 := c3; refine WW ?_; clear zc1 zc2 zc3)
   exact fr0
  ·have hv2 := hv.resolve_left hv1
   (refine eN Tryz.func74 Tryz.call74 fun F hF => ?_)
   (have zc1 := c1; have zc2 := c2o; have zc3 := c3; refine WW ?_; clear zc1 zc2 zc3)
   exact fr0
 rw [if_neg hv]
 have hvg : v.toNat * gr ≤ 12 := Nat.le_trans (Nat.mul_le_mul (show v.toNat ≤ 3 by omega) g4) (by decide)
 have evg : ((v.toNat * gr : Nat) : Int) = v * (gr : Int) := by rw [Int.natCast_mul, Int.toNat_of_nonneg (by omega)]
 have c4 := numbers_c r2 (v.toNat * gr) hbr2 hrl2 (by omega)
 rw [evg] at c4
 have hm : 0 ≤ v * (gr : Int) ∧ v * (gr : Int) ≤ 12 := by rw [← evg]; omega
 clear evg
 cases hnd : nbF (v.toNat * gr) r2 with
 | none =>
  rw [hnd] at c4
  unfold nbT at c4
  show CallSim Tryz.prog 74 [iA k, slA yA p] [] (.tup [msA ⟨0, [], [], []⟩, iA 6]) []
  (refine eN Tryz.func74 Tryz.call74 fun F hF => ?_)
  (have zc1 := c1; have zc2 := c2o; have zc3 := c3; have zc4 := c4; refine WW ?_; clear zc1 zc2 zc3 zc4)
  exact fr0
 | some q3 =>
 obtain ⟨f, r3⟩ := q3
 obtain ⟨hfl, hbr3, hfr, hsp3⟩ := nbF_ok _ _ _ _ hbr2 hnd
 have hlf := map_len iA f
 have hlr3 := map_len yA r3
 rw [hnd] at c4
 unfold nbT at c4
 dsimp only
 by_cases hr : r3 = []
 ·subst hr
  have k2 := cloneY_c [] (by simp)
  rw [if_pos rfl]
  show CallSim Tryz.prog 74 [iA k, slA yA p] [] (.tup [msA ⟨k, p.take 10, a ++ f, []⟩, iA 0]) []
  (refine eN Tryz.func74 Tryz.call74 fun F hF => ?_)
  (have zc1 := c1; have zc2 := c2o; have zc3 := c3; have zc4 := c4; have zc5 := k1; have zc6 := k2; refine WW ?_; clear zc1 zc2 zc3 zc4 zc5 zc6)
  refine fin_ret [] rfl rfl ?_ rfl
  show AV.tup [.agg [iA k, slA yA (p.take 10), .sl false ((a.map iA ++ f.map iA).take (a.map iA ++ f.map iA).length), slA yA []], iA 0] = _
  rw [List.take_length, ← List.map_append]
  rfl
 ·have hr0 : r3.length ≠ 0 := fun h => hr (List.eq_nil_of_length_eq_zero h)
  rw [if_neg hr]
  show CallSim Tryz.prog 74 [iA k, slA yA p] [] (.tup [msA ⟨0, [], [], []⟩, iA 6]) []
  (refine eN Tryz.func74 Tryz.call74 fun F hF => ?_)
  (have zc1 := c1; have zc2 := c2o; have zc3 := c3; have zc4 := c4; refine WW ?_; clear zc1 zc2 zc3 zc4)
  exact fr0
end
section
set_option maxRecDepth 4000
set_option maxHeartbeats 2000000
def sh2A (fx gr : Nat) : AV := .agg [iA fx, iA gr, iA (if gr = 0 then 0 else 1), iA (if gr = 0 then 0 else 3), iA 0]
theorem of12_c (k : Int) (h0 : 1 ≤ k) (h1 : k ≤ 12) : CallSim Tryz.prog 56 [iA k] [] (sh2A (fixF k) (grpF k)) [] := by
 obtain rfl | rfl | rfl | rfl | rfl | rfl | rfl | rfl | rfl | rfl | rfl | rfl : k = 1 ∨ k = 2 ∨ k = 3 ∨ k = 4 ∨ k = 5 ∨ k = 6 ∨ k = 7 ∨ k = 8 ∨ k = 9 ∨ k = 10 ∨ k = 11 ∨ k = 12 := by omega
 all_goals (refine eN Tryz.func56 Tryz.call56 fun F hF => ?_)
 all_goals (refine WW ?_)
 all_goals exact fr0
def pcF (fx gr : Nat) (c : Int) : Nat → List Int → List Int
 | _, [] => []
 | i, x :: r => (if i = fx ∧ gr ≠ 0 then [c] else []) ++ (enF x ++ pcF fx gr c (i + 1) r)
def plF2 (fx gr : Nat) (c : Int) (m : Ms) : List Int := (m.tok ++ pcF fx gr c 0 m.args) ++ ((if gr ≠ 0 ∧ m.args.length = fx then [0] else []) ++ m.data)
theorem enR_len : ∀ (f : Nat) (n : Int), 1 ≤ (enR f n).length ∧ (enR f n).length ≤ f + 1
 | 0, n => by simp [enR]
 | f + 1, n => by
  have := enR_len f (n / 128)
  rw [enR]
  split
  ·simp
  ·rw [List.length_cons]; omega
theorem enF_len (n : Int) : 1 ≤ (enF n).length ∧ (enF n).length ≤ 5 := enR_len 4 n
theorem payload_c (k : Int) (h0 : 1 ≤ k) (h1 : k ≤ 12) (m : Ms) (c : Nat) (hk : m.kind = k) (ht : m.tok.length = 10) (hd : m.data.length ≤ 100000) (ha : ∀ x ∈ m.args, 0 ≤ x ∧ x ≤ 4294967295) (hn : m.args.length ≤ 1000) (hc : grpF k ≠ 0 → m.args.length = fixF k + c * grpF k) (hc3 : c ≤ 3) :
  CallSim Tryz.prog 59 [msA m] [] (slA yA (plF2 (fixF k) (grpF k) c m)) [] := by
 subst hk
 have c1 := of12_c m.kind h0 h1
 have hg : grpF m.kind ≤ 4 := by
  unfold grpF
  repeat' split
  all_goals omega
 generalize fixF m.kind = fx at *
 generalize grpF m.kind = gr at *
 unfold sh2A at c1
 have hlt := map_len yA m.tok
 have hla := map_len iA m.args
 have hld := map_len yA m.data
 unfold plF2
 generalize hT : m.tok ++ pcF fx gr c 0 m.args = tot
 (refine eN Tryz.func59 Tryz.call59 fun F hF => ?_)
 (have zc1 := c1; (repeat' (first | refine WZ ?_ | refine SG (I2 (fun hc => ?_) (fun hc => ?_)) | refine SG (fun hc => ?_) | (refine is_ops ?_; refine is_call ?_; refine SC ?_) | (refine is_ops ?_; first | (refine is_app ?_; refine x_appnilK 1001 tok rfl rfl rfl rfl rfl rfl (map_hd _ _ (fun _ => rfl)) rfl rfl rfl (by omega) rfl rfl rfl ?_)) | first | refine SR ?_ | refine SK (I2 (fun hc => ?_) (fun hc => ?_)) | refine SK (fun hc => ?_) | fail)) <;> clear zc1)
 refine sim_stale 1001 rfl ?_
 (refine sim_rngP (m.args) [1001, 1, 3] [1, 3] [1, 3, 16, 17] [4, 18, 1, 3, 16, 17] rfl (fun i pre T U zs => ∃ acc : List Int, (acc.length ≤ 10 + 6 * i ∧ ∀ post, m.args = pre ++ post → acc ++ pcF fx gr c i post = tot) ∧ zs = ⟨(4, .ref 1001 0 (acc.map yA).length) :: (18, iA i) :: T, (1001, .arr 1 (acc.map yA) true) :: U⟩) ?_; (conv => whnf); refine ⟨?_, ?_, ?_⟩)
 ·exact ⟨m.tok, ⟨by omega, fun post h => by rw [← hT, h]; rfl⟩, rfl⟩
 ·rintro i pre x post st hx hi ⟨acc, ⟨q0, q1⟩, rfl⟩
  have hy := rng_at iA hx hi
  have hlt2 := rng_lt hx hi
  have hxr := ha x (rng_mem hx)
  have hla2 := map_len yA acc
  have he := enF_len x
  have c2 := en2_c x hxr.1 hxr.2
  have hle := map_len yA (enF x)
  have hpost : ∀ p, m.args = pre ++ [x] ++ p → p = post := fun p h => by
   rw [hx, List.append_assoc] at h
   simpa using h.symm
  have hT3 := q1 _ hx
  clear q1 hT hx
  by_cases hi2 : i = fx ∧ gr ≠ 0
  ·obtain ⟨rfl, hg0⟩ := hi2
   have hcl := hc hg0
   have hq : (((m.args.map iA).length : Int) - (i : Int)).tdiv (gr : Int) = (c : Int) := by
    rw [hla, hcl, show (((i + c * gr : Nat) : Int) - (i : Int)) = (c : Int) * (gr : Int) by rw [Int.natCast_add, Int.natCast_mul]; omega]
    exact Int.mul_tdiv_cancel _ (by omega)
   have hir : InR .i64 ((((m.args.map iA).length : Int) - (i : Int)).tdiv (gr : Int)) := by rw [hq]; exact ⟨by omega, by omega⟩
   have e : pcF i gr c i (x :: post) = [(c : Int)] ++ (enF x ++ pcF i gr c (i + 1) post) := by rw [pcF, if_pos ⟨rfl, hg0⟩]
   rw [e] at hT3
   clear e hcl hc
   generalize enF x = ex at *
   (have zc1 := c1; have zc2 := c2; refine WW ?_; clear zc1 zc2)
   refine ⟨acc ++ [(c : Int)] ++ ex, ⟨by simp; omega, fun p h => by rw [hpost p h, ← hT3]; simp⟩, ?_⟩
   rw [List.map_append, List.map_append, ← hq]
   rfl
  ·have e : pcF fx gr c i (x :: post) = enF x ++ pcF fx gr c (i + 1) post := by rw [pcF, if_neg hi2]; rfl
   rw [e] at hT3
   clear e hc
   generalize enF x = ex at *
   by_cases hif : i = fx
   ·have hg0 : gr = 0 := by
     by_cases h : gr = 0
     ·exact h
     ·exact absurd ⟨hif, h⟩ hi2
    (have zc1 := c1; have zc2 := c2; refine WW ?_; clear zc1 zc2)
    refine ⟨acc ++ ex, ⟨by simp; omega, fun p h => by rw [hpost p h, ← hT3]; simp⟩, ?_⟩
    rw [List.map_append]
    rfl
   ·(have zc1 := c1; have zc2 := c2; refine WW ?_; clear zc1 zc2)
    refine ⟨acc ++ ex, ⟨by simp; omega, fun p h => by rw [hpost p h, ← hT3]; simp⟩, ?_⟩
    rw [List.map_append]
    rfl
 ·rintro st ⟨acc, ⟨q0, q1⟩, rfl⟩
  have e := q1 [] (by simp)
  rw [show pcF fx gr c m.args.length [] = [] from rfl, List.append_nil] at e
  subst e
  have hla2 := map_len yA acc
  clear q1 hT hc
  by_cases hz : gr ≠ 0 ∧ m.args.length = fx
  ·rw [if_pos hz]
   obtain ⟨hz1, hz2⟩ := hz
   (refine WW ?_)
   refine fin_ret [] rfl rfl ?_ rfl
   show AV.sl false ((acc.map yA ++ [yA 0] ++ m.data.map yA).take (acc.map yA ++ [yA 0] ++ m.data.map yA).length) = _
   rw [List.take_length]
   unfold slA
   rw [List.map_append, List.map_append, List.append_assoc]
   rfl
  ·rw [if_neg hz]
   by_cases hz1 : gr = 0
   ·(refine WW ?_)
    refine fin_ret [] rfl rfl ?_ rfl
    show AV.sl false ((acc.map yA ++ m.data.map yA).take (acc.map yA ++ m.data.map yA).length) = _
    rw [List.take_length]
    unfold slA
    rw [List.map_append]
    rfl
   ·have hz2 : m.args.length ≠ fx := fun h => hz ⟨hz1, h⟩
    (refine WW ?_)
    refine fin_ret [] rfl rfl ?_ rfl
    show AV.sl false ((acc.map yA ++ m.data.map yA).take (acc.map yA ++ m.data.map yA).length) = _
    rw [List.take_length]
    unfold slA
    rw [List.map_append]
    rfl
end
section
set_option maxRecDepth 4000
set_option maxHeartbeats 1000000
def prA (p : Int × Int) : AV := .agg [iA p.1, iA p.2]
def shapesF (n : Int) : List (Int × Int) := if n = 0 then [(0, 0), (0, 0)] else if n = 1 then [(0, 0), (1, 0), (0, 1), (1, 1)] else if n = 2 then [(0, 0), (1, 0), (0, 0)]
 else if n = 3 then [(0, 0), (0, 0), (1, 0), (1, 0), (0, 1), (0, 1), (1, 1), (1, 1)] else if n = 4 then [(1, 0), (0, 1), (0, 2)] else [(0, 0)]
theorem shapes_c (n : Int) : CallSim Tryz.prog 101 [iA n] [] (slA prA (shapesF n)) [] := by
 by_cases h0 : n = 0
 ·subst h0
  (refine eN Tryz.func101 Tryz.call101 fun F hF => ?_)
  (repeat' (first | refine WZ ?_ | refine SG0 (I2 (fun hc => ?_) (fun hc => ?_)) | refine SR ?_ | refine SK0 (I2 (fun hc => ?_) (fun hc => ?_)) | fail))
  exact fr0
 by_cases h1 : n = 1
 ·subst h1
  (refine eN Tryz.func101 Tryz.call101 fun F hF => ?_)
  (repeat' (first | refine WZ ?_ | refine SG0 (I2 (fun hc => ?_) (fun hc => ?_)) | refine SR ?_ | refine SK0 (I2 (fun hc => ?_) (fun hc => ?_)) | fail))
  exact fr0
 by_cases h2 : n = 2
 ·subst h2
  (refine eN Tryz.func101 Tryz.call101 fun F hF => ?_)
  (repeat' (first | refine WZ ?_ | refine SG0 (I2 (fun hc => ?_) (fun hc => ?_)) | refine SR ?_ | refine SK0 (I2 (fun hc => ?_) (fun hc => ?_)) | fail))
  exact fr0
 by_cases h3 : n = 3
 ·subst h3
  (refine eN Tryz.func101 Tryz.call101 fun F hF => ?_)
  (repeat' (first | refine WZ ?_ | refine SG0 (I2 (fun hc => ?_) (fun hc => ?_)) | refine SR ?_ | refine SK0 (I2 (fun hc => ?_) (fun hc => ?_)) | fail))
  exact fr0
 by_cases h4 : n = 4
 ·subst h4
  (refine eN Tryz.func101 Tryz.call101 fun F hF => ?_)
  (repeat' (first | refine WZ ?_ | refine SG0 (I2 (fun hc => ?_) (fun hc => ?_)) | refine SR ?_ | refine SK0 (I2 (fun hc => ?_) (fun hc => ?_)) | fail))
  exact fr0
 rw [show shapesF n = [(0, 0)] by simp [shapesF, h0, h1, h2, h3, h4]]
 (refine eN Tryz.func101 Tryz.call101 fun F hF => ?_)
 (repeat' (first | refine WZ ?_ | refine SG0 (I2 (fun hc => ?_) (fun hc => ?_)) | refine SR ?_ | refine SK0 (I2 (fun hc => ?_) (fun hc => ?_)) | fail))
 exact fr0
end
end Av
end Go.Proofs.YtaikgchmpieooaaGreat
