/- Part 25: contracts of the functions, and what they rest upon. -/
import Derived.Test.YtaikgchmpieooaaGreatP24
import Derived.Test.YtaikgchmpieooaaGreatP22
import Derived.Test.YtaikgchmpieooaaGreatP20
namespace Go.Proofs.YtaikgchmpieooaaGreat
namespace Av
set_option linter.unusedSimpArgs false
set_option linter.unusedVariables false
section
set_option maxRecDepth 4000
set_option maxHeartbeats 2000000
def lgsF : List Lg → List Lg → Bool
 | _, [] => true
 | pre, x :: post => lvB x && (!(pre.any fun y => y.jn == x.jn) && lgsF (pre ++ [x]) post)
def vgF (l : List Lg) : Bool := decide (1 ≤ (l.length : Int) ∧ (l.length : Int) ≤ 3) && lgsF [] l
theorem lgsF_no {pre post : List Lg} {x : Lg} (h : lvB x = false) : lgsF pre (x :: post) = false := by simp [lgsF, h]
theorem lgsF_tw {pre post : List Lg} {x y : Lg} (hy : y ∈ pre) (h : y.jn = x.jn) : lgsF pre (x :: post) = false := by
 have : (pre.any fun y => y.jn == x.jn) = true := List.any_eq_true.2 ⟨y, hy, by simpa using h⟩
 simp [lgsF, this]
theorem lgsF_next {pre post : List Lg} {x : Lg} (h : lvB x = true) (hn : ∀ y ∈ pre, y.jn ≠ x.jn) : lgsF pre (x :: post) = lgsF (pre ++ [x]) post := by
 have : (pre.any fun y => y.jn == x.jn) = false := by simpa using hn
 simp [lgsF, h, this]
theorem vlegs_c (l : List Lg) : CallSim Tryz.prog 197 [slA lgA l] [] (bA (vgF l)) [] := by
 have hl := map_len lgA l
 unfold vgF
 by_cases h3 : 1 ≤ (l.length : Int) ∧ (l.length : Int) ≤ 3
 case neg =>
  rw [decide_eq_false h3, Bool.false_and]
  by_cases h1 : 1 ≤ (l.length : Int)
  ·(refine eN Tryz.func197 Tryz.call197 fun F hF => ?_)
   (refine WW ?_)
   exact fr0
  ·(refine eN Tryz.func197 Tryz.call197 fun F hF => ?_)
   (refine WW ?_)
   exact fr0
 rw [decide_eq_true h3, Bool.true_and]
 obtain ⟨h1, h3⟩ := h3
 (refine eN Tryz.func197 Tryz.call197 fun F hF => ?_)
 (refine WW ?_)
 (refine sim_rngP (l) [] [] [0, 15, 16] [17, 0, 15, 16] rfl (fun i pre T U zs => (∀ post, l = pre ++ post → lgsF [] l = lgsF pre post) ∧ zs = ⟨(17, iA i) :: T, U⟩) ?_; (conv => whnf); refine ⟨?_, ?_, ?_⟩)
 ·exact ⟨fun post h => by rw [h]; rfl, rfl⟩
 ·rintro i pre x post st hx hi ⟨hp, rfl⟩
  have hy := rng_at lgA hx hi
  have hlt := rng_lt hx hi
  rw [hp _ hx]
  have cv := wvalid_c x
  have hnext : lvB x = true → (∀ y ∈ pre, y.jn ≠ x.jn) → ∀ p, l = (pre ++ [x]) ++ p → lgsF pre (x :: post) = lgsF (pre ++ [x]) p := fun a b p h => by
   have e : p = post := by rw [hx, List.append_assoc] at h; simpa using h.symm
   rw [e]
   exact lgsF_next a b
  cases hv : lvB x with
  | false =>
   rw [lgsF_no hv]
   rw [hv] at cv
   clear hx hp hnext
   (have zc1 := cv; refine WW ?_; clear zc1)
   exact fr0
  | true =>
   rw [hv] at cv
   have ht : l.take i = pre := by rw [hx, ← hi]; simp
   have hl2 : (List.map lgA (List.take (i : Int).toNat l)).length = (l.take i).length := map_len lgA (l.take i)
   have hl3 : (l.take i).length = i := by rw [ht]; exact hi
   (have zc1 := cv; refine WW ?_; clear zc1)
   (refine sim_rngP (l.take i) [4] [4] [0, 4, 15, 16, 17, 27, 28] [29, 0, 4, 15, 16, 17, 27, 28] rfl (fun i pre T U zs => (∀ y ∈ pre, y.jn ≠ x.jn) ∧ zs = ⟨(29, iA i) :: T, U⟩) ?_; (conv => whnf); refine ⟨?_, ?_, ?_⟩)
   ·exact ⟨by simp, rfl⟩
   ·rintro k pr y po st2 hq hk ⟨hp2, rfl⟩
    have hy2 := rng_at lgA hq hk
    have hlt2 := rng_lt hq hk
    by_cases he : y.jn = x.jn
    ·rw [lgsF_tw (by rw [← ht, hq]; simp) he]
     clear hq hx hp hnext
     (refine WW ?_)
     exact fr0
    ·have hp3 : ∀ z ∈ pr ++ [y], z.jn ≠ x.jn := fun z hz => by
      simp only [List.mem_append, List.mem_singleton] at hz
      rcases hz with hz | rfl
      ·exact hp2 z hz
      ·exact he
     clear hq hx hp hnext
     (refine WW ?_)
     exact ⟨hp3, rfl⟩
   ·rintro st2 ⟨hp2, rfl⟩
    have hnx := hnext hv (by rw [← ht]; exact hp2)
    clear hx hp hnext
    (refine WW ?_)
    exact ⟨hnx, rfl⟩
 ·rintro st ⟨hp, rfl⟩
  rw [hp [] (by simp)]
  (refine WW ?_)
  exact fr0
theorem within19_c (n a b : Int) : CallSim Tryz.prog 176 [iA n, iA a, iA b] [] (bA (decide (a ≤ n ∧ n ≤ b))) [] := by
 cases hb : decide (a ≤ n ∧ n ≤ b) with
 | false =>
  rw [decide_eq_false_iff_not] at hb
  (refine eN Tryz.func176 Tryz.call176 fun F hF => ?_)
  (refine WW (I2 (fun hc => ?_) (fun hc => ?_)))
  all_goals (first | exact fr0 | (exfalso; omega) | (apply fin_bool; (exact fr0); simp only [cmpB, decide_eq_false_iff_not, decide_eq_true_eq, beq_eq_false_iff_ne, bne_eq_false_iff_eq, beq_iff_eq, bne_iff_ne, ne_eq]; omega))
 | true =>
  rw [decide_eq_true_eq] at hb
  (refine eN Tryz.func176 Tryz.call176 fun F hF => ?_)
  (refine WW ?_)
  all_goals (first | exact fr0 | (exfalso; omega) | (apply fin_bool; (exact fr0); simp only [cmpB, decide_eq_false_iff_not, decide_eq_true_eq, beq_eq_false_iff_ne, bne_eq_false_iff_eq, beq_iff_eq, bne_iff_ne, ne_eq]; omega))
theorem legs2_c (l : List Lg) (hn : l.length ≤ 1000000) : CallSim Tryz.prog 177 [slA lgA l] [] (bA (vgF l)) [] := by
 have hl := map_len lgA l
 have cw := within19_c ((l.map lgA).length : Int) 1 3
 have e : decide (1 ≤ ((l.map lgA).length : Int) ∧ ((l.map lgA).length : Int) ≤ 3) = decide (1 ≤ (l.length : Int) ∧ (l.length : Int) ≤ 3) := by rw [hl]
 rw [e] at cw
 clear e
 unfold vgF
 (refine eN Tryz.func177 Tryz.call177 fun F hF => ?_)
 (refine WW ?_)
 (refine sim_rngP (l) [] [] [0, 7, 8] [9, 0, 7, 8] rfl (fun i pre T U zs => (∀ post, l = pre ++ post → lgsF [] l = lgsF pre post) ∧ zs = ⟨(9, iA i) :: T, U⟩) ?_; (conv => whnf); refine ⟨?_, ?_, ?_⟩)
 ·exact ⟨fun post h => by rw [h]; rfl, rfl⟩
 ·rintro i pre x post st hx hi ⟨hp, rfl⟩
  have hy := rng_at lgA hx hi
  have hlt := rng_lt hx hi
  rw [hp _ hx]
  have cv := wvalid2_c x
  have hnext : lvB x = true → (∀ y ∈ pre, y.jn ≠ x.jn) → ∀ p, l = (pre ++ [x]) ++ p → lgsF pre (x :: post) = lgsF (pre ++ [x]) p := fun a b p h => by
   have e : p = post := by rw [hx, List.append_assoc] at h; simpa using h.symm
   rw [e]
   exact lgsF_next a b
  cases hv : lvB x with
  | false =>
   rw [lgsF_no hv, Bool.and_false]
   rw [hv] at cv
   clear hx hp hnext
   (have zc1 := cv; refine WW ?_; clear zc1)
   exact fr0
  | true =>
   rw [hv] at cv
   have ht : l.take i = pre := by rw [hx, ← hi]; simp
   have hl2 : (List.map lgA (List.take (i : Int).toNat l)).length = (l.take i).length := map_len lgA (l.take i)
   have hl3 : (l.take i).length = i := by rw [ht]; exact hi
   (have zc1 := cv; refine WW ?_; clear zc1)
   (refine sim_rngP (l.take i) [4] [4] [0, 4, 7, 8, 9, 19, 20] [21, 0, 4, 7, 8, 9, 19, 20] rfl (fun i pre T U zs => (∀ y ∈ pre, y.jn ≠ x.jn) ∧ zs = ⟨(21, iA i) :: T, U⟩) ?_; (conv => whnf); refine ⟨?_, ?_, ?_⟩)
   ·exact ⟨by simp, rfl⟩
   ·rintro k pr y po st2 hq hk ⟨hp2, rfl⟩
    have hy2 := rng_at lgA hq hk
    have hlt2 := rng_lt hq hk
    by_cases he : y.jn = x.jn
    ·rw [lgsF_tw (by rw [← ht, hq]; simp) he, Bool.and_false]
     clear hq hx hp hnext
     (refine WW ?_)
     exact fr0
    ·have hp3 : ∀ z ∈ pr ++ [y], z.jn ≠ x.jn := fun z hz => by
      simp only [List.mem_append, List.mem_singleton] at hz
      rcases hz with hz | rfl
      ·exact hp2 z hz
      ·exact he
     clear hq hx hp hnext
     (refine WW ?_)
     exact ⟨hp3, rfl⟩
   ·rintro st2 ⟨hp2, rfl⟩
    have hnx := hnext hv (by rw [← ht]; exact hp2)
    clear hx hp hnext
    (refine WW ?_)
    exact ⟨hnx, rfl⟩
 ·rintro st ⟨hp, rfl⟩
  rw [hp [] (by simp), show lgsF l [] = true from rfl, Bool.and_true]
  generalize decide (1 ≤ (l.length : Int) ∧ (l.length : Int) ≤ 3) = b at *
  (have zc1 := cw; refine WW ?_; clear zc1)
  exact fr0
end
section
set_option maxRecDepth 4000
set_option maxHeartbeats 2000000
structure RqO (r : Rq) : Prop where
 i0 : 0 ≤ r.id
 i1 : r.id ≤ 4294967295
 v0 : 0 ≤ r.vh
 v1 : r.vh ≤ 4294967295
 c0 : 0 ≤ r.cls
 c1 : r.cls ≤ 3
 t0 : 0 ≤ r.til
 t1 : r.til ≤ 2147483648
 lg : vgF r.legs = true
structure RqV (l : List Rq) : Prop where
 ok : ∀ r ∈ l, RqO r
 so : l.Pairwise fun a b => a.id < b.id
 n4 : l.length ≤ 4
theorem RqV.lt {l : List Rq} (h : RqV l) {i : Nat} (h0 : 0 < i) (hi : i < l.length) : (l.getD (i - 1) default).id < (l.getD i default).id := by
 have := List.pairwise_iff_getElem.1 h.so (i - 1) i (by omega) hi (by omega)
 simpa [List.getD, hi, show i - 1 < l.length by omega] using this
theorem vgF_len {l : List Lg} (h : vgF l = true) : 1 ≤ (l.length : Int) ∧ (l.length : Int) ≤ 3 := by
 unfold vgF at h
 rw [Bool.and_eq_true] at h
 exact of_decide_eq_true h.1
theorem rnum_c (n : Int) : CallSim Tryz.prog 195 [iA n] [] (bA (decide (0 ≤ n ∧ n ≤ 4294967295))) [] := by
 cases hb : decide (0 ≤ n ∧ n ≤ 4294967295) with
 | false => (rw [decide_eq_false_iff_not] at hb; (refine eN Tryz.func195 Tryz.call195 fun F hF => ?_); ((refine WW (I2 (fun hc => ?_) (fun hc => ?_)))); all_goals (first | exact fr0 | (exfalso; omega) | (apply fin_bool; (exact fr0); simp only [cmpB, decide_eq_false_iff_not, decide_eq_true_eq, beq_eq_false_iff_ne, bne_eq_false_iff_eq, beq_iff_eq, bne_iff_ne, ne_eq]; omega)))
 | true => (rw [decide_eq_true_eq] at hb; (refine eN Tryz.func195 Tryz.call195 fun F hF => ?_); ((refine WW ?_)); all_goals (first | exact fr0 | (exfalso; omega) | (apply fin_bool; (exact fr0); simp only [cmpB, decide_eq_false_iff_not, decide_eq_true_eq, beq_eq_false_iff_ne, bne_eq_false_iff_eq, beq_iff_eq, bne_iff_ne, ne_eq]; omega)))
theorem rcls_c (n : Int) : CallSim Tryz.prog 196 [iA n] [] (bA (decide (0 ≤ n ∧ n ≤ 3))) [] := by
 cases hb : decide (0 ≤ n ∧ n ≤ 3) with
 | false => (rw [decide_eq_false_iff_not] at hb; (refine eN Tryz.func196 Tryz.call196 fun F hF => ?_); ((refine WW (I2 (fun hc => ?_) (fun hc => ?_)))); all_goals (first | exact fr0 | (exfalso; omega) | (apply fin_bool; (exact fr0); simp only [cmpB, decide_eq_false_iff_not, decide_eq_true_eq, beq_eq_false_iff_ne, bne_eq_false_iff_eq, beq_iff_eq, bne_iff_ne, ne_eq]; omega)))
 | true => (rw [decide_eq_true_eq] at hb; (refine eN Tryz.func196 Tryz.call196 fun F hF => ?_); ((refine WW ?_)); all_goals (first | exact fr0 | (exfalso; omega) | (apply fin_bool; (exact fr0); simp only [cmpB, decide_eq_false_iff_not, decide_eq_true_eq, beq_eq_false_iff_ne, bne_eq_false_iff_eq, beq_iff_eq, bne_iff_ne, ne_eq]; omega)))
theorem rtick_c (n : Int) : CallSim Tryz.prog 164 [iA n] [] (bA (decide (0 ≤ n ∧ n ≤ 1073741824))) [] := by
 cases hb : decide (0 ≤ n ∧ n ≤ 1073741824) with
 | false => (rw [decide_eq_false_iff_not] at hb; (refine eN Tryz.func164 Tryz.call164 fun F hF => ?_); ((refine WW (I2 (fun hc => ?_) (fun hc => ?_)))); all_goals (first | exact fr0 | (exfalso; omega) | (apply fin_bool; (exact fr0); simp only [cmpB, decide_eq_false_iff_not, decide_eq_true_eq, beq_eq_false_iff_ne, bne_eq_false_iff_eq, beq_iff_eq, bne_iff_ne, ne_eq]; omega)))
 | true => (rw [decide_eq_true_eq] at hb; (refine eN Tryz.func164 Tryz.call164 fun F hF => ?_); ((refine WW ?_)); all_goals (first | exact fr0 | (exfalso; omega) | (apply fin_bool; (exact fr0); simp only [cmpB, decide_eq_false_iff_not, decide_eq_true_eq, beq_eq_false_iff_ne, bne_eq_false_iff_eq, beq_iff_eq, bne_iff_ne, ne_eq]; omega)))
theorem qvalid_c (l : List Rq) (q : Int) (hv : RqV l) (hq : (l.length : Int) ≤ q) : CallSim Tryz.prog 163 [slA rqA l, iA q] [] (bA true) [] := by
 have hl := map_len rqA l
 have h4 := hv.n4
 (refine eN Tryz.func163 Tryz.call163 fun F hF => ?_)
 (refine WW ?_)
 (refine sim_cnt (l.length) [] [] [0, 16, 17] [18, 0, 16, 17] rfl (fun i T U => ⟨(18, iA i) :: T, U⟩) ?_; (conv => whnf); refine ⟨by rfl, ?_, ?_⟩)
 ·intro i hi
  have hy := map_at rqA l i hi
  have hm : l.getD i default ∈ l := by simp [List.getD, hi]
  obtain ⟨i0, i1, v0, v1, c0, c1, t0, t1, lg⟩ := hv.ok _ hm
  have k1 := rnum_c (l.getD i default).id
  have k2 := rnum_c (l.getD i default).vh
  have k3 := rcls_c (l.getD i default).cls
  have k4 := vlegs_c (l.getD i default).legs
  rw [decide_eq_true (by omega)] at k1 k2 k3
  rw [lg] at k4
  by_cases hi0 : 0 < i
  ·have hyp := map_atI rqA l ((i : Int) - 1) (by omega) (by omega)
   rw [show ((i : Int) - 1).toNat = i - 1 by omega] at hyp
   have hyq : (l.map rqA)[((i : Int) - 1).toNat]? = some (rqA (l.getD (i - 1) default)) := by rw [show ((i : Int) - 1).toNat = i - 1 by omega]; exact hyp
   have hlt := hv.lt hi0 hi
   clear hyp hm lg
   generalize l.getD i default = t at *
   generalize l.getD (i - 1) default = p at *
   (have zc1 := k1; have zc2 := k2; have zc3 := k3; have zc4 := k4; refine WW ?_; clear zc1 zc2 zc3 zc4)
   rfl
  ·obtain rfl : i = 0 := by omega
   clear hm lg
   generalize l.getD 0 default = t at *
   (have zc1 := k1; have zc2 := k2; have zc3 := k3; have zc4 := k4; refine WW ?_; clear zc1 zc2 zc3 zc4)
   rfl
 ·(refine WW ?_)
  exact fr0
theorem qvalid2_c (l : List Rq) (q : Int) (hv : RqV l) (hq : (l.length : Int) ≤ q) : CallSim Tryz.prog 135 [slA rqA l, iA q] [] (bA true) [] := by
 have hl := map_len rqA l
 have h4 := hv.n4
 (refine eN Tryz.func135 Tryz.call135 fun F hF => ?_)
 (refine WW ?_)
 (refine sim_cnt (l.length) [] [] [0, 1, 7, 8] [9, 0, 1, 7, 8] rfl (fun i T U => ⟨(9, iA i) :: T, U⟩) ?_; (conv => whnf); refine ⟨by rfl, ?_, ?_⟩)
 ·intro i hi
  have hy := map_at rqA l i hi
  have hm : l.getD i default ∈ l := by simp [List.getD, hi]
  obtain ⟨i0, i1, v0, v1, c0, c1, t0, t1, lg⟩ := hv.ok _ hm
  have k1 := within19_c (l.getD i default).id 0 4294967295
  have k2 := within19_c (l.getD i default).vh 0 4294967295
  have k3 := within19_c (l.getD i default).cls 0 3
  have k5 := within19_c (l.getD i default).til 0 2147483648
  have k4 := legs2_c (l.getD i default).legs (by have := vgF_len lg; omega)
  rw [decide_eq_true (by omega)] at k1 k2 k3 k5
  rw [lg] at k4
  by_cases hi0 : 0 < i
  ·have hyp := map_atI rqA l ((i : Int) - 1) (by omega) (by omega)
   rw [show ((i : Int) - 1).toNat = i - 1 by omega] at hyp
   have hyq : (l.map rqA)[((i : Int) - 1).toNat]? = some (rqA (l.getD (i - 1) default)) := by rw [show ((i : Int) - 1).toNat = i - 1 by omega]; exact hyp
   have hlt := hv.lt hi0 hi
   clear hyp hm lg
   generalize l.getD i default = t at *
   generalize l.getD (i - 1) default = p at *
   (have zc1 := k1; have zc2 := k2; have zc3 := k3; have zc4 := k5; have zc5 := k4; refine WW ?_; clear zc1 zc2 zc3 zc4 zc5)
   rfl
  ·obtain rfl : i = 0 := by omega
   clear hm lg
   generalize l.getD 0 default = t at *
   (have zc1 := k1; have zc2 := k2; have zc3 := k3; have zc4 := k5; have zc5 := k4; refine WW ?_; clear zc1 zc2 zc3 zc4 zc5)
   rfl
 ·(refine WW ?_)
  exact fr0
end
section
set_option maxRecDepth 4000
set_option maxHeartbeats 2000000
theorem RqV.lg3 {l : List Rq} (h : RqV l) {r : Rq} (hr : r ∈ l) : 1 ≤ r.legs.length ∧ r.legs.length ≤ 3 := by
 have := vgF_len (h.ok r hr).lg
 omega
theorem RqV.filter {l : List Rq} (h : RqV l) (p : Rq → Bool) : RqV (l.filter p) :=
 ⟨fun r hr => h.ok r (List.mem_filter.1 hr).1, h.so.filter p, Nat.le_trans (List.length_filter_le _ _) h.n4⟩
theorem cloneLg_c (l : List Lg) (hl : l.length ≤ 1000) : CallSim Tryz.prog 82 [slA lgA l] [] (slA lgA l) [] := by
 have hll := map_len lgA l
 (refine eN Tryz.func82 Tryz.call82 fun F hF => ?_)
 refine sim_nsplit 0 rfl (fun cap hx => ?_) ?_
 ·have : l = [] := by simpa using hx
  subst this
  (refine WW ?_)
  exact fr0
 ·(refine WW ?_)
  refine fin_ret [] rfl rfl (wk_take _ _) rfl
theorem qclone_c (r : Rq) (hl : r.legs.length ≤ 1000) : CallSim Tryz.prog 141 [rqA r] [] (rqA r) [] := by
 have c := cloneLg_c r.legs hl
 have hll := map_len lgA r.legs
 (refine eN Tryz.func141 Tryz.call141 fun F hF => ?_)
 (have zc1 := c; refine WW ?_; clear zc1)
 exact fr0
theorem filter_snoc (p : Rq → Bool) (pre : List Rq) (x : Rq) : ((pre ++ [x]).filter p).map rqA = (pre.filter p).map rqA ++ (if p x = true then [x] else []).map rqA := by
 rw [List.filter_append, List.map_append]
 congr 2
 cases h : p x <;> simp [h]
theorem kept_c (fn : Nat) (v : Int) (p : Rq → Bool) (l : List Rq) (hn : l.length ≤ 1000) (hb : ∀ r ∈ l, r.legs.length ≤ 1000) (c : ∀ x, CallSim Tryz.prog fn [rqA x, .ptr 3 0 0] [(3, .box [iA v])] (bA (p x)) [(3, .box [iA v])]) :
  CallSim Tryz.prog 105 [slA rqA l, .fn fn [.ptr 3 0 0]] [(3, .box [iA v])] (slA rqA (l.filter p)) [(3, .box [iA v])] := by
 have hl := map_len rqA l
 (refine eN Tryz.func105 Tryz.call105 fun F hF => ?_)
 (refine WW ?_)
 refine sim_virt 5 1001 5 rfl rfl rfl ?_
 (refine sim_rng (l) [1001, 3] [3] [1, 8, 9] [5, 10, 1, 8, 9] rfl (fun i pre T U => ⟨(5, .ref 1001 0 ((pre.filter p).map rqA).length) :: (10, iA i) :: T, (1001, .arr 5 ((pre.filter p).map rqA) true) :: U⟩) ?_; (conv => whnf); refine ⟨by rfl, ?_, ?_⟩)
 ·intro i pre x post hx hi
  have hy := rng_at rqA hx hi
  have hlt := rng_lt hx hi
  have hle : (pre.filter p).length ≤ i := by rw [← hi]; exact List.length_filter_le _ _
  have hlm := map_len rqA (pre.filter p)
  have c1 := c x
  have c2 := qclone_c x (hb x (rng_mem hx))
  have e := filter_snoc p pre x
  rw [e]
  clear hx e
  generalize (pre.filter p).map rqA = R at *
  cases h : p x with
  | false =>
   rw [h] at c1
   rw [if_neg Bool.false_ne_true]
   (have zc1 := c1; refine WW ?_; clear zc1)
   rw [List.map_nil, List.append_nil]
   rfl
  | true =>
   rw [h] at c1
   rw [if_pos rfl]
   (have zc1 := c1; have zc2 := c2; refine WW ?_; clear zc1 zc2)
   rfl
 ·(refine WW ?_)
  exact fin_own [3] rfl rfl (wk_take _ _) rfl
end
section
set_option maxRecDepth 4000
set_option maxHeartbeats 2000000
def ixF {α : Type} (p : α → Bool) (l : List α) : Int := if l.any p = true then (l.findIdx p : Int) else -1
theorem ixF_hit {α : Type} {p : α → Bool} {l pre post : List α} {x : α} (h : l = pre ++ x :: post) (hn : ∀ y ∈ pre, p y = false) (hx : p x = true) : ixF p l = (pre.length : Int) := by
 subst h
 have h1 : (pre ++ x :: post).any p = true := by simp [hx]
 have h2 : pre.findIdx p = pre.length := List.findIdx_eq_length.2 (fun y hy => by simpa using hn y hy)
 unfold ixF
 rw [if_pos h1, List.findIdx_append, h2, if_neg (by omega), List.findIdx_cons, hx]
 simp
theorem ixF_none {α : Type} {p : α → Bool} {l : List α} (hn : ∀ y ∈ l, p y = false) : ixF p l = -1 := by
 unfold ixF
 rw [if_neg (by simpa using hn)]
theorem ixF_lt {α : Type} {p : α → Bool} {l : List α} (h : l.any p = true) : 0 ≤ ixF p l ∧ ixF p l < l.length := by
 unfold ixF
 rw [if_pos h]
 have := List.findIdx_lt_length.2 (List.any_eq_true.1 h)
 omega
theorem qidx_c (id : Int) (x : Rq) : CallSim Tryz.prog 200 [rqA x, .ptr 3 0 0] [(3, .box [iA id])] (bA (x.id == id)) [(3, .box [iA id])] := by
 (refine eN Tryz.func200 Tryz.call200 fun F hF => ?_)
 (refine WW ?_)
 exact fin_own [3] rfl rfl rfl rfl
theorem qixf_c (id : Int) (l : List Rq) (hb : l.length ≤ 1000) : CallSim Tryz.prog 199 [slA rqA l, .fn 200 [.ptr 3 0 0]] [(3, .box [iA id])] (iA (ixF (fun r : Rq => r.id == id) l)) [(3, .box [iA id])] := by
 have hl := map_len rqA l
 (refine eN Tryz.func199 Tryz.call199 fun F hF => ?_)
 (refine WW ?_)
 (refine sim_rngP (l) [3] [3] [0, 1, 7] [8, 0, 1, 7] rfl (fun i pre T U zs => (∀ y ∈ pre, (y.id == id) = false) ∧ zs = ⟨(8, iA i) :: T, U⟩) ?_; (conv => whnf); refine ⟨?_, ?_, ?_⟩)
 ·exact ⟨by simp, rfl⟩
 ·rintro i pre x post st hx hi ⟨hp, rfl⟩
  have hy := rng_at rqA hx hi
  have hlt := rng_lt hx hi
  have c := qidx_c id x
  have hit := ixF_hit (p := fun r : Rq => r.id == id) hx hp
  cases he : (x.id == id) <;> rw [he] at c
  ·clear hx hit
   (have zc1 := c; refine WW ?_; clear zc1)
   exact ⟨fun y hy => by simp only [List.mem_append, List.mem_singleton] at hy; rcases hy with hy | rfl; exact hp y hy; exact he, rfl⟩
  ·rw [hit he, hi]
   clear hx hit
   (have zc1 := c; refine WW ?_; clear zc1)
   exact fin_own [3] rfl rfl rfl rfl
 ·rintro st ⟨hp, rfl⟩
  rw [ixF_none hp]
  (refine WW ?_)
  exact fin_own [3] rfl rfl rfl rfl
theorem qindex_c (l : List Rq) (id : Int) (hb : l.length ≤ 1000) : CallSim Tryz.prog 165 [slA rqA l, iA id] [] (iA (ixF (fun r : Rq => r.id == id) l)) [] := by
 have c := qixf_c id l hb
 generalize ixF (fun r : Rq => r.id == id) l = n at *
 (refine eN Tryz.func165 Tryz.call165 fun F hF => ?_)
 (have zc1 := c; refine WW ?_; clear zc1)
 exact fr0
theorem qexp_c (now : Int) (x : Rq) : CallSim Tryz.prog 106 [rqA x, .ptr 3 0 0] [(3, .box [iA now])] (bA (decide (now ≤ x.til))) [(3, .box [iA now])] := by
 cases hb : decide (now ≤ x.til) with
 | false =>
  rw [decide_eq_false_iff_not] at hb
  (refine eN Tryz.func106 Tryz.call106 fun F hF => ?_)
  (refine WW ?_)
  exact fin_own [3] rfl rfl rfl rfl
 | true =>
  rw [decide_eq_true_eq] at hb
  (refine eN Tryz.func106 Tryz.call106 fun F hF => ?_)
  (refine WW ?_)
  exact fin_own [3] rfl rfl rfl rfl
theorem qwit_c (v : Int) (x : Rq) : CallSim Tryz.prog 159 [rqA x, .ptr 3 0 0] [(3, .box [iA v])] (bA (x.vh != v)) [(3, .box [iA v])] := by
 (refine eN Tryz.func159 Tryz.call159 fun F hF => ?_)
 (refine WW ?_)
 exact fin_own [3] rfl rfl rfl rfl
theorem qcan_c (v : Int) (x : Rq) : CallSim Tryz.prog 166 [rqA x, .ptr 3 0 0] [(3, .box [iA v])] (bA (x.id != v)) [(3, .box [iA v])] := by
 (refine eN Tryz.func166 Tryz.call166 fun F hF => ?_)
 (refine WW ?_)
 exact fin_own [3] rfl rfl rfl rfl
def expQ (l : List Rq) (now : Int) : List Rq := l.filter fun x => decide (now ≤ x.til)
def witQ (l : List Rq) (v : Int) : List Rq := l.filter fun x => x.vh != v
def canQ (l : List Rq) (id : Int) : List Rq := l.filter fun x => x.id != id
def hasQ (l : List Rq) (id : Int) : Bool := l.any fun x => x.id == id
theorem expire_q (l : List Rq) (now : Int) (hv : RqV l) : CallSim Tryz.prog 63 [slA rqA l, iA now] [] (slA rqA (expQ l now)) [] := by
 have h4 := hv.n4
 have c := kept_c 106 now _ l (by omega) (fun r hr => by have := hv.lg3 hr; omega) (qexp_c now)
 unfold expQ
 generalize l.filter _ = l2 at *
 (refine eN Tryz.func63 Tryz.call63 fun F hF => ?_)
 (have zc1 := c; refine WW ?_; clear zc1)
 exact fr0
theorem without_q (l : List Rq) (v : Int) (hv : RqV l) : CallSim Tryz.prog 121 [slA rqA l, iA v] [] (slA rqA (witQ l v)) [] := by
 have h4 := hv.n4
 have c := kept_c 159 v _ l (by omega) (fun r hr => by have := hv.lg3 hr; omega) (qwit_c v)
 unfold witQ
 generalize l.filter _ = l2 at *
 (refine eN Tryz.func121 Tryz.call121 fun F hF => ?_)
 (have zc1 := c; refine WW ?_; clear zc1)
 exact fr0
theorem cancel_q (l : List Rq) (id : Int) (hv : RqV l) : CallSim Tryz.prog 124 [slA rqA l, iA id] [] (.tup [slA rqA (if hasQ l id = true then canQ l id else []), iA (if hasQ l id = true then 0 else 12)]) [] := by
 have h4 := hv.n4
 have c1 := qvalid_c l 4 hv (by omega)
 have c2 := qindex_c l id (by omega)
 have c3 := kept_c 166 id _ l (by omega) (fun r hr => by have := hv.lg3 hr; omega) (qcan_c id)
 unfold canQ
 generalize l.filter _ = l2 at *
 cases hh : hasQ l id with
 | true =>
  have hx := ixF_lt (p := fun x : Rq => x.id == id) (l := l) hh
  generalize ixF (fun x : Rq => x.id == id) l = n at *
  rw [if_pos rfl, if_pos rfl]
  (refine eN Tryz.func124 Tryz.call124 fun F hF => ?_)
  (have zc1 := c1; have zc2 := c2; have zc3 := c3; refine WW ?_; clear zc1 zc2 zc3)
  exact fr0
 | false =>
  have hx := ixF_none (p := fun x : Rq => x.id == id) (l := l) (by simpa [hasQ] using hh)
  rw [hx] at c2
  rw [if_neg Bool.false_ne_true, if_neg Bool.false_ne_true]
  (refine eN Tryz.func124 Tryz.call124 fun F hF => ?_)
  (have zc1 := c1; have zc2 := c2; refine WW ?_; clear zc1 zc2)
  exact fr0
end
section
set_option maxRecDepth 4000
set_option maxHeartbeats 2000000
theorem copy2_q (l : List Rq) (hn : l.length ≤ 1000) (hb : ∀ r ∈ l, r.legs.length ≤ 1000) : CallSim Tryz.prog 52 [slA rqA l] [] (slA rqA l) [] := by
 have hl := map_len rqA l
 (refine eN Tryz.func52 Tryz.call52 fun F hF => ?_)
 (refine WW ?_)
 refine sim_virt 3 1001 5 rfl rfl rfl ?_
 (refine sim_rng (l) [1001] [] [6, 7] [3, 8, 6, 7] rfl (fun i pre T U => ⟨(3, .ref 1001 0 (pre.map rqA).length) :: (8, iA i) :: T, (1001, .arr 5 (pre.map rqA) true) :: U⟩) ?_; (conv => whnf); refine ⟨by rfl, ?_, ?_⟩)
 ·intro i pre x post hx hi
  have hy := rng_at rqA hx hi
  have hlt := rng_lt hx hi
  have hpl : (pre.map rqA).length = i := by rw [List.length_map, hi]
  have hs := hb x (rng_mem hx)
  have hsl := map_len lgA x.legs
  have e : (pre ++ [x]).map rqA = pre.map rqA ++ [rqA x] := by simp
  clear hx
  rw [e]
  generalize pre.map rqA = xs at *
  generalize l.map rqA = ls at *
  (refine WL ?_)
  rfl
 ·(refine WL ?_)
  exact fin_ret [] rfl rfl (wk_take _ _) rfl
theorem rngf (p : Rq → Bool) {l pre post : List Rq} {x : Rq} {i : Nat} (_hx : l = pre ++ x :: post) (hi : pre.length = i) : (pre.filter p).length ≤ i := by rw [← hi]; exact List.length_filter_le _ _
theorem expire2_q (l : List Rq) (now : Int) (hv : RqV l) : CallSim Tryz.prog 65 [slA rqA l, iA now] [] (slA rqA (expQ l now)) [] := by
 have h4 := hv.n4
 have hl := map_len rqA l
 have c := copy2_q (expQ l now) (by have := (hv.filter fun x => decide (now ≤ x.til)).n4; unfold expQ; omega) (fun r hr => by have := (hv.filter _).lg3 hr; omega)
 unfold expQ at *
 (refine eN Tryz.func65 Tryz.call65 fun F hF => ?_)
 (refine WW ?_)
 refine sim_virt 5 1001 5 rfl rfl rfl ?_
 (refine sim_rng (l) [1001] [] [1, 8, 9] [5, 10, 1, 8, 9] rfl (fun i pre T U => ⟨(5, .ref 1001 0 ((pre.filter fun x => decide (now ≤ x.til)).map rqA).length) :: (10, iA i) :: T, (1001, .arr 5 ((pre.filter fun x => decide (now ≤ x.til)).map rqA) true) :: U⟩) ?_; (conv => whnf); refine ⟨by rfl, ?_, ?_⟩)
 ·intro i pre x post hx hi
  have hy := rng_at rqA hx hi
  have hlt := rng_lt hx hi
  have hle := rngf (fun x => decide (now ≤ x.til)) hx hi
  have hlm := map_len rqA (pre.filter fun x => decide (now ≤ x.til))
  have e := filter_snoc (fun x => decide (now ≤ x.til)) pre x
  rw [e]
  clear hx e
  generalize (pre.filter fun x => decide (now ≤ x.til)).map rqA = R at *
  by_cases h : now ≤ x.til
  ·rw [if_pos (by simpa using h)]
   (refine WW ?_)
   rfl
  ·rw [if_neg (by simpa using h)]
   (refine WW ?_)
   rw [List.map_nil, List.append_nil]
   rfl
 ·(have zc1 := c; have zf1 := (⟨⟩ : FzD 52 [] [23]); refine WW ?_; clear zc1 zf1)
  exact fr0
theorem without2_q (l : List Rq) (v : Int) (hv : RqV l) : CallSim Tryz.prog 130 [slA rqA l, iA v] [] (slA rqA (witQ l v)) [] := by
 have h4 := hv.n4
 have hl := map_len rqA l
 have c := copy2_q (witQ l v) (by have := (hv.filter fun x => x.vh != v).n4; unfold witQ; omega) (fun r hr => by have := (hv.filter _).lg3 hr; omega)
 unfold witQ at *
 (refine eN Tryz.func130 Tryz.call130 fun F hF => ?_)
 (refine WW ?_)
 refine sim_virt 5 1001 5 rfl rfl rfl ?_
 (refine sim_rng (l) [1001] [] [1, 8, 9] [5, 10, 1, 8, 9] rfl (fun i pre T U => ⟨(5, .ref 1001 0 ((pre.filter fun x => x.vh != v).map rqA).length) :: (10, iA i) :: T, (1001, .arr 5 ((pre.filter fun x => x.vh != v).map rqA) true) :: U⟩) ?_; (conv => whnf); refine ⟨by rfl, ?_, ?_⟩)
 ·intro i pre x post hx hi
  have hy := rng_at rqA hx hi
  have hlt := rng_lt hx hi
  have hle := rngf (fun x => x.vh != v) hx hi
  have hlm := map_len rqA (pre.filter fun x => x.vh != v)
  have e := filter_snoc (fun x => x.vh != v) pre x
  rw [e]
  clear hx e
  generalize (pre.filter fun x => x.vh != v).map rqA = R at *
  by_cases h : x.vh ≠ v
  ·rw [if_pos (by simpa using h)]
   (refine WW ?_)
   rfl
  ·rw [if_neg (by simpa using h)]
   (refine WW ?_)
   rw [List.map_nil, List.append_nil]
   rfl
 ·(have zc1 := c; have zf1 := (⟨⟩ : FzD 52 [] [23]); refine WW ?_; clear zc1 zf1)
  exact fr0
theorem can_none {l : List Rq} {id : Int} (h : hasQ l id = false) : canQ l id = l := by
 unfold canQ
 refine List.filter_eq_self.2 fun x hx => ?_
 have : ¬ x.id = id := by
  intro e
  rw [show hasQ l id = true from List.any_eq_true.2 ⟨x, hx, by simpa using e⟩] at h
  cases h
 simpa using this
theorem can_some {l : List Rq} {id : Int} (h : hasQ l id = true) : (canQ l id).length < l.length := by
 unfold canQ
 obtain ⟨x, hx, e⟩ := List.any_eq_true.1 h
 refine List.length_filter_lt_length_iff_exists.2 ⟨x, hx, ?_⟩
 simpa using e
theorem cancel2_q (l : List Rq) (id : Int) (hv : RqV l) : CallSim Tryz.prog 91 [slA rqA l, iA id] [] (.tup [slA rqA (if hasQ l id = true then canQ l id else []), iA (if hasQ l id = true then 0 else 12)]) [] := by
 have h4 := hv.n4
 have hl := map_len rqA l
 have c1 := qvalid2_c l 4 hv (by omega)
 have c2 := copy2_q (canQ l id) (by have := (hv.filter fun x => x.id != id).n4; unfold canQ; omega) (fun r hr => by have := (hv.filter _).lg3 hr; omega)
 have hno : hasQ l id = false → (canQ l id).length = l.length := fun h => by rw [can_none h]
 have hso := fun h => can_some (l := l) (id := id) h
 have hlf := map_len rqA (canQ l id)
 generalize hasQ l id = b at *
 unfold canQ at *
 (refine eN Tryz.func91 Tryz.call91 fun F hF => ?_)
 (have zc1 := c1; refine WW ?_; clear zc1)
 refine sim_virt 6 1001 5 rfl rfl rfl ?_
 (refine sim_rng (l) [1001] [] [0, 1, 12, 13] [6, 14, 0, 1, 12, 13] rfl (fun i pre T U => ⟨(6, .ref 1001 0 ((pre.filter fun x => x.id != id).map rqA).length) :: (14, iA i) :: T, (1001, .arr 5 ((pre.filter fun x => x.id != id).map rqA) true) :: U⟩) ?_; (conv => whnf); refine ⟨by rfl, ?_, ?_⟩)
 ·intro i pre x post hx hi
  have hy := rng_at rqA hx hi
  have hlt := rng_lt hx hi
  have hle := rngf (fun x => x.id != id) hx hi
  have hlm := map_len rqA (pre.filter fun x => x.id != id)
  have e := filter_snoc (fun x => x.id != id) pre x
  rw [e]
  clear hx e
  generalize (pre.filter fun x => x.id != id).map rqA = R at *
  by_cases h : x.id ≠ id
  ·rw [if_pos (show (x.id != id) = true by simpa using h)]
   (refine WW ?_)
   rfl
  ·rw [if_neg (show ¬ (x.id != id) = true by simpa using h)]
   (refine WW ?_)
   rw [List.map_nil, List.append_nil]
   rfl
 ·cases b with
  | false =>
   have hno := hno rfl
   rw [if_neg Bool.false_ne_true, if_neg Bool.false_ne_true]
   (refine WW ?_)
   exact fr0
  | true =>
   have hso := hso rfl
   rw [if_pos rfl, if_pos rfl]
   (have zc1 := c2; have zf1 := (⟨⟩ : FzD 52 [] [32]); refine WW ?_; clear zc1 zf1)
   exact fr0
end
end Av
end Go.Proofs.YtaikgchmpieooaaGreat
