/- rank: contracts of the small functions. -/
import Derived.Test.YtlabfbpnkjigoaaBase
namespace Go.Proofs.Ytlabfbpnkjigoaa
open Go.RowKit

def endedF (xs : List Int) (ph : Int) : Int := if ph < 0 ∨ (xs.length : Int) ≤ ph then -1 else atI xs ph.toNat
def emF (k : Int) : Bool := k == 2 || k == 3
def startF (xs : List Int) (ph si : Int) : Int := max si (endedF xs ph)
def levelF (per cap : Int) (xs : List Int) (now ph k si : Int) : Int := min cap (k + (now - startF xs ph si) / per)
def lockF (lock : Int) (xs : List Int) (now ph k : Int) : Bool := !emF k && (endedF xs ph != -1 && decide (now - endedF xs ph ≤ lock))
def lessF (per cap : Int) (xs : List Int) (now : Int) (ag id ph k si ag2 id2 ph2 k2 si2 : Int) : Bool :=
  if emF k != emF k2 then emF k else
  if (if emF k then k else levelF per cap xs now ph k si) ≠ (if emF k then k2 else levelF per cap xs now ph2 k2 si2) then
    decide ((if emF k then k2 else levelF per cap xs now ph2 k2 si2) < (if emF k then k else levelF per cap xs now ph k si))
  else if startF xs ph si ≠ startF xs ph2 si2 then decide (startF xs ph si < startF xs ph2 si2)
  else if ag ≠ ag2 then decide (ag < ag2) else decide (id < id2)

theorem ended_w (sp sg : Int) (A : Option Addr) (n c : Nat) (xs : List Int) (ag id ph k si : Int) (w : World) (hr : RdI w A n c xs) :
    Calls Try.prog 60 #[.agg #[.int .i64 sp, .int .i64 sg, .slice A n c], .agg #[.int .i64 ag, .int .i64 id, .int .i64 ph, .int .i64 k, .int .i64 si]] w
      fun e w' => e = .returned (.int .i64 (endedF xs ph)) ∧ Below w.heap.size w w' := by
  obtain ⟨hl, hnc, hc, hcell⟩ := hr
  by_cases h1 : ph < 0
  · have e1 : endedF xs ph = -1 := by simp [endedF, h1]
    rw [e1]
    go_enter Try.func60, Try.ntmps60
    go_wp2
    go_ret
    exact ⟨rfl, by (repeat (first | exact Below.refl _ _ | assumption | refine belowExt ?_ _ | refine belowAlloc ?_ _ | refine Below.drew ?_ | refine below_drewN ?_ _ | refine Below.setCell ?_ (by simp; try omega) _))⟩
  · by_cases h2 : (n : Int) ≤ ph
    · have e1 : endedF xs ph = -1 := by simp [endedF, hl, h2]
      rw [e1]
      clear hl
      go_enter Try.func60, Try.ntmps60
      go_wp2
      go_ret
      exact ⟨rfl, by (repeat (first | exact Below.refl _ _ | assumption | refine belowExt ?_ _ | refine belowAlloc ?_ _ | refine Below.drew ?_ | refine below_drewN ?_ _ | refine Below.setCell ?_ (by simp; try omega) _))⟩
    · obtain ⟨b, o, rfl, hlt, hcell⟩ := hcell (by omega)
      obtain ⟨p, rfl⟩ := Int.eq_ofNat_of_zero_le (show 0 ≤ ph by omega)
      have hp : p < n := by omega
      have e1 : endedF xs p = atI xs p := by
        unfold endedF; rw [if_neg (by rw [hl]; omega)]; simp
      rw [e1]
      have hg := hcell p hp
      clear hl e1 hcell
      go_enter Try.func60, Try.ntmps60
      go_wp2
      go_ret
      exact ⟨rfl, by (repeat (first | exact Below.refl _ _ | assumption | refine belowExt ?_ _ | refine belowAlloc ?_ _ | refine Below.drew ?_ | refine below_drewN ?_ _ | refine Below.setCell ?_ (by simp; try omega) _))⟩

theorem tdiv_neg_exact (n d : Int) (hd : 1 ≤ d) (hm : n.tmod d = 0) : n.tdiv d = n / d := by
  have h1 := Int.tmod_add_mul_tdiv n d
  rw [hm] at h1
  have h2 : n = d * n.tdiv d := by omega
  exact (Int.ediv_eq_of_eq_mul_right (by omega) h2).symm
theorem tdiv_neg_inexact (n d : Int) (hn : n < 0) (hd : 1 ≤ d) (hm : n.tmod d ≠ 0) : n.tdiv d - 1 = n / d := by
  have h1 := Int.tmod_add_mul_tdiv n d
  have h0 : n.tmod d = -((-n).tmod d) := by rw [Int.neg_tmod]; omega
  have h3 : -d < n.tmod d := by
    have := Int.tmod_lt_of_pos (-n) (show 0 < d by omega)
    omega
  have h4 : n.tmod d ≤ 0 := by
    have := Int.tmod_nonneg d (show 0 ≤ -n by omega)
    omega
  clear h0
  have h5 : n = d * (n.tdiv d - 1) + (n.tmod d + d) := by rw [Int.mul_sub]; omega
  generalize n.tdiv d = q at *
  generalize n.tmod d = r at *
  have h6 : n / d = q - 1 := by
    rw [h5, Int.mul_add_ediv_left _ _ (by omega), Int.ediv_eq_zero_of_lt (by omega) (by omega)]
    omega
  omega

theorem quotient_w (n d : Int) (w : World) (h1 : -4398046511104 ≤ n) (h2 : n ≤ 4398046511104) (h3 : 1 ≤ d) (h4 : d ≤ 1099511627776) :
    Calls Try.prog 59 #[.int .i64 n, .int .i64 d] w fun e w' => e = .returned (.int .i64 (n / d)) ∧ Below w.heap.size w w' := by
  have hd0 : (d == 0) = false := by simp; omega
  have hdneg : ¬ d < 0 := by omega
  by_cases h0 : 0 ≤ n
  · have hneg : ¬ n < 0 := by omega
    by_cases hm : n % d = 0
    · have hm' : (n % d != 0) = false := by simp [hm]
      clear hm
      go_enter Try.func59, Try.ntmps59
      go_wp2
      go_ret
      exact ⟨rfl, Below.refl _ _⟩
    · have hm' : (n % d != 0) = true := by simp [hm]
      clear hm
      go_enter Try.func59, Try.ntmps59
      go_wp2
      go_ret
      exact ⟨rfl, Below.refl _ _⟩
  · have hneg : n < 0 := by omega
    have hb := IntWalk.tdiv_le (-n) d (by omega) (by omega)
    have hq : n.tdiv d = -(-n / d) := by
      have : n.tdiv d = -((-n).tdiv d) := by rw [Int.neg_tdiv]; omega
      rw [this, Int.tdiv_eq_ediv_of_nonneg (by omega)]
    have hq1 : -4398046511104 ≤ n.tdiv d := by rw [hq]; omega
    have hq2 : n.tdiv d ≤ 0 := by rw [hq]; omega
    clear hq hb
    by_cases hm : n.tmod d = 0
    · have hm' : (n.tmod d != 0) = false := by simp [hm]
      rw [← tdiv_neg_exact n d h3 hm]
      clear hm
      go_enter Try.func59, Try.ntmps59
      go_wp2
      go_ret
      exact ⟨rfl, Below.refl _ _⟩
    · have hm' : (n.tmod d != 0) = true := by simp [hm]
      rw [← tdiv_neg_inexact n d hneg h3 hm]
      clear hm
      go_enter Try.func59, Try.ntmps59
      go_wp2
      go_ret
      exact ⟨rfl, Below.refl _ _⟩

theorem emergency_w (ag id ph k si : Int) (w : World) :
    Calls Try.prog 24 #[.agg #[.int .i64 ag, .int .i64 id, .int .i64 ph, .int .i64 k, .int .i64 si]] w
      fun e w' => e = .returned (.bool (emF k)) ∧ Below w.heap.size w w' := by
  unfold emF
  by_cases h : k = 2
  · subst h
    go_enter Try.func24, Try.ntmps24
    go_wp2
    go_ret
    exact ⟨rfl, by (repeat (first | exact Below.refl _ _ | assumption | refine belowExt ?_ _ | refine belowAlloc ?_ _ | refine Below.drew ?_ | refine below_drewN ?_ _ | refine Below.setCell ?_ (by simp; try omega) _))⟩
  · have h2 : (k == 2) = false := by simp [h]
    rw [h2]
    clear h
    go_enter Try.func24, Try.ntmps24
    go_wp2
    go_ret
    exact ⟨rfl, by (repeat (first | exact Below.refl _ _ | assumption | refine belowExt ?_ _ | refine belowAlloc ?_ _ | refine Below.drew ?_ | refine below_drewN ?_ _ | refine Below.setCell ?_ (by simp; try omega) _))⟩

theorem start_w (sp sg : Int) (A : Option Addr) (n c : Nat) (xs : List Int) (ag id ph k si : Int) (w : World) (hr : RdI w A n c xs) :
    Calls Try.prog 27 #[.agg #[.int .i64 sp, .int .i64 sg, .slice A n c], .agg #[.int .i64 ag, .int .i64 id, .int .i64 ph, .int .i64 k, .int .i64 si]] w
      fun e w' => e = .returned (.int .i64 (startF xs ph si)) ∧ Below w.heap.size w w' := by
  go_enter Try.func27, Try.ntmps27
  go_wp2
  ((first | refine wp_region_ext_lit2 (by kernel_rfl) (by kernel_rfl) ?_ | refine wp_region_ext_lit (by kernel_rfl) (by kernel_rfl) ?_); (repeat (go_big_quiet_step ((go_at_call 60; refine Calls.ext (ended_w _ _ _ _ _ xs _ _ _ _ _ _ ?_); exact RdI.ext ((hr.alloc _).alloc _) _)))); refine wpQuiet_ext ?_; intro xq)
  go_wp2
  all_goals (go_ret; exact ⟨ret_int (by unfold startF; omega), by (repeat (first | exact Below.refl _ _ | assumption | refine belowExt ?_ _ | refine belowAlloc ?_ _ | refine Below.drew ?_ | refine below_drewN ?_ _ | refine Below.setCell ?_ (by simp; try omega) _))⟩)

theorem level_w (js gs : Value) (per cap hold lock : Int) (sp sg : Int) (A : Option Addr) (n c : Nat) (xs : List Int) (ag id ph k si now : Int) (w : World) (hr : RdI w A n c xs)
   (hp : 1 ≤ per) (hp2 : per ≤ 1099511627776) (hk : -1000 ≤ k) (hk2 : k ≤ 1000) (hn1 : -1099511627776 ≤ now) (hn2 : now ≤ 1099511627776)
   (hm1 : -1099511627776 ≤ startF xs ph si) (hm2 : startF xs ph si ≤ 1099511627776) :
    Calls Try.prog 26 #[.agg #[js, gs, .int .i64 per, .int .i64 cap, .int .i64 hold, .int .i64 lock], .agg #[.int .i64 sp, .int .i64 sg, .slice A n c], .agg #[.int .i64 ag, .int .i64 id, .int .i64 ph, .int .i64 k, .int .i64 si], .int .i64 now] w
      fun e w' => e = .returned (.int .i64 (levelF per cap xs now ph k si)) ∧ Below w.heap.size w w' := by
  have hq1 : -2199023255552 ≤ (now - startF xs ph si) / per := by
    refine (Int.le_ediv_iff_mul_le (by omega)).2 ?_
    have : (2199023255552 : Int) * 1 ≤ 2199023255552 * per := Int.mul_le_mul_of_nonneg_left hp (by omega)
    omega
  have hq2 : (now - startF xs ph si) / per ≤ 2199023255552 := by
    have : (now - startF xs ph si) / per ≤ 2199023255552 / 1 := by
      rw [Int.ediv_one]
      refine Int.le_of_lt_add_one ((Int.ediv_lt_iff_lt_mul (by omega)).2 ?_)
      have : (2199023255552 + 1 : Int) * 1 ≤ (2199023255552 + 1) * per := Int.mul_le_mul_of_nonneg_left hp (by omega)
      omega
    omega
  go_enter Try.func26, Try.ntmps26
  go_wp2
  ((first | refine wp_region_ext_lit2 (by kernel_rfl) (by kernel_rfl) ?_ | refine wp_region_ext_lit (by kernel_rfl) (by kernel_rfl) ?_); (repeat (go_big_quiet_step ((first | (go_at_call 27; refine Calls.ext (start_w _ _ _ _ _ xs _ _ _ _ _ _ ?_); exact RdI.ext (((hr.alloc _).alloc _).alloc _) _) | (go_at_call 59; exact Calls.ext (quotient_w _ _ _ (by omega) (by omega) (by omega) (by omega))))))); refine wpQuiet_ext ?_; intro xq)
  go_wp2
  all_goals (go_ret; exact ⟨ret_int (by unfold levelF; omega), by (repeat (first | exact Below.refl _ _ | assumption | refine belowExt ?_ _ | refine belowAlloc ?_ _ | refine Below.drew ?_ | refine below_drewN ?_ _ | refine Below.setCell ?_ (by simp; try omega) _))⟩)

theorem locked_w (js gs : Value) (per cap hold lock : Int) (sp sg : Int) (A : Option Addr) (n c : Nat) (xs : List Int) (ag id ph k si now : Int) (w : World) (hr : RdI w A n c xs)
   (hn1 : -1099511627776 ≤ now) (hn2 : now ≤ 1099511627776) (hm1 : -1099511627776 ≤ endedF xs ph) (hm2 : endedF xs ph ≤ 1099511627776) :
    Calls Try.prog 31 #[.agg #[js, gs, .int .i64 per, .int .i64 cap, .int .i64 hold, .int .i64 lock], .agg #[.int .i64 sp, .int .i64 sg, .slice A n c], .agg #[.int .i64 ag, .int .i64 id, .int .i64 ph, .int .i64 k, .int .i64 si], .int .i64 now] w
      fun e w' => e = .returned (.bool (lockF lock xs now ph k)) ∧ Below w.heap.size w w' := by
  unfold lockF
  cases hu : emF k
  · cases he : (endedF xs ph != -1)
    · go_enter Try.func31, Try.ntmps31
      go_wp2_with first | (go_at_call 60; (first | (with_reducible refine (Calls.ext (ended_w _ _ _ _ _ xs _ _ _ _ _ _ (((hr.alloc _).alloc _).alloc _))).mono ?_) | (with_reducible refine (Calls.extD (ended_w _ _ _ _ _ xs _ _ _ _ _ _ (((hr.alloc _).alloc _).alloc _))).mono ?_) | (with_reducible refine (Calls.ext0 (ended_w _ _ _ _ _ xs _ _ _ _ _ _ (((hr.alloc _).alloc _).alloc _))).mono ?_)); rintro e w' ⟨rfl, x, rfl⟩) | (go_at_call 24; (first | (with_reducible refine (Calls.ext (emergency_w _ _ _ _ _ _)).mono ?_) | (with_reducible refine (Calls.extD (emergency_w _ _ _ _ _ _)).mono ?_) | (with_reducible refine (Calls.ext0 (emergency_w _ _ _ _ _ _)).mono ?_)); rintro e w' ⟨rfl, x, rfl⟩)
      go_ret
      exact ⟨ret_bool (by simp), by (repeat (first | exact Below.refl _ _ | assumption | refine belowExt ?_ _ | refine belowAlloc ?_ _ | refine Below.drew ?_ | refine below_drewN ?_ _ | refine Below.setCell ?_ (by simp; try omega) _))⟩
    · go_enter Try.func31, Try.ntmps31
      go_wp2_with first | (go_at_call 60; (first | (with_reducible refine (Calls.ext (ended_w _ _ _ _ _ xs _ _ _ _ _ _ (((hr.alloc _).alloc _).alloc _))).mono ?_) | (with_reducible refine (Calls.extD (ended_w _ _ _ _ _ xs _ _ _ _ _ _ (((hr.alloc _).alloc _).alloc _))).mono ?_) | (with_reducible refine (Calls.ext0 (ended_w _ _ _ _ _ xs _ _ _ _ _ _ (((hr.alloc _).alloc _).alloc _))).mono ?_)); rintro e w' ⟨rfl, x, rfl⟩) | (go_at_call 24; (first | (with_reducible refine (Calls.ext (emergency_w _ _ _ _ _ _)).mono ?_) | (with_reducible refine (Calls.extD (emergency_w _ _ _ _ _ _)).mono ?_) | (with_reducible refine (Calls.ext0 (emergency_w _ _ _ _ _ _)).mono ?_)); rintro e w' ⟨rfl, x, rfl⟩)
      go_ret
      exact ⟨ret_bool (by simp), by (repeat (first | exact Below.refl _ _ | assumption | refine belowExt ?_ _ | refine belowAlloc ?_ _ | refine Below.drew ?_ | refine below_drewN ?_ _ | refine Below.setCell ?_ (by simp; try omega) _))⟩
  · go_enter Try.func31, Try.ntmps31
    go_wp2_with first | (go_at_call 60; (first | (with_reducible refine (Calls.ext (ended_w _ _ _ _ _ xs _ _ _ _ _ _ (((hr.alloc _).alloc _).alloc _))).mono ?_) | (with_reducible refine (Calls.extD (ended_w _ _ _ _ _ xs _ _ _ _ _ _ (((hr.alloc _).alloc _).alloc _))).mono ?_) | (with_reducible refine (Calls.ext0 (ended_w _ _ _ _ _ xs _ _ _ _ _ _ (((hr.alloc _).alloc _).alloc _))).mono ?_)); rintro e w' ⟨rfl, x, rfl⟩) | (go_at_call 24; (first | (with_reducible refine (Calls.ext (emergency_w _ _ _ _ _ _)).mono ?_) | (with_reducible refine (Calls.extD (emergency_w _ _ _ _ _ _)).mono ?_) | (with_reducible refine (Calls.ext0 (emergency_w _ _ _ _ _ _)).mono ?_)); rintro e w' ⟨rfl, x, rfl⟩)
    go_ret
    exact ⟨ret_bool (by simp), by (repeat (first | exact Below.refl _ _ | assumption | refine belowExt ?_ _ | refine belowAlloc ?_ _ | refine Below.drew ?_ | refine below_drewN ?_ _ | refine Below.setCell ?_ (by simp; try omega) _))⟩
end Go.Proofs.Ytlabfbpnkjigoaa
