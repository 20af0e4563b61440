/- rank.Less. -/
import Derived.Test.YtlabfbpnkjigoaaRankA
namespace Go.Proofs.Ytlabfbpnkjigoaa
open Go.RowKit

set_option maxHeartbeats 1000000 in
theorem less_w (js gs : Value) (per cap hold lock : Int) (sp sg : Int) (A : Option Addr) (n c : Nat) (xs : List Int) (now : Int) (ag id ph k si ag2 id2 ph2 k2 si2 : Int) (w : World) (hr : RdI w A n c xs)
   (hp : 1 ≤ per) (hp2 : per ≤ 1099511627776) (hk : -1000 ≤ k) (hk2 : k ≤ 1000) (hk3 : -1000 ≤ k2) (hk4 : k2 ≤ 1000) (hn1 : -1099511627776 ≤ now) (hn2 : now ≤ 1099511627776)
   (hm1 : -1099511627776 ≤ startF xs ph si) (hm2 : startF xs ph si ≤ 1099511627776) (hm3 : -1099511627776 ≤ startF xs ph2 si2) (hm4 : startF xs ph2 si2 ≤ 1099511627776) :
    Calls Try.prog 23 #[.agg #[js, gs, .int .i64 per, .int .i64 cap, .int .i64 hold, .int .i64 lock], .agg #[.int .i64 sp, .int .i64 sg, .slice A n c], .int .i64 now, .agg #[.int .i64 ag, .int .i64 id, .int .i64 ph, .int .i64 k, .int .i64 si], .agg #[.int .i64 ag2, .int .i64 id2, .int .i64 ph2, .int .i64 k2, .int .i64 si2]] w
      fun e w' => e = .returned (.bool (lessF per cap xs now ag id ph k si ag2 id2 ph2 k2 si2)) ∧ Below w.heap.size w w' := by
  have hr' := fun (o1 o2 o3 o4 : Obj) => (((hr.alloc o1).alloc o2).alloc o3).alloc o4
  unfold lessF
  cases hu : emF k <;> cases hu2 : emF k2
  all_goals
    go_enter Try.func23, Try.ntmps23
    (go_wp2_with (first | (go_at_call 24; (first | (with_reducible refine (Calls.ext (emergency_w _ _ _ _ _ _)).mono ?_) | (with_reducible refine (Calls.extD (emergency_w _ _ _ _ _ _)).mono ?_) | (with_reducible refine (Calls.ext0 (emergency_w _ _ _ _ _ _)).mono ?_)); rintro e w' ⟨rfl, x, rfl⟩)); (iterate 4 ((any_goals (try ((first | refine wp_region_ext_lit2 (by kernel_rfl) (by kernel_rfl) ?_ | refine wp_region_ext_lit (by kernel_rfl) (by kernel_rfl) ?_); (repeat (go_big_quiet_step ((first | (go_at_call 26; refine Calls.ext (level_w _ _ _ _ _ _ _ _ _ _ _ xs _ _ _ _ _ _ _ ?_ hp hp2 (by omega) (by omega) hn1 hn2 (by omega) (by omega)); exact (hr' _ _ _ _).ext _) | (go_at_call 27; refine Calls.ext (start_w _ _ _ _ _ xs _ _ _ _ _ _ ?_); exact (hr' _ _ _ _).ext _))))); refine wpQuiet_ext ?_; intro xq))); (any_goals (go_wp2_with (first | (go_at_call 24; (first | (with_reducible refine (Calls.ext (emergency_w _ _ _ _ _ _)).mono ?_) | (with_reducible refine (Calls.extD (emergency_w _ _ _ _ _ _)).mono ?_) | (with_reducible refine (Calls.ext0 (emergency_w _ _ _ _ _ _)).mono ?_)); rintro e w' ⟨rfl, x, rfl⟩)))))))
    all_goals (go_ret; exact ⟨ret_bool (by grind), by (repeat (first | exact Below.refl _ _ | assumption | refine belowExt ?_ _ | refine belowAlloc ?_ _ | refine Below.drew ?_ | refine below_drewN ?_ _ | refine Below.setCell ?_ (by simp; try omega) _))⟩)
end Go.Proofs.Ytlabfbpnkjigoaa
