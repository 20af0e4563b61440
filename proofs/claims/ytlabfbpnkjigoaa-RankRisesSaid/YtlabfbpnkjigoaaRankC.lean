/- rank.Best. -/
import Derived.Test.YtlabfbpnkjigoaaRankB
namespace Go.Proofs.Ytlabfbpnkjigoaa
open Go.RowKit

/-- The bounds that the numbers of claims and of a service keep. -/
def Cl.ok (xs : List Int) (c : Cl) : Prop := -1000 ≤ c.k ∧ c.k ≤ 1000 ∧ -1099511627776 ≤ startF xs c.ph c.si ∧ startF xs c.ph c.si ≤ 1099511627776 ∧ -1099511627776 ≤ endedF xs c.ph ∧ endedF xs c.ph ≤ 1099511627776
def lessC (per cap : Int) (xs : List Int) (now : Int) (a b : Cl) : Bool := lessF per cap xs now a.ag a.id a.ph a.k a.si b.ag b.id b.ph b.k b.si
def lockC (lock : Int) (xs : List Int) (now : Int) (c : Cl) : Bool := lockF lock xs now c.ph c.k
/-- The best of the first k claims. -/
def bestT (per cap lock : Int) (xs : List Int) (now : Int) (cs : List Cl) : Nat → Int
  | 0 => -1
  | k + 1 => if lockC lock xs now (atC cs k) then bestT per cap lock xs now cs k
    else if bestT per cap lock xs now cs k < 0 then k
    else if lessC per cap xs now (atC cs k) (atC cs (bestT per cap lock xs now cs k).toNat) then k
    else bestT per cap lock xs now cs k
def bestF (per cap lock : Int) (xs : List Int) (now : Int) (cs : List Cl) : Int := bestT per cap lock xs now cs cs.length
theorem bestT_lt (per cap lock : Int) (xs : List Int) (now : Int) (cs : List Cl) (k : Nat) : -1 ≤ bestT per cap lock xs now cs k ∧ bestT per cap lock xs now cs k < k := by
  induction k with
  | zero => simp [bestT]
  | succ k ih => unfold bestT; split <;> (try split) <;> (try split) <;> omega

set_option maxHeartbeats 1000000 in
theorem best_w (js gs : Value) (per cap hold lock : Int) (sp sg : Int) (A : Option Addr) (n c : Nat) (xs : List Int) (now : Int) (C : Option Addr) (m d : Nat) (cs : List Cl) (w : World) (hr : RdI w A n c xs) (hc : RdC w C m d cs)
   (hp : 1 ≤ per) (hp2 : per ≤ 1099511627776) (hn1 : -1099511627776 ≤ now) (hn2 : now ≤ 1099511627776) (hok : ∀ k, k < m → (atC cs k).ok xs) :
    Calls Try.prog 34 #[.agg #[js, gs, .int .i64 per, .int .i64 cap, .int .i64 hold, .int .i64 lock], .agg #[.int .i64 sp, .int .i64 sg, .slice A n c], .int .i64 now, .slice C m d] w
      fun e w' => e = .returned (.int .i64 (bestF per cap lock xs now cs)) ∧ Below w.heap.size w w' := by
  have hr' := (hr.alloc (.cells #[js, gs, .int .i64 per, .int .i64 cap, .int .i64 hold, .int .i64 lock] 26)).alloc (.cells #[.int .i64 sp, .int .i64 sg, .slice A n c] 46)
  have hcW := (hc.alloc (.cells #[js, gs, .int .i64 per, .int .i64 cap, .int .i64 hold, .int .i64 lock] 26)).alloc (.cells #[.int .i64 sp, .int .i64 sg, .slice A n c] 46)
  obtain ⟨hl, hmd, hd, _⟩ := hc
  have hl' : Hid (cs.length = m) := hl
  clear hl
  go_enter Try.func34, Try.ntmps34
  go_wp2
  go_loopw [9, 14] (fun b i wr => ∃ k : Nat, k ≤ m ∧ i = .int .i64 k ∧ b = .int .i64 (bestT per cap lock xs now cs k) ∧ ∃ x : Ext ((w.alloc (.cells #[js, gs, .int .i64 per, .int .i64 cap, .int .i64 hold, .int .i64 lock] 26)).alloc (.cells #[.int .i64 sp, .int .i64 sg, .slice A n c] 46)), wr = x.world) (fun _ i _ => m - (intOf i).toNat)
  case atStart => exact ⟨0, Nat.zero_le _, rfl, rfl, Ext.refl _, rfl⟩
  case round =>
    obtain ⟨k, hk, rfl, rfl, x0, rfl⟩ := hrel
    by_cases hkm : k < m
    · obtain ⟨_, _, _, hcell⟩ := hcW.ext x0
      obtain ⟨b, o, rfl, hlt, hcell⟩ := hcell (by omega)
      obtain ⟨c0, c1, c2, c3, c4⟩ := hcell k hkm
      obtain ⟨ok1, ok2, ok3, ok4, ok5, ok6⟩ := hok k hkm
      have hbt := bestT_lt per cap lock xs now cs k
      have hz := x0.size_
      simp at hz
      have z0 : w.heap.size < x0.world.heap.size := by omega
      have z1 : w.heap.size + 1 < x0.world.heap.size := by omega
      have z2 : w.heap.size ≤ x0.world.heap.size := by omega
      have z3 : w.heap.size + 1 ≤ x0.world.heap.size := by omega
      have z4 : b ≤ x0.world.heap.size := by omega
      have hs : Hid (bestT per cap lock xs now cs (k + 1) = if lockC lock xs now (atC cs k) then bestT per cap lock xs now cs k
    else if bestT per cap lock xs now cs k < 0 then k
    else if lessC per cap xs now (atC cs k) (atC cs (bestT per cap lock xs now cs k).toNat) then k
    else bestT per cap lock xs now cs k) := rfl
      generalize hq : bestT per cap lock xs now cs k = q at *
      have hcell' := Lib.hid hcell
      clear hcW hcell hq
      generalize hck : atC cs k = ck at *
      clear hck
      obtain ⟨g0, g1, g2, g3, g4⟩ := ck
      dsimp only at *
      cases hlk : lockF lock xs now g2 g3
      · by_cases hq0 : q < 0
        · replace hs : Hid (bestT per cap lock xs now cs (k + 1) = k) := by
            have := hs.out
            rw [show lockC lock xs now ⟨g0, g1, g2, g3, g4⟩ = false from hlk, if_neg (by simp), if_pos hq0] at this
            exact this
          go_wp2_with (first | (go_at_call 31; (first | (with_reducible refine (Calls.ext (locked_w _ _ _ _ _ _ _ _ _ _ _ xs _ _ _ _ _ _ _ ((hr'.ext _).alloc _) hn1 hn2 ok5 ok6)).mono ?_) | (with_reducible refine (Calls.extD (locked_w _ _ _ _ _ _ _ _ _ _ _ xs _ _ _ _ _ _ _ ((hr'.ext _).alloc _) hn1 hn2 ok5 ok6)).mono ?_) | (with_reducible refine (Calls.ext0 (locked_w _ _ _ _ _ _ _ _ _ _ _ xs _ _ _ _ _ _ _ ((hr'.ext _).alloc _) hn1 hn2 ok5 ok6)).mono ?_)); rintro e w' ⟨rfl, x, rfl⟩))
          ((first | refine wp_region_ext_lit2 (by kernel_rfl) (by kernel_rfl) ?_ | refine wp_region_ext_lit (by kernel_rfl) (by kernel_rfl) ?_); (repeat (go_big_quiet_step ((fail)))); refine wpQuiet_ext ?_; intro xq)
          go_wp2
          go_roundw
          case rel => exact ⟨k + 1, by omega, by go_num, by rw [hs.out], x0.step (by (repeat (first | exact Below.refl _ _ | assumption | refine belowExt ?_ _ | refine belowAlloc ?_ _ | refine Below.drew ?_ | refine below_drewN ?_ _ | refine Below.setCell ?_ (by simp; try omega) _))), rfl⟩
          case measure => simp [intOf]; omega
        · obtain ⟨p, rfl⟩ := Int.eq_ofNat_of_zero_le (show 0 ≤ q by omega)
          have hpk : p < k := by omega
          have hd0 : decide ((p : Int) < 0) = false := by simp
          have hpm : p < m := by omega
          obtain ⟨e0, e1, e2, e3, e4⟩ := hcell'.out p (by omega)
          obtain ⟨ok1', ok2', ok3', ok4', ok5', ok6'⟩ := hok p (by omega)
          replace hs : Hid (bestT per cap lock xs now cs (k + 1) = if lessC per cap xs now ⟨g0, g1, g2, g3, g4⟩ (atC cs p) then (k : Int) else p) := by
            have := hs.out
            rw [show lockC lock xs now ⟨g0, g1, g2, g3, g4⟩ = false from hlk, if_neg (by simp), if_neg hq0] at this
            exact this
          generalize hck2 : atC cs p = ck2 at *
          clear hck2
          obtain ⟨f0, f1, f2, f3, f4⟩ := ck2
          dsimp only at *
          cases hls : lessF per cap xs now g0 g1 g2 g3 g4 f0 f1 f2 f3 f4
          · replace hs : Hid (bestT per cap lock xs now cs (k + 1) = p) := by
              have := hs.out
              rw [show lessC per cap xs now ⟨g0, g1, g2, g3, g4⟩ ⟨f0, f1, f2, f3, f4⟩ = false from hls, if_neg (by simp)] at this
              exact this
            go_wp2_with (first | (go_at_call 31; (first | (with_reducible refine (Calls.ext (locked_w _ _ _ _ _ _ _ _ _ _ _ xs _ _ _ _ _ _ _ ((hr'.ext _).alloc _) hn1 hn2 ok5 ok6)).mono ?_) | (with_reducible refine (Calls.extD (locked_w _ _ _ _ _ _ _ _ _ _ _ xs _ _ _ _ _ _ _ ((hr'.ext _).alloc _) hn1 hn2 ok5 ok6)).mono ?_) | (with_reducible refine (Calls.ext0 (locked_w _ _ _ _ _ _ _ _ _ _ _ xs _ _ _ _ _ _ _ ((hr'.ext _).alloc _) hn1 hn2 ok5 ok6)).mono ?_)); rintro e w' ⟨rfl, x, rfl⟩))
            ((first | refine wp_region_ext_lit2 (by kernel_rfl) (by kernel_rfl) ?_ | refine wp_region_ext_lit (by kernel_rfl) (by kernel_rfl) ?_); (repeat (go_big_quiet_step ((go_at_call 23; exact Calls.ext (less_w _ _ _ _ _ _ _ _ _ _ _ xs _ _ _ _ _ _ _ _ _ _ _ _ (((hr'.ext _).alloc _).ext _) hp hp2 ok1 ok2 ok1' ok2' hn1 hn2 ok3 ok4 ok3' ok4'))))); refine wpQuiet_ext ?_; intro xq)
            go_wp2
            go_roundw
            case rel => exact ⟨k + 1, by omega, by go_num, by rw [hs.out], x0.step (by (repeat (first | exact Below.refl _ _ | assumption | refine belowExt ?_ _ | refine belowAlloc ?_ _ | refine Below.drew ?_ | refine below_drewN ?_ _ | refine Below.setCell ?_ (by simp; try omega) _))), rfl⟩
            case measure => simp [intOf]; omega
          · replace hs : Hid (bestT per cap lock xs now cs (k + 1) = k) := by
              have := hs.out
              rw [show lessC per cap xs now ⟨g0, g1, g2, g3, g4⟩ ⟨f0, f1, f2, f3, f4⟩ = true from hls, if_pos rfl] at this
              exact this
            go_wp2_with (first | (go_at_call 31; (first | (with_reducible refine (Calls.ext (locked_w _ _ _ _ _ _ _ _ _ _ _ xs _ _ _ _ _ _ _ ((hr'.ext _).alloc _) hn1 hn2 ok5 ok6)).mono ?_) | (with_reducible refine (Calls.extD (locked_w _ _ _ _ _ _ _ _ _ _ _ xs _ _ _ _ _ _ _ ((hr'.ext _).alloc _) hn1 hn2 ok5 ok6)).mono ?_) | (with_reducible refine (Calls.ext0 (locked_w _ _ _ _ _ _ _ _ _ _ _ xs _ _ _ _ _ _ _ ((hr'.ext _).alloc _) hn1 hn2 ok5 ok6)).mono ?_)); rintro e w' ⟨rfl, x, rfl⟩))
            ((first | refine wp_region_ext_lit2 (by kernel_rfl) (by kernel_rfl) ?_ | refine wp_region_ext_lit (by kernel_rfl) (by kernel_rfl) ?_); (repeat (go_big_quiet_step ((go_at_call 23; exact Calls.ext (less_w _ _ _ _ _ _ _ _ _ _ _ xs _ _ _ _ _ _ _ _ _ _ _ _ (((hr'.ext _).alloc _).ext _) hp hp2 ok1 ok2 ok1' ok2' hn1 hn2 ok3 ok4 ok3' ok4'))))); refine wpQuiet_ext ?_; intro xq)
            go_wp2
            go_roundw
            case rel => exact ⟨k + 1, by omega, by go_num, by rw [hs.out], x0.step (by (repeat (first | exact Below.refl _ _ | assumption | refine belowExt ?_ _ | refine belowAlloc ?_ _ | refine Below.drew ?_ | refine below_drewN ?_ _ | refine Below.setCell ?_ (by simp; try omega) _))), rfl⟩
            case measure => simp [intOf]; omega
      · replace hs : Hid (bestT per cap lock xs now cs (k + 1) = q) := by
          have := hs.out
          rw [show lockC lock xs now ⟨g0, g1, g2, g3, g4⟩ = true from hlk, if_pos rfl] at this
          exact this
        go_wp2_with (first | (go_at_call 31; (first | (with_reducible refine (Calls.ext (locked_w _ _ _ _ _ _ _ _ _ _ _ xs _ _ _ _ _ _ _ ((hr'.ext _).alloc _) hn1 hn2 ok5 ok6)).mono ?_) | (with_reducible refine (Calls.extD (locked_w _ _ _ _ _ _ _ _ _ _ _ xs _ _ _ _ _ _ _ ((hr'.ext _).alloc _) hn1 hn2 ok5 ok6)).mono ?_) | (with_reducible refine (Calls.ext0 (locked_w _ _ _ _ _ _ _ _ _ _ _ xs _ _ _ _ _ _ _ ((hr'.ext _).alloc _) hn1 hn2 ok5 ok6)).mono ?_)); rintro e w' ⟨rfl, x, rfl⟩))
        go_roundw
        case rel => exact ⟨k + 1, by omega, by go_num, by rw [hs.out], x0.step (by (repeat (first | exact Below.refl _ _ | assumption | refine belowExt ?_ _ | refine belowAlloc ?_ _ | refine Below.drew ?_ | refine below_drewN ?_ _ | refine Below.setCell ?_ (by simp; try omega) _))), rfl⟩
        case measure => simp [intOf]; omega
    · have hkm' : k = m := by omega
      have hs : Hid (bestT per cap lock xs now cs k = bestF per cap lock xs now cs) := by
        unfold bestF
        rw [hl'.out, hkm']
        exact rfl
      clear hkm'
      go_wp2
      go_ret
      exact ⟨ret_int hs.out, by (repeat (first | exact Below.refl _ _ | assumption | refine belowExt ?_ _ | refine belowAlloc ?_ _ | refine Below.drew ?_ | refine below_drewN ?_ _ | refine Below.setCell ?_ (by simp; try omega) _))⟩
end Go.Proofs.Ytlabfbpnkjigoaa
