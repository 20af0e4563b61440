/- law20.RankBest. -/
import Derived.Test.YtlabfbpnkjigoaaLaw20B
namespace Go.Proofs.Ytlabfbpnkjigoaa
open Go.RowKit

set_option maxHeartbeats 2000000 in
theorem rankBest_w (A : Option Addr) (n c : Nat) (xs : List Int) (now0 : Int) (w : World) (h : LIn w A n c xs) :
    Calls Try.prog 8 #[.slice A n c, .int .i64 now0] w fun e w' => e = .returned (.bool true) ∧ Below w.heap.size w w' := by
  have hm := Int.emod_nonneg now0 (show (60 : Int) ≠ 0 by omega)
  have hm2 := Int.emod_lt_of_pos now0 (show (0 : Int) < 60 by omega)
  have hN := set_bd xs
  have hM := setM_le xs
  go_enter Try.func8, Try.ntmps8
  go_wp2_with (first | (go_at_call 16; (first | (with_reducible refine (Calls.ext (mod_w _ _ _ (by omega) (by omega))).mono ?_) | (with_reducible refine (Calls.extD (mod_w _ _ _ (by omega) (by omega))).mono ?_) | (with_reducible refine (Calls.ext0 (mod_w _ _ _ (by omega) (by omega))).mono ?_)); rintro e w' ⟨rfl, x, rfl⟩))
  generalize now0 % 60 = now at *
  refine (setting_r A n c xs now _ (h.below x.below) hm (by omega)).mono ?_
  rintro e w1 ⟨A1, c1, A2, c2, rfl, hr, hc, hb1⟩
  have hok := fun k hk => set_ok xs now k hk hm (by omega)
  have hlaw := bestT_law (setPer xs) (setCap xs) (setLock xs) (setEnds xs now) now (setClaims xs now) (setM xs)
  have hlt := bestT_lt (setPer xs) (setCap xs) (setLock xs) (setEnds xs now) now (setClaims xs now) (setM xs)
  have hbf : bestF (setPer xs) (setCap xs) (setLock xs) (setEnds xs now) now (setClaims xs now) = bestT (setPer xs) (setCap xs) (setLock xs) (setEnds xs now) now (setClaims xs now) (setM xs) := by
    unfold bestF
    rw [setClaims_len]
  have hbx : Below w.heap.size w w1 := x.below.trans (hb1.mono x.below.size)
  have HBX := Lib.hid hbx
  clear hbx hb1
  generalize setEnds xs now = es at *
  generalize setClaims xs now = cs at *
  generalize setM xs = m at *
  generalize (setN xs).toNat = nn at *
  generalize setPer xs = per at *
  generalize setCap xs = cap at *
  generalize setLock xs = lock at *
  generalize setHold xs = hold at *
  generalize setP xs = sp at *
  generalize setG xs = sg at *
  have HOK := Lib.hid hok
  have HLAW := Lib.hid hlaw
  have HBF := Lib.hid hbf
  clear hok hlaw hbf h
  have hbest := fun (o1 o2 : Obj) => best_w (.slice none 0 0) (.slice none 0 0) per cap hold lock sp sg A1 nn c1 es now A2 m c2 cs ((w1.alloc o1).alloc o2) ((hr.alloc _).alloc _) ((hc.alloc _).alloc _) (by omega) (by omega) (by omega) (by omega) HOK.out
  rw [HBF.out] at hbest
  have HBEST := Lib.hid hbest
  clear hbest
  go_wp2_with (first | (go_at_call 34; refine (Calls.ext0 (HBEST.out _ _)).mono ?_; rintro e w' ⟨rfl, y, rfl⟩))
  have hL2 := HLAW.out
  generalize bestT per cap lock es now cs m = q at *
  obtain ⟨hL1, hL2⟩ := hL2
  have hr2 := (hr.alloc (.cells #[.slice none 0 0, .slice none 0 0, .int .i64 per, .int .i64 cap, .int .i64 hold, .int .i64 lock] 26)).alloc (.cells #[.int .i64 sp, .int .i64 sg, .slice A1 nn c1] 46)
  have hc2 := (hc.alloc (.cells #[.slice none 0 0, .slice none 0 0, .int .i64 per, .int .i64 cap, .int .i64 hold, .int .i64 lock] 26)).alloc (.cells #[.int .i64 sp, .int .i64 sg, .slice A1 nn c1] 46)
  clear HBEST HBF
  by_cases hq : q < 0
  · obtain rfl : q = -1 := by omega
    have d1 : decide ((m : Int) ≤ -1) = false := by simp <;> omega
    have hlock : Hid (∀ i, i < m → lockF lock es now (atC cs i).ph (atC cs i).k = true) := by
      intro i hi
      cases e : lockF lock es now (atC cs i).ph (atC cs i).k with
      | true => rfl
      | false => exact absurd (hL2 i hi e).1 (by omega)
    clear hL1 hL2 HLAW hlt hr hc
    ((first | refine wp_region_ext_lit2 (by kernel_rfl) (by kernel_rfl) ?_ | refine wp_region_ext_lit (by kernel_rfl) (by kernel_rfl) ?_); (repeat (go_big_quiet_step ((fail)))); refine wpQuiet_ext ?_; intro xq)
    revert xq
    intro z
    go_wp2
    go_loopw [49] (fun i wr => ∃ k : Nat, k ≤ m ∧ i = .int .i64 k ∧ ∃ x : Ext ((w1.alloc (.cells #[.slice none 0 0, .slice none 0 0, .int .i64 per, .int .i64 cap, .int .i64 hold, .int .i64 lock] 26)).alloc (.cells #[.int .i64 sp, .int .i64 sg, .slice A1 nn c1] 46)), wr = x.world) (fun i _ => m - (intOf i).toNat)
    case atStart => exact ⟨0, Nat.zero_le _, rfl, z, rfl⟩
    case round =>
      obtain ⟨k, hk, rfl, x0, rfl⟩ := hrel
      by_cases hkm : k < m
      · obtain ⟨_, _, _, hcell⟩ := hc2.ext x0
        obtain ⟨b, o, rfl, hblt, hcell⟩ := hcell (by omega)
        obtain ⟨c0, c1', c2', c3', c4'⟩ := hcell k hkm
        obtain ⟨ok1, ok2, ok3, ok4, ok5, ok6⟩ := HOK.out k hkm
        have hlk := hlock.out k hkm
        have hz := x0.size_
        simp at hz
        have z0 : w1.heap.size < x0.world.heap.size := by omega
        have z1 : w1.heap.size + 1 < x0.world.heap.size := by omega
        have z2 : w1.heap.size ≤ x0.world.heap.size := by omega
        have z3 : w1.heap.size + 1 ≤ x0.world.heap.size := by omega
        have z4 : b ≤ x0.world.heap.size := by omega
        clear hcell hc2
        generalize hck : atC cs k = ck at *
        clear hck
        obtain ⟨g0, g1, g2, g3, g4⟩ := ck
        dsimp only at *
        (go_wp2_with (first | fail); (iterate 1 ((any_goals (try ((first | refine wp_region_ext_lit2 (by kernel_rfl) (by kernel_rfl) ?_ | refine wp_region_ext_lit (by kernel_rfl) (by kernel_rfl) ?_); (repeat (go_big_quiet_step ((first | (go_at_call 31; exact Calls.ext (locked_w _ _ _ _ _ _ _ _ _ _ _ es _ _ _ _ _ _ _ (by repeat (first | with_reducible assumption | with_reducible refine RdI.ext ?_ _ | with_reducible refine RdC.ext ?_ _ | with_reducible refine RdI.alloc ?_ _ | with_reducible refine RdC.alloc ?_ _ | with_reducible refine RdI.drew ?_)) (by omega) (by omega) ok5 ok6)))))); refine wpQuiet_ext ?_; intro xq))); (any_goals (go_wp2_with (first | fail))))))
        go_roundw
        case rel => exact ⟨k + 1, by omega, by go_num, x0.step (by (repeat (first | with_reducible exact Below.refl _ _ | with_reducible assumption | with_reducible refine belowExt ?_ _ | with_reducible refine belowAlloc ?_ _ | with_reducible refine Below.drew ?_ | with_reducible refine below_drewN ?_ _ | with_reducible refine Below.setCell ?_ (by simp; try omega) _))), rfl⟩
        case measure => simp [intOf]; omega
      · go_wp2_with (first | (go_at_call 25; (first | (with_reducible refine (Calls.ext (awake20_w _)).mono ?_) | (with_reducible refine (Calls.extD (awake20_w _)).mono ?_) | (with_reducible refine (Calls.ext0 (awake20_w _)).mono ?_)); rintro e w' ⟨rfl, x, rfl⟩))
        go_ret
        exact ⟨rfl, HBX.out.trans ((by (repeat (first | with_reducible exact Below.refl _ _ | with_reducible assumption | with_reducible refine belowExt ?_ _ | with_reducible refine belowAlloc ?_ _ | with_reducible refine Below.drew ?_ | with_reducible refine below_drewN ?_ _ | with_reducible refine Below.setCell ?_ (by simp; try omega) _)) : Below w1.heap.size w1 _).mono HBX.out.size)⟩
  · obtain ⟨p, rfl⟩ := Int.eq_ofNat_of_zero_le (show 0 ≤ q by omega)
    have hpm : p < m := by omega
    have d1 : decide ((p : Int) < -1) = false := by simp <;> omega
    have d2 : decide ((m : Int) ≤ (p : Int)) = false := by simp <;> omega
    have d3 : decide (m ≤ p) = false := by simp <;> omega
    have d4 : decide ((p : Int) < 0) = false := by simp
    have hlockp : lockF lock es now (atC cs p).ph (atC cs p).k = false := hL1 (by omega)
    have hless : Hid (∀ i, i < m → lockF lock es now (atC cs i).ph (atC cs i).k = false → lessC per cap es now (atC cs i) (atC cs p) = false) := fun i hi e => by simpa using (hL2 i hi e).2
    clear hL1 hL2 HLAW hlt hr hc
    obtain ⟨ok1', ok2', ok3', ok4', ok5', ok6'⟩ := HOK.out p hpm
    have HC2 := Lib.hid hc2
    obtain ⟨_, _, _, hcell2⟩ := hc2
    obtain ⟨b, o, rfl, hblt, hcell2⟩ := hcell2 (by omega)
    obtain ⟨e0, e1, e2, e3, e4⟩ := hcell2 p hpm
    clear hcell2
    simp at hblt
    generalize hcp : atC cs p = cp at *
    have HCP := Lib.hid hcp
    clear hcp
    obtain ⟨f0, f1, f2, f3, f4⟩ := cp
    dsimp only at *
    (go_wp2_with (first | fail); (iterate 1 ((any_goals (try ((first | refine wp_region_ext_lit2 (by kernel_rfl) (by kernel_rfl) ?_ | refine wp_region_ext_lit (by kernel_rfl) (by kernel_rfl) ?_); (repeat (go_big_quiet_step ((first | (go_at_call 31; exact Calls.ext (locked_w _ _ _ _ _ _ _ _ _ _ _ es _ _ _ _ _ _ _ (by repeat (first | with_reducible assumption | with_reducible refine RdI.ext ?_ _ | with_reducible refine RdC.ext ?_ _ | with_reducible refine RdI.alloc ?_ _ | with_reducible refine RdC.alloc ?_ _ | with_reducible refine RdI.drew ?_)) (by omega) (by omega) ok5' ok6')))))); refine wpQuiet_ext ?_; intro xq))); (any_goals (go_wp2_with (first | fail))))))
    go_loopw [49] (fun i wr => ∃ k : Nat, k ≤ m ∧ i = .int .i64 k ∧ ∃ x : Ext ((w1.alloc (.cells #[.slice none 0 0, .slice none 0 0, .int .i64 per, .int .i64 cap, .int .i64 hold, .int .i64 lock] 26)).alloc (.cells #[.int .i64 sp, .int .i64 sg, .slice A1 nn c1] 46)), wr = x.world) (fun i _ => m - (intOf i).toNat)
    case atStart => exact ⟨0, Nat.zero_le _, rfl, xq, rfl⟩
    case round =>
      obtain ⟨k, hk, rfl, x0, rfl⟩ := hrel
      by_cases hkm : k < m
      · obtain ⟨_, _, _, hcellA⟩ := HC2.out
        obtain ⟨b', o', eb, hblt', hcell⟩ := hcellA (by omega)
        clear hcellA
        obtain ⟨rfl, rfl⟩ : b' = b ∧ o' = o := by
          injection eb with eb
          injection eb with e1 e2
          exact ⟨e1.symm, e2.symm⟩
        obtain ⟨c0, c1', c2', c3', c4'⟩ := hcell k hkm
        obtain ⟨ok1, ok2, ok3, ok4, ok5, ok6⟩ := HOK.out k hkm
        have hlsk := hless.out k hkm
        have HLS := Lib.hid hlsk
        have hz := x0.size_
        simp at hz
        have z0 : w1.heap.size < x0.world.heap.size := by omega
        have z1 : w1.heap.size + 1 < x0.world.heap.size := by omega
        have z2 : w1.heap.size ≤ x0.world.heap.size := by omega
        have z3 : w1.heap.size + 1 ≤ x0.world.heap.size := by omega
        have z4 : b' ≤ x0.world.heap.size := by omega
        have z5 : b' < x0.world.heap.size := by omega
        clear hcell hlsk hblt' eb
        generalize hck : atC cs k = ck at *
        clear hck
        obtain ⟨g0, g1, g2, g3, g4⟩ := ck
        dsimp only at *
        cases hlk : lockF lock es now g2 g3
        · have hls : lessF per cap es now g0 g1 g2 g3 g4 f0 f1 f2 f3 f4 = false := HLS.out hlk
          (go_wp2_with (first | fail); (iterate 1 ((any_goals (try ((first | refine wp_region_ext_lit2 (by kernel_rfl) (by kernel_rfl) ?_ | refine wp_region_ext_lit (by kernel_rfl) (by kernel_rfl) ?_); (repeat (go_big_quiet_step ((first | (go_at_call 31; exact Calls.ext (locked_w _ _ _ _ _ _ _ _ _ _ _ es _ _ _ _ _ _ _ (by repeat (first | with_reducible assumption | with_reducible refine RdI.ext ?_ _ | with_reducible refine RdC.ext ?_ _ | with_reducible refine RdI.alloc ?_ _ | with_reducible refine RdC.alloc ?_ _ | with_reducible refine RdI.drew ?_)) (by omega) (by omega) ok5 ok6)) | (go_at_call 23; exact Calls.ext (less_w _ _ _ _ _ _ _ _ _ _ _ es _ _ _ _ _ _ _ _ _ _ _ _ (by repeat (first | with_reducible assumption | with_reducible refine RdI.ext ?_ _ | with_reducible refine RdC.ext ?_ _ | with_reducible refine RdI.alloc ?_ _ | with_reducible refine RdC.alloc ?_ _ | with_reducible refine RdI.drew ?_)) (by omega) (by omega) ok1 ok2 ok1' ok2' (by omega) (by omega) ok3 ok4 ok3' ok4')))))); refine wpQuiet_ext ?_; intro xq))); (any_goals (go_wp2_with (first | fail))))))
          go_roundw
          case rel => exact ⟨k + 1, by omega, by go_num, x0.step (by (repeat (first | with_reducible exact Below.refl _ _ | with_reducible assumption | with_reducible refine belowExt ?_ _ | with_reducible refine belowAlloc ?_ _ | with_reducible refine Below.drew ?_ | with_reducible refine below_drewN ?_ _ | with_reducible refine Below.setCell ?_ (by simp; try omega) _))), rfl⟩
          case measure => simp [intOf]; omega
        · (go_wp2_with (first | fail); (iterate 1 ((any_goals (try ((first | refine wp_region_ext_lit2 (by kernel_rfl) (by kernel_rfl) ?_ | refine wp_region_ext_lit (by kernel_rfl) (by kernel_rfl) ?_); (repeat (go_big_quiet_step ((first | (go_at_call 31; exact Calls.ext (locked_w _ _ _ _ _ _ _ _ _ _ _ es _ _ _ _ _ _ _ (by repeat (first | with_reducible assumption | with_reducible refine RdI.ext ?_ _ | with_reducible refine RdC.ext ?_ _ | with_reducible refine RdI.alloc ?_ _ | with_reducible refine RdC.alloc ?_ _ | with_reducible refine RdI.drew ?_)) (by omega) (by omega) ok5 ok6)))))); refine wpQuiet_ext ?_; intro xq))); (any_goals (go_wp2_with (first | fail))))))
          go_roundw
          case rel => exact ⟨k + 1, by omega, by go_num, x0.step (by (repeat (first | with_reducible exact Below.refl _ _ | with_reducible assumption | with_reducible refine belowExt ?_ _ | with_reducible refine belowAlloc ?_ _ | with_reducible refine Below.drew ?_ | with_reducible refine below_drewN ?_ _ | with_reducible refine Below.setCell ?_ (by simp; try omega) _))), rfl⟩
          case measure => simp [intOf]; omega
      · go_wp2_with (first | (go_at_call 25; (first | (with_reducible refine (Calls.ext (awake20_w _)).mono ?_) | (with_reducible refine (Calls.extD (awake20_w _)).mono ?_) | (with_reducible refine (Calls.ext0 (awake20_w _)).mono ?_)); rintro e w' ⟨rfl, x, rfl⟩))
        go_ret
        exact ⟨rfl, HBX.out.trans ((by (repeat (first | with_reducible exact Below.refl _ _ | with_reducible assumption | with_reducible refine belowExt ?_ _ | with_reducible refine belowAlloc ?_ _ | with_reducible refine Below.drew ?_ | with_reducible refine below_drewN ?_ _ | with_reducible refine Below.setCell ?_ (by simp; try omega) _)) : Below w1.heap.size w1 _).mono HBX.out.size)⟩
end Go.Proofs.Ytlabfbpnkjigoaa
