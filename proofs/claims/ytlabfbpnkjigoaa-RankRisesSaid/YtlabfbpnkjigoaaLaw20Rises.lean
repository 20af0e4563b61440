/- law20.RankRises. -/
import Derived.Test.YtlabfbpnkjigoaaLaw20B
namespace Go.Proofs.Ytlabfbpnkjigoaa
open Go.RowKit

theorem level_mono (per cap : Int) (xs : List Int) (a b ph k si : Int) (hp : 1 ≤ per) (h : a ≤ b) : levelF per cap xs a ph k si ≤ levelF per cap xs b ph k si := by
  unfold levelF
  have : (a - startF xs ph si) / per ≤ (b - startF xs ph si) / per := Int.ediv_le_ediv (by omega) (by omega)
  omega
theorem level_cap (per cap : Int) (xs : List Int) (a ph k si : Int) (hp : 1 ≤ per) (hk : 0 ≤ k) (h : cap * per ≤ a - startF xs ph si) : levelF per cap xs a ph k si = cap := by
  unfold levelF
  have : cap ≤ (a - startF xs ph si) / per := (Int.le_ediv_iff_mul_le (by omega)).2 h
  omega
theorem level_le (per cap : Int) (xs : List Int) (a ph k si : Int) : levelF per cap xs a ph k si ≤ cap := by unfold levelF; omega
theorem less_start (per cap : Int) (xs : List Int) (now : Int) (a b : Cl) (ha : emF a.k = false) (hb : emF b.k = false) (hl : levelF per cap xs now a.ph a.k a.si = cap) (h : lessC per cap xs now b a = true) : startF xs b.ph b.si ≤ startF xs a.ph a.si := by
  have h1 := (less_lex ..).1 h
  have h2 := level_le per cap xs now b.ph b.k b.si
  unfold lexLt key1 key2 key3 at h1
  rw [ha, hb] at h1
  simp only [Bool.false_eq_true, if_false] at h1
  omega

set_option maxRecDepth 10000 in
set_option maxHeartbeats 8000000 in
theorem rankRises_w (A : Option Addr) (n c : Nat) (xs : List Int) (now0 wait0 : Int) (w : World) (h : LIn w A n c xs) :
    Calls Try.prog 6 #[.slice A n c, .int .i64 now0, .int .i64 wait0] w fun e w' => e = .returned (.bool true) ∧ Below w.heap.size w w' := by
  have hm := Int.emod_nonneg now0 (show (60 : Int) ≠ 0 by omega)
  have hm2 := Int.emod_lt_of_pos now0 (show (0 : Int) < 60 by omega)
  have hw := Int.emod_nonneg wait0 (show (40 : Int) ≠ 0 by omega)
  have hw2 := Int.emod_lt_of_pos wait0 (show (0 : Int) < 40 by omega)
  have hN := set_bd xs
  have hM := setM_le xs
  go_enter Try.func6, Try.ntmps6
  go_wp2_with (first | (go_at_call 16; (first | (with_reducible refine (Calls.ext (mod_w _ _ _ (by omega) (by omega))).mono ?_) | (with_reducible refine (Calls.extD (mod_w _ _ _ (by omega) (by omega))).mono ?_) | (with_reducible refine (Calls.ext0 (mod_w _ _ _ (by omega) (by omega))).mono ?_)); rintro e w' ⟨rfl, x, rfl⟩))
  generalize now0 % 60 = now at *
  refine (setting_r A n c xs now _ (h.below x.below) hm (by omega)).mono ?_
  rintro e w1 ⟨A1, c1, A2, c2, rfl, hr, hc, hb1⟩
  have hok := fun k hk => set_ok xs now k hk hm (by omega)
  have hk0 : ∀ i, i < setM xs → 0 ≤ (atC (setClaims xs now) i).k := by
    intro i hi
    obtain ⟨q, j, e⟩ := setClaims_at xs now i hi
    rw [e]
    exact (claim_bd _ _ _ _ (by omega) hm).2.2.1
  have hbx : Below w.heap.size w w1 := x.below.trans (hb1.mono x.below.size)
  have HBX := Lib.hid hbx
  clear hbx hb1
  generalize setEnds xs now = es at *
  generalize setClaims xs now = cs at *
  generalize setM xs = m at *
  generalize (setN xs).toNat = nn at *
  generalize setPer xs = per at *
  generalize setCap xs = cap at *
  generalize setLock xs = lock at *
  generalize setHold xs = hold at *
  generalize setP xs = sp at *
  generalize setG xs = sg at *
  have HOK := Lib.hid hok
  have HK0 := Lib.hid hk0
  clear hok hk0 h
  go_wp2_with (first | (go_at_call 16; (first | (with_reducible refine (Calls.ext (mod_w _ _ _ (by omega) (by omega))).mono ?_) | (with_reducible refine (Calls.extD (mod_w _ _ _ (by omega) (by omega))).mono ?_) | (with_reducible refine (Calls.ext0 (mod_w _ _ _ (by omega) (by omega))).mono ?_)); rintro e w' ⟨rfl, x, rfl⟩))
  generalize wait0 % 40 = wt at *
  obtain ⟨later, hlater⟩ : ∃ later, later = now + wt := ⟨_, rfl⟩
  rw [← hlater]
  have hl1 : now ≤ later := by omega
  have hl2 : later ≤ 100 := by omega
  clear hlater
  have hcp : 0 ≤ cap * per := Int.mul_nonneg (by omega) (by omega)
  have hcp2 : cap * per ≤ 25 := by
    have := Int.mul_le_mul (show cap ≤ 5 by omega) (show per ≤ 5 by omega) (by omega) (by omega)
    omega
  have hr2 := (hr.alloc (.cells #[.slice none 0 0, .slice none 0 0, .int .i64 per, .int .i64 cap, .int .i64 hold, .int .i64 lock] 26)).alloc (.cells #[.int .i64 sp, .int .i64 sg, .slice A1 nn c1] 46)
  have hc2 := (hc.alloc (.cells #[.slice none 0 0, .slice none 0 0, .int .i64 per, .int .i64 cap, .int .i64 hold, .int .i64 lock] 26)).alloc (.cells #[.int .i64 sp, .int .i64 sg, .slice A1 nn c1] 46)
  have HC2 := Lib.hid hc2
  clear hr hc hc2
  go_loopw [32] (fun i wr => ∃ k : Nat, k ≤ m ∧ i = .int .i64 k ∧ ∃ x : Ext ((w1.alloc (.cells #[.slice none 0 0, .slice none 0 0, .int .i64 per, .int .i64 cap, .int .i64 hold, .int .i64 lock] 26)).alloc (.cells #[.int .i64 sp, .int .i64 sg, .slice A1 nn c1] 46)), wr = x.world) (fun i _ => m - (intOf i).toNat)
  case atStart => exact ⟨0, Nat.zero_le _, rfl, _, rfl⟩
  case round =>
    obtain ⟨k, hk, rfl, x0, rfl⟩ := hrel
    by_cases hkm : k < m
    · obtain ⟨_, _, _, hcellA⟩ := HC2.out
      obtain ⟨b, o, rfl, hblt, hcell⟩ := hcellA (by omega)
      clear hcellA
      have HCELL := Lib.hid hcell
      obtain ⟨c0, c1', c2', c3', c4'⟩ := hcell k hkm
      clear hcell
      obtain ⟨ok1, ok2, ok3, ok4, ok5, ok6⟩ := HOK.out k hkm
      have hkk := HK0.out k hkm
      have hz := x0.size_
      simp at hz hblt
      (have : w1.heap.size < x0.world.heap.size := by omega); (have : w1.heap.size ≤ x0.world.heap.size := by omega)
      (have : w1.heap.size + 1 < x0.world.heap.size := by omega); (have : w1.heap.size + 1 ≤ x0.world.heap.size := by omega)
      (have : b < x0.world.heap.size := by omega); (have : b ≤ x0.world.heap.size := by omega)
      obtain ⟨ca, hca⟩ : ∃ ca, ca = atC cs k := ⟨_, rfl⟩
      rw [← hca] at c0 c1' c2' c3' c4' ok1 ok2 ok3 ok4 ok5 ok6 hkk
      clear hca
      obtain ⟨f0, f1, f2, f3, f4⟩ := ca
      dsimp only at c0 c1' c2' c3' c4' ok1 ok2 ok3 ok4 ok5 ok6 hkk
      obtain ⟨va, ha⟩ : ∃ va, emF f3 = va := ⟨_, rfl⟩
      have HA := Lib.hid ha
      clear ha
      cases va
      · obtain ⟨lx, hlx⟩ : ∃ l, levelF per cap es now f2 f3 f4 = l := ⟨_, rfl⟩
        obtain ⟨ly, hly⟩ : ∃ l, levelF per cap es later f2 f3 f4 = l := ⟨_, rfl⟩
        have h1 : lx ≤ ly := by rw [← hlx, ← hly]; exact level_mono per cap es now later f2 f3 f4 (by omega) hl1
        have h2 : ly ≤ cap := by rw [← hly]; exact level_le ..
        have hcap : Hid (cap * per ≤ later - startF es f2 f4 → ly = cap) := fun e => by rw [← hly]; exact level_cap per cap es later f2 f3 f4 (by omega) hkk e
        have HLX := Lib.hid hlx
        have HLY := Lib.hid hly
        clear hlx hly
        have d1 : decide (ly < lx) = false := by simp <;> omega
        go_wp2_with (first | (go_at_call 24; (first | (with_reducible refine (Calls.ext (Calls.bool_is (emergency_w _ _ _ _ _ _) HA.out)).mono ?_) | (with_reducible refine (Calls.extD (Calls.bool_is (emergency_w _ _ _ _ _ _) HA.out)).mono ?_) | (with_reducible refine (Calls.ext0 (Calls.bool_is (emergency_w _ _ _ _ _ _) HA.out)).mono ?_)); rintro e w' ⟨rfl, x, rfl⟩))
        ((first | refine wp_region_ext_lit2 (by kernel_rfl) (by kernel_rfl) ?_ | refine wp_region_ext_lit (by kernel_rfl) (by kernel_rfl) ?_); (iterate 5 (go_big_quiet_step ((go_at_call 26; with_reducible exact Calls.ext (Calls.int_is (level_w _ _ per _ _ _ _ _ _ _ _ es _ _ f2 f3 f4 now _ (by repeat (first | with_reducible assumption | with_reducible refine RdI.ext ?_ _ | with_reducible refine RdC.ext ?_ _ | with_reducible refine RdI.alloc ?_ _ | with_reducible refine RdC.alloc ?_ _ | with_reducible refine RdI.drew ?_)) (by omega) (by omega) ok1 ok2 (by omega) (by omega) ok3 ok4) HLX.out))))); (repeat (go_big_quiet_step ((go_at_call 26; with_reducible exact Calls.ext (Calls.int_is (level_w _ _ per _ _ _ _ _ _ _ _ es _ _ f2 f3 f4 later _ (by repeat (first | with_reducible assumption | with_reducible refine RdI.ext ?_ _ | with_reducible refine RdC.ext ?_ _ | with_reducible refine RdI.alloc ?_ _ | with_reducible refine RdC.alloc ?_ _ | with_reducible refine RdI.drew ?_)) (by omega) (by omega) ok1 ok2 (by omega) (by omega) ok3 ok4) HLY.out))))); refine wpQuiet_ext ?_; intro xq)
        obtain ⟨ss, hss⟩ : ∃ s, startF es f2 f4 = s := ⟨_, rfl⟩
        have HSS := Lib.hid hss
        by_cases hge : cap * per ≤ later - ss
        · have hyc : ly = cap := hcap.out (by rw [hss]; exact hge)
          have hlc : Hid (levelF per cap es later f2 f3 f4 = cap) := HLY.out.trans hyc
          have d2 : decide (later - ss < cap * per) = false := by simp; omega
          subst hyc
          clear hcap hss HLY HLX
          rw [HSS.out] at ok3 ok4
          go_wp2
          ((first | refine wp_region_ext_lit2 (by kernel_rfl) (by kernel_rfl) ?_ | refine wp_region_ext_lit (by kernel_rfl) (by kernel_rfl) ?_); (repeat (go_big_quiet_step ((go_at_call 27; with_reducible exact Calls.ext (Calls.int_is (start_w _ _ _ _ _ es _ _ _ _ _ _ (by repeat (first | with_reducible assumption | with_reducible refine RdI.ext ?_ _ | with_reducible refine RdC.ext ?_ _ | with_reducible refine RdI.alloc ?_ _ | with_reducible refine RdC.alloc ?_ _ | with_reducible refine RdI.drew ?_))) HSS.out))))); refine wpQuiet_ext ?_; intro xq)
          go_wp2
          rw [← HSS.out] at ok3 ok4
          go_loopw [74] (fun i wr => ∃ j : Nat, j ≤ m ∧ i = .int .i64 j ∧ ∃ x : Ext (x0.world.alloc (.cells #[.int .i64 f0, .int .i64 f1, .int .i64 f2, .int .i64 f3, .int .i64 f4] 51)), wr = x.world) (fun i _ => m - (intOf i).toNat)
          case atStart => exact ⟨0, Nat.zero_le _, rfl, _, rfl⟩
          case round =>
            obtain ⟨j, hj, rfl, y0, rfl⟩ := hrel
            by_cases hjm : j < m
            · obtain ⟨e0, e1, e2, e3, e4⟩ := HCELL.out j hjm
              obtain ⟨pk1, pk2, pk3, pk4, pk5, pk6⟩ := HOK.out j hjm
              have hy := y0.size_
              simp at hy
              (have : w1.heap.size < y0.world.heap.size := by omega); (have : w1.heap.size ≤ y0.world.heap.size := by omega)
              (have : w1.heap.size + 1 < y0.world.heap.size := by omega); (have : w1.heap.size + 1 ≤ y0.world.heap.size := by omega)
              (have : b < y0.world.heap.size := by omega); (have : b ≤ y0.world.heap.size := by omega)
              (have : x0.world.heap.size < y0.world.heap.size := by omega); (have : x0.world.heap.size ≤ y0.world.heap.size := by omega)
              obtain ⟨cb, hcb⟩ : ∃ cb, cb = atC cs j := ⟨_, rfl⟩
              rw [← hcb] at e0 e1 e2 e3 e4 pk1 pk2 pk3 pk4 pk5 pk6
              clear hcb
              obtain ⟨g0, g1, g2, g3, g4⟩ := cb
              dsimp only at e0 e1 e2 e3 e4 pk1 pk2 pk3 pk4 pk5 pk6
              have hst := Lib.hid (fun (e1 : emF g3 = false) (e2 : lessC per ly es later ⟨g0, g1, g2, g3, g4⟩ ⟨f0, f1, f2, f3, f4⟩ = true) => less_start per ly es later ⟨f0, f1, f2, f3, f4⟩ ⟨g0, g1, g2, g3, g4⟩ HA.out e1 hlc.out e2)
              obtain ⟨vl, hvl⟩ : ∃ v, lessF per ly es later g0 g1 g2 g3 g4 f0 f1 f2 f3 f4 = v := ⟨_, rfl⟩
              obtain ⟨vb, hvb⟩ : ∃ v, emF g3 = v := ⟨_, rfl⟩
              obtain ⟨sb, hsb⟩ : ∃ s, startF es g2 g4 = s := ⟨_, rfl⟩
              have facts : Hid (vb = false → vl = true → decide (ss < sb) = false) := by
                intro e1 e2
                have h3 := hst.out (hvb.trans e1) (hvl.trans e2)
                have h4 := HSS.out
                dsimp only at h3
                simp
                omega
              have HL := Lib.hid hvl
              have HB := Lib.hid hvb
              have HSB := Lib.hid hsb
              clear hst hvl hvb hsb
              have F := facts.out
              clear facts
              cases vb
              · cases vl
                · clear F
                  go_wp2
                  ((first | refine wp_region_ext_lit2 (by kernel_rfl) (by kernel_rfl) ?_ | refine wp_region_ext_lit (by kernel_rfl) (by kernel_rfl) ?_); (repeat (go_big_quiet_step ((first | (go_at_call 24; with_reducible exact Calls.ext (Calls.bool_is (emergency_w _ _ _ _ _ _) HB.out)) | (go_at_call 23; with_reducible exact Calls.ext (Calls.bool_is (less_w _ _ _ _ _ _ _ _ _ _ _ es _ g0 g1 _ _ _ f0 f1 _ _ _ _ (by repeat (first | with_reducible assumption | with_reducible refine RdI.ext ?_ _ | with_reducible refine RdC.ext ?_ _ | with_reducible refine RdI.alloc ?_ _ | with_reducible refine RdC.alloc ?_ _ | with_reducible refine RdI.drew ?_)) (by omega) (by omega) pk1 pk2 ok1 ok2 (by omega) (by omega) pk3 pk4 ok3 ok4) HL.out)))))); refine wpQuiet_ext ?_; intro xq)
                  go_wp2
                  go_roundw
                  case rel => exact ⟨j + 1, by omega, by go_num, y0.step (by (repeat (first | with_reducible exact Below.refl _ _ | with_reducible assumption | with_reducible refine belowExt ?_ _ | with_reducible refine belowAlloc ?_ _ | with_reducible refine Below.drew ?_ | with_reducible refine below_drewN ?_ _ | with_reducible refine Below.setCell ?_ (by simp; try omega) _))), rfl⟩
                  case measure => simp [intOf]; omega
                · have d3 := F rfl rfl
                  clear F
                  go_wp2
                  ((first | refine wp_region_ext_lit2 (by kernel_rfl) (by kernel_rfl) ?_ | refine wp_region_ext_lit (by kernel_rfl) (by kernel_rfl) ?_); (iterate 15 (go_big_quiet_step ((first | (go_at_call 24; with_reducible exact Calls.ext (Calls.bool_is (emergency_w _ _ _ _ _ _) HB.out)) | (go_at_call 23; with_reducible exact Calls.ext (Calls.bool_is (less_w _ _ _ _ _ _ _ _ _ _ _ es _ g0 g1 _ _ _ f0 f1 _ _ _ _ (by repeat (first | with_reducible assumption | with_reducible refine RdI.ext ?_ _ | with_reducible refine RdC.ext ?_ _ | with_reducible refine RdI.alloc ?_ _ | with_reducible refine RdC.alloc ?_ _ | with_reducible refine RdI.drew ?_)) (by omega) (by omega) pk1 pk2 ok1 ok2 (by omega) (by omega) pk3 pk4 ok3 ok4) HL.out)) | (go_at_call 27; with_reducible exact Calls.ext (Calls.int_is (start_w _ _ _ _ _ es g0 _ g2 g3 g4 _ (by repeat (first | with_reducible assumption | with_reducible refine RdI.ext ?_ _ | with_reducible refine RdC.ext ?_ _ | with_reducible refine RdI.alloc ?_ _ | with_reducible refine RdC.alloc ?_ _ | with_reducible refine RdI.drew ?_))) HSB.out)))))); (repeat (go_big_quiet_step ((go_at_call 27; with_reducible exact Calls.ext (Calls.int_is (start_w _ _ _ _ _ es f0 _ f2 f3 f4 _ (by repeat (first | with_reducible assumption | with_reducible refine RdI.ext ?_ _ | with_reducible refine RdC.ext ?_ _ | with_reducible refine RdI.alloc ?_ _ | with_reducible refine RdC.alloc ?_ _ | with_reducible refine RdI.drew ?_))) HSS.out))))); refine wpQuiet_ext ?_; intro xq)
                  go_wp2
                  go_roundw
                  case rel => exact ⟨j + 1, by omega, by go_num, y0.step (by (repeat (first | with_reducible exact Below.refl _ _ | with_reducible assumption | with_reducible refine belowExt ?_ _ | with_reducible refine belowAlloc ?_ _ | with_reducible refine Below.drew ?_ | with_reducible refine below_drewN ?_ _ | with_reducible refine Below.setCell ?_ (by simp; try omega) _))), rfl⟩
                  case measure => simp [intOf]; omega
              · clear F
                go_wp2
                ((first | refine wp_region_ext_lit2 (by kernel_rfl) (by kernel_rfl) ?_ | refine wp_region_ext_lit (by kernel_rfl) (by kernel_rfl) ?_); (repeat (go_big_quiet_step ((go_at_call 24; with_reducible exact Calls.ext (Calls.bool_is (emergency_w _ _ _ _ _ _) HB.out))))); refine wpQuiet_ext ?_; intro xq)
                go_wp2
                go_roundw
                case rel => exact ⟨j + 1, by omega, by go_num, y0.step (by (repeat (first | with_reducible exact Below.refl _ _ | with_reducible assumption | with_reducible refine belowExt ?_ _ | with_reducible refine belowAlloc ?_ _ | with_reducible refine Below.drew ?_ | with_reducible refine below_drewN ?_ _ | with_reducible refine Below.setCell ?_ (by simp; try omega) _))), rfl⟩
                case measure => simp [intOf]; omega
            · go_wp2
              go_roundw
              case rel => exact ⟨k + 1, by omega, by go_num, x0.step (by (repeat (first | with_reducible exact Below.refl _ _ | with_reducible assumption | with_reducible refine belowExt ?_ _ | with_reducible refine belowAlloc ?_ _ | with_reducible refine Below.drew ?_ | with_reducible refine below_drewN ?_ _ | with_reducible refine Below.setCell ?_ (by simp; try omega) _))), rfl⟩
              case measure => simp [intOf]; omega
        · have d2 : decide (later - ss < cap * per) = true := by simp; omega
          clear hcap hss HLY HLX
          rw [HSS.out] at ok3 ok4
          go_wp2
          ((first | refine wp_region_ext_lit2 (by kernel_rfl) (by kernel_rfl) ?_ | refine wp_region_ext_lit (by kernel_rfl) (by kernel_rfl) ?_); (repeat (go_big_quiet_step ((go_at_call 27; with_reducible exact Calls.ext (Calls.int_is (start_w _ _ _ _ _ es _ _ _ _ _ _ (by repeat (first | with_reducible assumption | with_reducible refine RdI.ext ?_ _ | with_reducible refine RdC.ext ?_ _ | with_reducible refine RdI.alloc ?_ _ | with_reducible refine RdC.alloc ?_ _ | with_reducible refine RdI.drew ?_))) HSS.out))))); refine wpQuiet_ext ?_; intro xq)
          go_wp2
          go_roundw
          case rel => exact ⟨k + 1, by omega, by go_num, x0.step (by (repeat (first | with_reducible exact Below.refl _ _ | with_reducible assumption | with_reducible refine belowExt ?_ _ | with_reducible refine belowAlloc ?_ _ | with_reducible refine Below.drew ?_ | with_reducible refine below_drewN ?_ _ | with_reducible refine Below.setCell ?_ (by simp; try omega) _))), rfl⟩
          case measure => simp [intOf]; omega
      · go_wp2_with (first | (go_at_call 24; (first | (with_reducible refine (Calls.ext (Calls.bool_is (emergency_w _ _ _ _ _ _) HA.out)).mono ?_) | (with_reducible refine (Calls.extD (Calls.bool_is (emergency_w _ _ _ _ _ _) HA.out)).mono ?_) | (with_reducible refine (Calls.ext0 (Calls.bool_is (emergency_w _ _ _ _ _ _) HA.out)).mono ?_)); rintro e w' ⟨rfl, x, rfl⟩))
        go_roundw
        case rel => exact ⟨k + 1, by omega, by go_num, x0.step (by (repeat (first | with_reducible exact Below.refl _ _ | with_reducible assumption | with_reducible refine belowExt ?_ _ | with_reducible refine belowAlloc ?_ _ | with_reducible refine Below.drew ?_ | with_reducible refine below_drewN ?_ _ | with_reducible refine Below.setCell ?_ (by simp; try omega) _))), rfl⟩
        case measure => simp [intOf]; omega
    · go_wp2_with (first | (go_at_call 25; (first | (with_reducible refine (Calls.ext (awake20_w _)).mono ?_) | (with_reducible refine (Calls.extD (awake20_w _)).mono ?_) | (with_reducible refine (Calls.ext0 (awake20_w _)).mono ?_)); rintro e w' ⟨rfl, x, rfl⟩))
      go_ret
      exact ⟨rfl, HBX.out.trans ((by (repeat (first | with_reducible exact Below.refl _ _ | with_reducible assumption | with_reducible refine belowExt ?_ _ | with_reducible refine belowAlloc ?_ _ | with_reducible refine Below.drew ?_ | with_reducible refine below_drewN ?_ _ | with_reducible refine Below.setCell ?_ (by simp; try omega) _)) : Below w1.heap.size w1 _).mono HBX.out.size)⟩
end Go.Proofs.Ytlabfbpnkjigoaa
