
/- law17: registered registries, their messages. -/
import Derived.Test.YtjbldhhgooihfaaGreatRgN
import Derived.Test.YtjbldhhgooihfaaGreatLUnits
namespace Go.Proofs.YtjbldhhgooihfaaGreat
namespace Av
set_option linter.unusedSimpArgs false
set_option linter.unusedVariables false
set_option maxRecDepth 4000
set_option maxHeartbeats 1000000
theorem getD_mem2 {α : Type} [Inhabited α] (l : List α) (i : Nat) (hi : i < l.length) : l.getD i default ∈ l := by
  simp [List.getD, hi]
/-- What registered hands out. -/
structure RgS (r : Rg) : Prop where
  n : 0 ≤ r.num ∧ r.num < 3
  a : AgV r.ag
  y : BY r.ag.sec
  t : TkP r.tk
  v : r.vh.length ≤ 8
  vv : vvF r.vh = true
  l : 0 ≤ r.bk.level ∧ r.bk.level ≤ r.bk.burst
  ra : r.bk.rate = r.ag.rate
  bu : r.bk.burst = r.ag.burst
theorem RgS.b' {r : Rg} (h : RgS r) : RgB r := ⟨h.t.b, by have := h.a.s; omega, by have := h.a.l; omega, by have := h.v; omega⟩
def rts (q : Int) : Int := if q = 2 then 15 else if q = 3 then 2 else 63
theorem rts_at (q : Int) (h : 0 ≤ q ∧ q < 4) : ([AV.s (.int .i64 63), AV.s (.int .i64 63), AV.s (.int .i64 15), AV.s (.int .i64 2)] : List AV)[q.toNat]? = some (AV.s (.int .i64 (rts q))) := by
  have : q = 0 ∨ q = 1 ∨ q = 2 ∨ q = 3 := by omega
  rcases this with rfl | rfl | rfl | rfl <;> rfl
theorem registered_ex (d : Dk) : ∃ (r : Rg) (d' : Dk), RgS r ∧ rem d' ≤ rem d ∧ CallSim Tryz.prog 7 [.ptr 1000 0 0] [(1000, dkE d)] (rgA r) [(1000, dkE d')] := by
  have n1 := next_c d 3 (by omega) (by omega)
  have w1 := nx_bd d 3 (by omega)
  have n2 := next_c (ad d) 4 (by omega) (by omega)
  have w2 := nx_bd (ad d) 4 (by omega)
  have hy := rts_at _ w2
  have hl4 : ([AV.s (.int .i64 63), AV.s (.int .i64 63), AV.s (.int .i64 15), AV.s (.int .i64 2)] : List AV).length = 4 := rfl
  have hr : 0 ≤ rts (nx (ad d) 4) ∧ rts (nx (ad d) 4) ≤ 63 := by
    unfold rts; split
    · omega
    · split <;> omega
  have r1 := rem_ad d
  have r2 := rem_ad (ad d)
  generalize rts (nx (ad d) 4) = ri at *
  generalize nx (ad d) 4 = x2 at *
  generalize nx d 3 = x1 at *
  generalize ad d = d1 at *
  generalize ad d1 = d2 at *
  have ca := agency_c d2 x1 ri (by omega) (by omega)
  have hv := agV_agF d2 x1 ri hr
  have hby : BY (agF d2 x1 ri).sec := secF_by _
  have hrd : rem (ad (ad7 d2)) ≤ rem d2 := by
    have r1 := rem_ad d2
    have r2 := rem_ad (ad d2)
    have r3 := rem_ad (ad (ad d2))
    have r4 := rem_ad (ad (ad (ad d2)))
    have r5 := rem_ad (ad (ad (ad (ad d2))))
    have r6 := rem_ad (ad (ad (ad (ad (ad d2)))))
    have r7 := rem_ad (ad (ad (ad (ad (ad (ad d2))))))
    have r8 := rem_ad (ad7 d2)
    unfold ad7 at *
    omega
  have hcl : (agF d2 x1 ri).cls = 3 := rfl
  generalize agF d2 x1 ri = a at *
  generalize ad (ad7 d2) = d3 at *
  have n3 := next_c d3 3 (by omega) (by omega)
  have w3 := nx_bd d3 3 (by omega)
  have r3 := rem_ad d3
  generalize nx d3 3 = x3 at *
  generalize ad d3 = d4 at *
  have cn := gnew2_c x3 a (by have := hv.s; omega) (by have := hv.l; omega)
  obtain ⟨tk, d5, ht, r5, ct⟩ := tokens_ex a d4 hv hby
  obtain ⟨vh, d6, hvh, r6, cv⟩ := vehicles_ex a ⟨hv.l, by omega, by omega⟩ d5
  have hb := hv.b
  have n7 := next_c d6 (a.burst + 1) (by omega) (by omega)
  have w7 := nx_bd d6 (a.burst + 1) (by omega)
  have r7 := rem_ad d6
  generalize nx d6 (a.burst + 1) = lv at *
  generalize ad d6 = d7 at *
  refine ⟨⟨x3, a, tk, vh, ⟨lv, a.rate, a.burst⟩⟩, d7, ⟨w3, hv, hby, ht, hvh.1, hvh.2, (by dsimp only; omega), rfl, rfl⟩, by omega, ?_⟩
  clear hv hby ht
  generalize tkN a = tk0 at *
  (refine callSim_of tok Tryz.func7 rfl (fun args w => Tryz.call7 args w) rfl rfl rfl (fun F hF => ?_))
  (have zc1 := n1; have zc2 := n2; have zc3 := ca; have zc4 := n3; have zc5 := cn; have zc6 := ct; have zc7 := cv; have zc8 := n7; refine WW ?_; clear zc1 zc2 zc3 zc4 zc5 zc6 zc7 zc8)
  exact fin_ret [1000] rfl rfl rfl rfl
theorem message17_exL (r : Rg) (hr : RgS r) (d : Dk) : ∃ (m : Ms) (d' : Dk), BY m.tok ∧ (1 ≤ m.kind ∧ m.kind ≤ 12) ∧ LBm m ∧ rem d' ≤ rem d ∧ CallSim Tryz.prog 8 [.ptr 1000 0 0, rgA r] [(1000, dkE d)] (msA m) [(1000, dkE d')] := by
  have hn := hr.n
  have ht := hr.t
  obtain ⟨m, d1, hm, hk, hL, r1, cm⟩ := message_exL r.num (by omega) d
  have n2 := next_c d1 8 (by omega) (by omega)
  have w2 := nx_bd d1 8 (by omega)
  have r2 := rem_ad d1
  have n3 := next_c (ad d1) 3 (by omega) (by omega)
  have w3 := nx_bd (ad d1) 3 (by omega)
  have r3 := rem_ad (ad d1)
  generalize nx (ad d1) 3 = q at *
  generalize nx d1 8 = s at *
  generalize ad d1 = d2 at *
  generalize ad d2 = d3 at *
  have hl : ((r.tk.map tkA).length : Int) = 8 := by rw [List.length_map, ht.n]; rfl
  have hy0 := map_atI tkA r.tk 0 (by omega) (by rw [ht.n]; decide)
  have hys := map_atI tkA r.tk s (by omega) (by rw [ht.n]; omega)
  have hm0 := ht.y (r.tk.getD (0 : Int).toNat default) (getD_mem2 r.tk _ (by rw [ht.n]; decide))
  have hms := ht.y (r.tk.getD s.toNat default) (getD_mem2 r.tk _ (by rw [ht.n]; omega))
  change (r.tk.map tkA)[0]? = _ at hy0
  generalize r.tk.getD (0 : Int).toNat default = t0 at *
  generalize r.tk.getD s.toNat default = ts at *
  have b0 := bytes2_c r.num 0 t0.sec (by omega) (by omega) (by omega) (by omega) (by omega)
  obtain ⟨k, tk0, args, data⟩ := m
  dsimp only at hm hk
  have hL1 : args.length ≤ 1000 := hL.2.1
  have hL2 : data.length ≤ 1000 := hL.2.2
  have y0 : BY (r.num :: 0 :: t0.sec) := by_tok (by omega) (by omega) hm0.1
  clear hr ht
  by_cases hq : q = 2
  · refine ⟨⟨k, r.num :: s :: secF s, args, data⟩, d3, by_tok (by omega) (by omega) (secF_by _), hk, ⟨by simp [secF_len], hL1, hL2⟩, by omega, ?_⟩
    have cs := secret_c s
    have cb := bytes2_c r.num s (secF s) (by rw [secF_len]; omega) (by omega) (by omega) (by omega) (by omega)
    clear y0 hm0 hms
    generalize secF s = se at *
    (refine callSim_of tok Tryz.func8 rfl (fun args w => Tryz.call8 args w) rfl rfl rfl (fun F hF => ?_))
    (have zc1 := cm; have zc2 := n2; have zc3 := b0; have zc4 := n3; have zc5 := cs; have zc6 := cb; refine WW ?_; clear zc1 zc2 zc3 zc4 zc5 zc6)
    exact fin_ret [1000] rfl rfl rfl rfl
  cases hu : ts.used with
  | true =>
    have h8 := (hms.2.2 hu).1
    refine ⟨⟨k, r.num :: s :: ts.sec, args, data⟩, d3, by_tok (by omega) (by omega) hms.1, hk, ⟨by simp; omega, hL1, hL2⟩, by omega, ?_⟩
    have cb := bytes2_c r.num s ts.sec (by omega) (by omega) (by omega) (by omega) (by omega)
    have ets : tkA ts = .agg [bA true, slA yA ts.sec, iA ts.par, iA ts.rights, iA ts.cls, iA ts.til] := by rw [← hu]; rfl
    rw [ets] at hys
    clear y0 hm0 hms
    (refine callSim_of tok Tryz.func8 rfl (fun args w => Tryz.call8 args w) rfl rfl rfl (fun F hF => ?_))
    (have zc1 := cm; have zc2 := n2; have zc3 := b0; have zc4 := n3; have zc5 := cb; refine WW ?_; clear zc1 zc2 zc3 zc4 zc5)
    exact fin_ret [1000] rfl rfl rfl rfl
  | false =>
    refine ⟨⟨k, r.num :: 0 :: t0.sec, args, data⟩, d3, y0, hk, ⟨by simp; omega, hL1, hL2⟩, by omega, ?_⟩
    have ets : tkA ts = .agg [bA false, slA yA ts.sec, iA ts.par, iA ts.rights, iA ts.cls, iA ts.til] := by rw [← hu]; rfl
    rw [ets] at hys
    clear y0 hm0 hms
    (refine callSim_of tok Tryz.func8 rfl (fun args w => Tryz.call8 args w) rfl rfl rfl (fun F hF => ?_))
    (have zc1 := cm; have zc2 := n2; have zc3 := b0; have zc4 := n3; refine WW ?_; clear zc1 zc2 zc3 zc4)
    exact fin_ret [1000] rfl rfl rfl rfl
theorem message17_ex (r : Rg) (hr : RgS r) (d : Dk) : ∃ (m : Ms) (d' : Dk), BY m.tok ∧ (1 ≤ m.kind ∧ m.kind ≤ 12) ∧ rem d' ≤ rem d ∧ CallSim Tryz.prog 8 [.ptr 1000 0 0, rgA r] [(1000, dkE d)] (msA m) [(1000, dkE d')] := by
  obtain ⟨m, d', h1, h2, _, h3, h4⟩ := message17_exL r hr d
  exact ⟨m, d', h1, h2, h3, h4⟩
end Av
end Go.Proofs.YtjbldhhgooihfaaGreat
