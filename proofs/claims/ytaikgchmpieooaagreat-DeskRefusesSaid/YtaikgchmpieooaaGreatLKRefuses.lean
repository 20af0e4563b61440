/- law26: DeskRefuses. -/
import Derived.Test.YtaikgchmpieooaaGreatP42
import Derived.Test.YtaikgchmpieooaaGreatP43
namespace Go.Proofs.YtaikgchmpieooaaGreat
namespace Av
set_option linter.unusedSimpArgs false
set_option linter.unusedVariables false
set_option maxRecDepth 4000
set_option maxHeartbeats 4000000
def r7F (q : Int) : Int := if q = 0 then 63 else if q = 1 then 7 else 1
theorem r7_at (q : Int) (h : 0 ≤ q ∧ q < 3) : ([AV.s (.int .i64 63), AV.s (.int .i64 7), AV.s (.int .i64 1)] : List AV)[q.toNat]? = some (AV.s (.int .i64 (r7F q))) := by
 have : q = 0 ∨ q = 1 ∨ q = 2 := by omega
 rcases this with rfl | rfl | rfl <;> rfl
theorem r7_b (q : Int) : 0 ≤ r7F q ∧ r7F q ≤ 63 := by unfold r7F; repeat' split; all_goals omega
def dkB (d : Dsk) (b : Bk) : Dsk := ⟨⟨d.rg.num, d.rg.ag, d.rg.tk, d.rg.vh, b⟩, d.rq, d.dr, d.au⟩
def dskL (x : Dsk) : List AV := [iA x.rg.num, slA yA x.rg.ag.sec, iA x.rg.ag.rights, iA x.rg.ag.cls, slA iA x.rg.ag.lim, iA x.rg.ag.req, iA x.rg.ag.ses, iA x.rg.ag.rate, iA x.rg.ag.burst, slA tkA x.rg.tk, slA vhA x.rg.vh, iA x.rg.bk.level, iA x.rg.bk.rate, iA x.rg.bk.burst, slA rqA x.rq, slA sYA x.dr, slA bA x.au]
theorem rf_desk {c : Cf} {d : Dsk} {s now : Int} {i : It} {h : Hd} (hI : DskI c d) (hP : HdP c d s i now h) (he : h.e ≠ 0) : h.d = dkB d h.d.rg.bk ∧ 0 ≤ d.rg.bk.level - h.d.rg.bk.level ∧ d.rg.bk.level - h.d.rg.bk.level ≤ 1 := by
 obtain ⟨_, _, hd | ⟨a, ho, hd⟩⟩ := hP.no he
 ·rw [hd]; exact ⟨rfl, by omega, by omega⟩
 ·obtain ⟨h1, _, h3, _⟩ := opR_ok ho.2.2.2.2
  rw [hd]
  unfold opD dkR' dkB
  rw [h1]
  refine ⟨rfl, ?_⟩
  dsimp only
  split
  ·rename_i hk
   have := h3 hk
   unfold tak1
   rw [if_neg (by omega)]
   dsimp only
   omega
  ·omega
theorem rf_kind {c : Cf} {d : Dsk} {s now : Int} {i : It} {h : Hd} (hP : HdP c d s i now h) : (h.e = 0 → h.p.kind ≠ 15) ∧ (h.e ≠ 0 → h.k = -1 ∧ h.p = faultM i.kind h.e) := by
 refine ⟨fun he => ?_, fun he => ⟨(hP.no he).1, (hP.no he).2.1⟩⟩
 obtain ⟨a, _, hr⟩ := hP.yes he
 rcases hr with ⟨_, e, _⟩ | ⟨_, e, _⟩ | ⟨_, e, _⟩ | ⟨_, k, sec, hk, hs, e⟩ | ⟨_, x, _, _, e⟩ <;> rw [e] <;> (intro h; cases h)
theorem rf_step {c : Cf} (hw : CfW c) (now : Int) (n0 : 0 ≤ now) (n1 : now ≤ 1073741824) {k : Int} (hk : 0 ≤ k ∧ k < 256) (p : Dsk × Dk) (hI : DskI c p.1) (hn : p.1.rg.num = k) :
  ∃ q : Dsk × Dk, (∃ (i : It) (h : Hd), CallSim Tryz.prog 15 [.ptr 1000 0 0, cfA c, iA k] [(1000, dkE p.2)] (itA i) [(1000, dkE q.2)] ∧ HdBoth c p.1 0 i now h ∧ HdP c p.1 0 i now h ∧ q.1 = h.d) ∧ DskI c q.1 ∧ q.1.rg.num = k := by
 obtain ⟨x, e⟩ := p
 dsimp only at *
 obtain ⟨it, e', hib, _, ki⟩ := item_ex c hw k hk e
 obtain ⟨h, hB, hP⟩ := handle_ex c x hI 0 now n0 n1 it hib.1 (by have := hib.2; omega)
 exact ⟨(h.d, e'), ⟨it, h, ki, hB, hP, rfl⟩, hP.inv, hP.num.trans hn⟩
theorem refuses_c (l : List Int) (hl : l.length ≤ 9223372036854775807) (now : Int) : CallSim Tryz.prog 4 [slA iA l, iA now] [] (bA true) [] := by
 have ka := awake26_c
 have kn := new_c l hl
 generalize (⟨l, 0, Nat.zero_le _, hl⟩ : Dk) = d0 at *
 have n1 := next_c d0 3 (by omega) (by omega)
 have w1 := nx_bd d0 3 (by omega)
 have hy3 := r7_at _ w1
 have hr3 := r7_b (nx d0 3)
 have hl3 : ([AV.s (.int .i64 63), AV.s (.int .i64 7), AV.s (.int .i64 1)] : List AV).length = 3 := rfl
 obtain ⟨x, e, hM, km⟩ := made_ex (ad d0) (r7F (nx d0 3)) hr3
 have hw := cfF_w (ad d0) (r7F (nx d0 3))
 generalize cfF (ad d0) (r7F (nx d0 3)) = c at *
 generalize nx (cfD (ad d0) (r7F (nx d0 3))) (c.ags.length : Int) = k at *
 generalize r7F (nx d0 3) = rr at *
 generalize nx d0 3 = q at *
 have hI := hM.i
 have hxn := hM.n
 have m1 := mod_c now 40 (by omega) (by omega)
 have hm0 := Int.emod_nonneg now (show (40 : Int) ≠ 0 by omega)
 have hm1 := Int.emod_lt_of_pos now (show (0 : Int) < 40 by omega)
 generalize now % 40 = nw at *
 have hk : 0 ≤ k ∧ k < 256 := by have := hI.n; rw [hxn] at this; omega
 clear hM hr3
 obtain ⟨f, hf0, hf⟩ := chain (fun _ (p : Dsk × Dk) => DskI c p.1 ∧ p.1.rg.num = k) (fun _ p q => ∃ (i : It) (h : Hd), CallSim Tryz.prog 15 [.ptr 1000 0 0, cfA c, iA k] [(1000, dkE p.2)] (itA i) [(1000, dkE q.2)] ∧ HdBoth c p.1 0 i nw h ∧ HdP c p.1 0 i nw h ∧ q.1 = h.d)
  (fun i p hp => rf_step hw nw hm0 (by omega) hk p hp.1 hp.2) (x, e) ⟨hI, hxn⟩
 rw [show x = (f 0).1 by rw [hf0], show e = (f 0).2 by rw [hf0]] at km
 clear hf0
 have cfe : cfA c = .agg [.sl false (c.js.map jnA), .sl false (c.ags.map agA), iA c.per, iA c.cap, iA c.hold, iA c.lock] := rfl
 have dse : ∀ d : Dsk, dskA d = .agg [iA d.rg.num, slA yA d.rg.ag.sec, iA d.rg.ag.rights, iA d.rg.ag.cls, slA iA d.rg.ag.lim, iA d.rg.ag.req, iA d.rg.ag.ses, iA d.rg.ag.rate, iA d.rg.ag.burst, slA tkA d.rg.tk, slA vhA d.rg.vh, iA d.rg.bk.level, iA d.rg.bk.rate, iA d.rg.bk.burst, slA rqA d.rq, slA sYA d.dr, slA bA d.au] := fun _ => rfl
 have ite : ∀ i : It, itA i = .agg [iA i.code, iA i.kind, slA yA i.pay] := fun _ => rfl
 rw [cfe, dse] at km
 have hce := fun d : Dsk => (show .box (dskL d) = Ent.box [iA d.rg.num, slA yA d.rg.ag.sec, iA d.rg.ag.rights, iA d.rg.ag.cls, slA iA d.rg.ag.lim, iA d.rg.ag.req, iA d.rg.ag.ses, iA d.rg.ag.rate, iA d.rg.ag.burst, slA tkA d.rg.tk, slA vhA d.rg.vh, iA d.rg.bk.level, iA d.rg.bk.rate, iA d.rg.bk.burst, slA rqA d.rq, slA sYA d.dr, slA bA d.au] from rfl)
 (refine eN Tryz.func4 Tryz.call4 fun F hF => ?_)
 (have zc1 := kn; have zc2 := n1; have zc3 := km; have zc4 := m1; refine WW ?_; clear zc1 zc2 zc3 zc4)
 (refine sim_cnt (8) [7, 1000, 6] [6] [1, 5, 6, 7] [28, 1, 5, 6, 7] rfl (fun i T U => ⟨(28, iA i) :: T, (7, .box (dskL (f i).1)) :: (1000, dkE (f i).2) :: U⟩) ?_; (conv => whnf); refine ⟨by rfl, ?_, ?_⟩)
 ·intro i hi
  obtain ⟨⟨hI, hn⟩, it, h, ki, ⟨b1, _⟩, hP, hx'⟩ := hf i
  rw [hx']
  generalize (f (i + 1)).2 = e' at *
  clear hx' km kn n1 m1
  generalize f i = p at *
  obtain ⟨x, e⟩ := p
  dsimp only at *
  rw [← hn] at ki
  rw [hce, hce]
  obtain ⟨hk1, hk2⟩ := rf_kind hP
  by_cases he : h.e = 0
  ·have hk1 := hk1 he
   unfold hdT enA at b1
   rw [he] at b1
   clear hk2 hP hI he
   generalize h.p = p at *
   generalize h.k = k9 at *
   generalize h.d = y at *
   obtain ⟨pk, pt, pa, pd⟩ := p
   rw [cfe, ite] at ki
   rw [cfe, dse x, ite, dse y] at b1
   unfold msA at b1
   dsimp only at *
   (have zc1 := ki; have zc2 := b1; refine WW ?_; clear zc1 zc2)
   rfl
  ·obtain ⟨hk3, hk4⟩ := hk2 he
   obtain ⟨hd, l0, l1⟩ := rf_desk hI hP he
   have hb2 := hP.inv.bl
   have hb3 := hP.inv.a.b
   have kc := copyDesk_c x hI.bd
   have ks := dsame_c h.d hP.inv.bd
   have hb0 := hI.bl
   have hb1 := hI.a.b
   rw [hP.ag] at hb2 hb3
   unfold hdT enA at b1
   rw [hk3, hk4] at b1
   generalize h.d.rg.bk = bk at *
   rw [hd] at b1 ks ⊢
   generalize h.e = ec at *
   clear hk1 hk2 hk3 hk4 hd hP hI
   rw [dse (dkB x bk)] at b1 ks
   rw [cfe, ite] at ki
   rw [cfe, dse x, ite] at b1
   rw [dse x] at kc
   unfold msA faultM at b1
   unfold dkB at *
   dsimp only at *
   (have zc1 := ki; have zc2 := b1; have zc3 := kc; have zc4 := ks; refine WL ?_; clear zc1 zc2 zc3 zc4)
   rfl
 ·(have zc1 := ka; refine WW ?_; clear zc1)
  exact fr0
end Av
end Go.Proofs.YtaikgchmpieooaaGreat
