/- law26: DeskHandles. -/
import Derived.Test.YtaikgchmpieooaaGreatP42
import Derived.Test.YtaikgchmpieooaaGreatP43
namespace Go.Proofs.YtaikgchmpieooaaGreat
namespace Av
set_option linter.unusedSimpArgs false
set_option linter.unusedVariables false
set_option maxRecDepth 4000
set_option maxHeartbeats 4000000
def r3F (q : Int) : Int := if q = 0 then 63 else if q = 1 then 47 else 15
theorem r3_at (q : Int) (h : 0 ≤ q ∧ q < 3) : ([AV.s (.int .i64 63), AV.s (.int .i64 47), AV.s (.int .i64 15)] : List AV)[q.toNat]? = some (AV.s (.int .i64 (r3F q))) := by
 have : q = 0 ∨ q = 1 ∨ q = 2 := by omega
 rcases this with rfl | rfl | rfl <;> rfl
theorem r3_b (q : Int) : 0 ≤ r3F q ∧ r3F q ≤ 63 := by unfold r3F; repeat' split; all_goals omega
theorem handles_c (raw : It) (hraw : BY raw.pay) (hrl : raw.pay.length ≤ 9223372036854775807) (l : List Int) (hl : l.length ≤ 9223372036854775807) (s now : Int) : CallSim Tryz.prog 3 [itA raw, slA iA l, iA s, iA now] [] (bA true) [] := by
 have ks := short_c raw.pay hrl
 have ka := awake26_c
 have kn := new_c l hl
 by_cases h600 : raw.pay.length ≤ 600
 case neg =>
  rw [decide_eq_false h600] at ks
  unfold itA
  (refine eN Tryz.func3 Tryz.call3 fun F hF => ?_)
  (have zc1 := ks; have zc2 := ka; refine WW ?_; clear zc1 zc2)
  exact fr0
 rw [decide_eq_true h600] at ks
 generalize (⟨l, 0, Nat.zero_le _, hl⟩ : Dk) = d0 at *
 have n1 := next_c d0 3 (by omega) (by omega)
 have w1 := nx_bd d0 3 (by omega)
 have hy3 := r3_at _ w1
 have hr3 := r3_b (nx d0 3)
 have hl3 : ([AV.s (.int .i64 63), AV.s (.int .i64 47), AV.s (.int .i64 15)] : List AV).length = 3 := rfl
 obtain ⟨x, e, hM, km⟩ := made_ex (ad d0) (r3F (nx d0 3)) hr3
 have hw := cfF_w (ad d0) (r3F (nx d0 3))
 generalize cfF (ad d0) (r3F (nx d0 3)) = c at *
 generalize nx (cfD (ad d0) (r3F (nx d0 3))) (c.ags.length : Int) = k at *
 generalize r3F (nx d0 3) = rr at *
 generalize nx d0 3 = q at *
 have hI := hM.i
 have m1 := mod_c now 40 (by omega) (by omega)
 have hm0 := Int.emod_nonneg now (show (40 : Int) ≠ 0 by omega)
 have hm1 := Int.emod_lt_of_pos now (show (0 : Int) < 40 by omega)
 generalize now % 40 = nw at *
 have m2 := mod_c s 2 (by omega) (by omega)
 generalize s % 2 = s2 at *
 have hnum : 0 ≤ x.rg.num ∧ x.rg.num < 256 := by have := hI.n; omega
 have kd := dnewB x.rg.num x.rg.ag hI.a
 have kds := dsame_c _ (dskN_i (c := c) hI.a x.rg.num hI.n).bd
 generalize dskN x.rg.num x.rg.ag x.rg.ag.ses.toNat = xn at *
 clear hM hr3
 have cfe : cfA c = .agg [.sl false (c.js.map jnA), .sl false (c.ags.map agA), iA c.per, iA c.cap, iA c.hold, iA c.lock] := rfl
 have dse : ∀ d : Dsk, dskA d = .agg [iA d.rg.num, slA yA d.rg.ag.sec, iA d.rg.ag.rights, iA d.rg.ag.cls, slA iA d.rg.ag.lim, iA d.rg.ag.req, iA d.rg.ag.ses, iA d.rg.ag.rate, iA d.rg.ag.burst, slA tkA d.rg.tk, slA vhA d.rg.vh, iA d.rg.bk.level, iA d.rg.bk.rate, iA d.rg.bk.burst, slA rqA d.rq, slA sYA d.dr, slA bA d.au] := fun _ => rfl
 have ite : ∀ i : It, itA i = .agg [iA i.code, iA i.kind, slA yA i.pay] := fun _ => rfl
 have HB := fun (i : It) (hi : ItB i) (s : Int) => handle_ex c x hI s nw hm0 (by omega) i hi.1 (by have := hi.2; omega)
 have IX := fun e => item_ex c hw x.rg.num hnum e
 rw [cfe, dse x] at km
 rw [show agA x.rg.ag = .agg [slA yA x.rg.ag.sec, iA x.rg.ag.rights, iA x.rg.ag.cls, slA iA x.rg.ag.lim, iA x.rg.ag.req, iA x.rg.ag.ses, iA x.rg.ag.rate, iA x.rg.ag.burst] from rfl] at kd
 rw [ite raw]
 (refine eN Tryz.func3 Tryz.call3 fun F hF => ?_)
 (have zc1 := ks; have zc2 := kn; have zc3 := n1; have zc4 := km; have zc5 := m1; refine WW ?_; clear zc1 zc2 zc3 zc4 zc5)
 (refine sim_cntP (6) [1000, 4, 10, 11] [4, 10, 11] [2, 3, 4, 9, 10, 11] [43, 2, 3, 4, 9, 10, 11] rfl (fun i T U zs => ∃ e : Dk, zs = ⟨(43, iA i) :: T, (1000, dkE e) :: U⟩) ?_; (conv => whnf); refine ⟨?_, ?_, ?_⟩)
 ·exact ⟨e, rfl⟩
 ·rintro i st hi ⟨e, rfl⟩
  obtain ⟨it, e', hib, _, ki⟩ := IX e
  clear IX
  obtain ⟨i2, hi2, hii⟩ : ∃ i2 : It, ItB i2 ∧ i2 = if (i : Int) = 5 then raw else it := ⟨_, by split; exact ⟨hraw, by omega⟩; exact hib, rfl⟩
  have HB := HB i2 hi2
  (repeat' (first | refine WZ ?_ | refine SG (I2 (fun hc => ?_) (fun hc => ?_)) | refine SG (fun hc => ?_) | (refine is_ops ?_; refine is_call ?_; fail) | (refine is_ops ?_; first | refine SM ?_) | first | refine SV ?_ | refine SK (I2 (fun hc => ?_) (fun hc => ?_)) | refine SK (fun hc => ?_) | fail))
  refine sim_block ?_
  rw [cfe, ite] at ki
  (have zc1 := ki; (repeat' (first | refine WZ ?_ | refine SG (I2 (fun hc => ?_) (fun hc => ?_)) | refine SG (fun hc => ?_) | (refine is_ops ?_; refine is_call ?_; refine SC ?_) | (refine is_ops ?_; first | refine SM ?_) | refine SQ ?_ | fail)) <;> clear zc1)
  refine sim_join [1000, 4, 10, 11, 13] [2, 3, 4, 9, 10, 11, 13, 43] ⟨[(2, iA s), (3, iA nw), (4, .ptr 4 0 0), (9, .ptr 1000 0 0), (10, .ptr 10 0 0), (11, .ptr 11 0 0), (13, .ptr 13 0 0), (43, iA i)], [(1000, dkE e'), (4, .box [iA raw.code, iA raw.kind, slA yA raw.pay]), (10, .box [.sl false (c.js.map jnA), .sl false (c.ags.map agA), iA c.per, iA c.cap, iA c.hold, iA c.lock]), (11, .box [iA x.rg.num, slA yA x.rg.ag.sec, iA x.rg.ag.rights, iA x.rg.ag.cls, slA iA x.rg.ag.lim, iA x.rg.ag.req, iA x.rg.ag.ses, iA x.rg.ag.rate, iA x.rg.ag.burst, slA tkA x.rg.tk, slA vhA x.rg.vh, iA x.rg.bk.level, iA x.rg.bk.rate, iA x.rg.bk.burst, slA rqA x.rq, slA sYA x.dr, slA bA x.au]), (13, .box [iA i2.code, iA i2.kind, slA yA i2.pay])]⟩ rfl ?_ ?_
  ·by_cases h5 : (i : Int) = 5
   ·rw [if_pos h5] at hii
    subst hii
    (refine WW (I2 (fun hc => ?_) (fun hc => ?_)))
    all_goals first | (exfalso; omega; done) | exact ⟨rfl, rfl⟩
   ·rw [if_neg h5] at hii
    subst hii
    (refine WW (I2 (fun hc => ?_) (fun hc => ?_)))
    all_goals first | (exfalso; omega; done) | exact ⟨rfl, rfl⟩
  clear ki hii hib
  (have zc1 := m2; refine WL ?_; clear zc1)
  (refine sim_cnt (2) [4, 10, 11, 13, 1000] [4, 10, 11, 13, 1000] [2, 3, 4, 9, 10, 11, 13, 43, 58, 59] [60, 2, 3, 4, 9, 10, 11, 13, 43, 58, 59] rfl (fun i T U => ⟨(60, iA i) :: T, U⟩) ?_; (conv => whnf); refine ⟨by rfl, ?_, ?_⟩)
  ·intro j hj
   have hj2 : j = 0 ∨ j = 1 := by omega
   obtain ⟨sj, hy⟩ : ∃ sj, ([iA s, iA s2] : List AV)[j]? = some (iA sj) := by
    rcases hj2 with rfl | rfl
    ·exact ⟨s, rfl⟩
    ·exact ⟨s2, rfl⟩
   have hl2 : ([iA s, iA s2] : List AV).length = 2 := rfl
   have hlt : (j : Int) < 2 := by omega
   have hlt2 : (j : Int) < ((([iA s, iA s2] : List AV).length : Nat) : Int) := by rw [hl2]; omega
   obtain ⟨h, ⟨b1, b2, _⟩, hP⟩ := HB sj
   have f3 := dsame_c h.d hP.inv.bd
   have f4 := msame_c h.p (rp_b hI hP)
   unfold hdT enA at b1 b2
   rw [cfe, dse x, ite] at b1 b2
   rw [dse h.d] at b1 b2 f3
   rw [show msA h.p = .agg [iA h.p.kind, slA yA h.p.tok, slA iA h.p.args, slA yA h.p.data] from rfl] at b1 b2 f4
   clear HB kd hP cfe dse ite
   (have zc1 := b1; have zc2 := b2; have zc3 := f3; have zc4 := f4; (repeat' (first | refine WZ ?_ | refine SG (I2 (fun hc => ?_) (fun hc => ?_)) | refine SG (fun hc => ?_) | (refine is_ops ?_; refine is_call ?_; refine SC ?_) | (refine is_ops ?_; first | refine SE ?_) | first | refine SR ?_ | refine SK (I2 (fun hc => ?_) (fun hc => ?_)) | refine SK (fun hc => ?_) | fail)) <;> clear zc1 zc2 zc3 zc4)
   all_goals (first | rfl | (exfalso; first | (simp [eqY_refl] at hc; done) | (revert hc; simp [eqY_refl]; done)))
  ·(refine WL ?_)
   exact ⟨e', rfl⟩
 ·rintro st ⟨e, rfl⟩
  (have zc1 := kd.1; have zc2 := kd.2; have zc3 := kds; have zc4 := ka; refine WL ?_; clear zc1 zc2 zc3 zc4)
  exact fr0
section
variable {H : Type} {eh : TypeId × Value → H} {w : World}
theorem by_wf {n : Int} (h6 : (Lit.int .u8 n).wf = true) : 0 ≤ n ∧ n < 256 := by
 unfold Lit.wf at h6
 rw [Bool.and_eq_true, decide_eq_true_eq, decide_eq_true_eq] at h6
 have e1 : IntKind.u8.min = 0 := by decide
 have e2 : IntKind.u8.max = 255 := by decide
 omega
theorem reads_yb : Reads eh Tryz.prog w 23 (fun l : List Int => [slA yA l]) (fun l => BY l ∧ l.length ≤ 9223372036854775807) :=
 (reads_slice (sz := 1) Tryz.underlying23 false (reads_int (k := .u8) Tryz.underlying5) (by kernel_rfl) rfl (fun x _ => ⟨_, rfl, rfl⟩)).map id (fun _ => rfl) (fun _ h => ⟨fun x hx => by_wf (h.2 x hx), h.1⟩)
def itE (i : It) : List AV := [iA i.code, iA i.kind, slA yA i.pay]
theorem reads_it : Reads eh Tryz.prog w 25 itE (fun i => BY i.pay ∧ i.pay.length ≤ 9223372036854775807) :=
 (reads_struct Tryz.underlying25 (by kernel_rfl) (.cons 1 (reads_int Tryz.underlying22) rfl (by kernel_rfl) (fun _ => rfl) (.cons 1 (reads_int Tryz.underlying3) rfl (by kernel_rfl) (fun _ => rfl) (.cons 1 reads_yb rfl (by kernel_rfl) (fun _ => rfl) (.nil 3))))).map
  (fun p => ⟨p.1, p.2.1, p.2.2.1⟩) (fun _ => rfl) (fun _ h => h.2.2.1)
end
theorem handles_w (raw : It) (h : BY raw.pay ∧ raw.pay.length ≤ 9223372036854775807) (l : List Int) (hl : l.length ≤ 9223372036854775807) (s now : Int) : CallSim Tryz.prog 3 [itA raw, slA iA l, iA s, iA now] [] (bA true) [] := handles_c raw h.1 h.2 l hl s now
end Av
end Go.Proofs.YtaikgchmpieooaaGreat
