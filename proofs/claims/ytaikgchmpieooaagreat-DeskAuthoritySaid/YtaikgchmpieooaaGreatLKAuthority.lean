/- law26: DeskAuthority. -/
import Derived.Test.YtaikgchmpieooaaGreatP42
import Derived.Test.YtaikgchmpieooaaGreatP43
namespace Go.Proofs.YtaikgchmpieooaaGreat
namespace Av
set_option linter.unusedSimpArgs false
set_option linter.unusedVariables false
set_option maxRecDepth 4000
set_option maxHeartbeats 8000000
theorem andI_comm (m n : Int) : andI m n = andI n m := by unfold andI; rw [BitVec.and_comm]
theorem eqY_cons (a : Int) (x y : List Int) : eqY (a :: x) (a :: y) = eqY x y := by rw [eqY_eq, eqY_eq]; simp
def rtB (now k num : Int) (tok : List Int) (i : Nat) (t : Tk) : Bool := t.used && eqY tok (num :: (i : Int) :: t.sec) && (decide (t.til = 0) || decide (now ≤ t.til)) && decide (andI (ndF k) t.rights = ndF k)
def okN (now k num : Int) (tok : List Int) (l : List Tk) : Nat → Bool
 | 0 => false
 | i + 1 => okN now k num tok l i || rtB now k num tok i (l.getD i default)
theorem okN_of {now k num : Int} {tok : List Int} {l : List Tk} {i : Nat} (h : rtB now k num tok i (l.getD i default) = true) : ∀ n, i < n → okN now k num tok l n = true
 | 0, h1 => by omega
 | n + 1, h1 => by
  rw [okN]
  by_cases he : i = n
  ·subst he; rw [h, Bool.or_true]
  ·rw [okN_of h n (by omega), Bool.true_or]
theorem okN_opn {d : Dsk} {i : It} {now : Int} {a : List Int} (h : Opn d i now a) : okN now i.kind d.rg.num (i.pay.take 10) d.rg.tk d.rg.tk.length = true := by
 have h1 := (opR_ok h.2.2.2.2).2.1
 dsimp only at h1
 generalize i.pay.take 10 = b at *
 have hl : (b.length : Int) = 10 := by
  unfold ckB at h1
  simp only [Bool.and_eq_true, decide_eq_true_eq] at h1
  exact h1.1.1.1
 obtain ⟨x0, x1, r, rfl⟩ : ∃ x0 x1 r, b = x0 :: x1 :: r := by
  match b, hl with
  | x0 :: x1 :: r, _ => exact ⟨x0, x1, r, rfl⟩
  | [], h => simp at h
  | [_], h => simp at h
 unfold ckB usF peF exF tkOf at h1
 rw [show (x0 :: x1 :: r).getD 0 default = x0 from rfl, show (x0 :: x1 :: r).getD 1 default = x1 from rfl, show (x0 :: x1 :: r).drop 2 = r from rfl] at h1
 simp only [Bool.and_eq_true, decide_eq_true_eq, Bool.not_eq_true', decide_eq_false_iff_not, beq_iff_eq] at h1
 obtain ⟨⟨⟨h2, h3⟩, ⟨h4, h5⟩, h6⟩, ⟨⟨h7, h8⟩, h9, h10⟩⟩ := h1
 refine okN_of (i := x1.toNat) ?_ _ (by omega)
 unfold rtB
 rw [← h3, show ((x1.toNat : Nat) : Int) = x1 by omega, eqY_cons, eqY_cons, h6, h7, andI_comm, h10]
 generalize d.rg.tk.getD x1.toNat default = T at *
 by_cases ht : T.til = 0
 ·simp [ht]
 ·have : now ≤ T.til := by omega
  simp [this]
theorem rightOf_c (k : Int) (hk : 1 ≤ k ∧ k ≤ 12) : CallSim Tryz.prog 27 [iA k] [] (iA (ndF k)) [] := by
 have m := mod_c k 13 (by omega) (by omega)
 rw [Int.emod_eq_of_lt (by omega) (by omega)] at m
 obtain rfl | rfl | rfl | rfl | rfl | rfl | rfl | rfl | rfl | rfl | rfl | rfl : k = 1 ∨ k = 2 ∨ k = 3 ∨ k = 4 ∨ k = 5 ∨ k = 6 ∨ k = 7 ∨ k = 8 ∨ k = 9 ∨ k = 10 ∨ k = 11 ∨ k = 12 := by omega
 all_goals
  (refine eN Tryz.func27 Tryz.call27 fun F hF => ?_)
  (have zc1 := m; refine WL ?_; clear zc1)
  exact fr0
def dskL (x : Dsk) : List AV := [iA x.rg.num, slA yA x.rg.ag.sec, iA x.rg.ag.rights, iA x.rg.ag.cls, slA iA x.rg.ag.lim, iA x.rg.ag.req, iA x.rg.ag.ses, iA x.rg.ag.rate, iA x.rg.ag.burst, slA tkA x.rg.tk, slA vhA x.rg.vh, iA x.rg.bk.level, iA x.rg.bk.rate, iA x.rg.bk.burst, slA rqA x.rq, slA sYA x.dr, slA bA x.au]
def auB (b1 b2 : Bool) (x y : Dsk) (k : Int) : Bool := b1 && b2 && decide (x.dr.length = y.dr.length) && decide (k < 0)
def auR (c : Cf) (now k : Int) (p q : Dsk × Dk) : Prop := ∃ (i : It) (h : Hd) (b1 b2 : Bool), CallSim Tryz.prog 15 [.ptr 1000 0 0, cfA c, iA k] [(1000, dkE p.2)] (itA i) [(1000, dkE q.2)] ∧ ItB i ∧ CallSim Tryz.prog 16 [cfA c, dskA p.1, iA 0, itA i, iA now] [] (hdT p.1.rg.num i.kind h) [] ∧
 CallSim Tryz.prog 23 [rgA p.1.rg, rgA h.d.rg] [] (bA b1) [] ∧ CallSim Tryz.prog 24 [slA rqA p.1.rq, slA rqA h.d.rq] [] (bA b2) [] ∧ (auB b1 b2 p.1 h.d h.k = false → ∃ a, Opn p.1 i now a) ∧ h.d.dr.length ≤ 1000 ∧ q.1 = if auB b1 b2 p.1 h.d h.k = true then p.1 else h.d
theorem au_step {c : Cf} (hw : CfW c) (now : Int) (n0 : 0 ≤ now) (n1 : now ≤ 1073741824) {k : Int} (hk : 0 ≤ k ∧ k < 256) (p : Dsk × Dk) (hI : DskI c p.1) (hn : p.1.rg.num = k) :
  ∃ q : Dsk × Dk, auR c now k p q ∧ DskI c q.1 ∧ q.1.rg.num = k := by
 obtain ⟨x, e⟩ := p
 dsimp only at *
 obtain ⟨it, e', hib, _, ki⟩ := item_ex c hw k hk e
 obtain ⟨h, hB, hP⟩ := handle_ex c x hI 0 now n0 n1 it hib.1 (by have := hib.2; omega)
 have hd1 := hI.bd
 have hd2 := hP.inv.bd
 obtain ⟨b1, b2, s1, s2, hb⟩ : ∃ b1 b2, CallSim Tryz.prog 23 [rgA x.rg, rgA h.d.rg] [] (bA b1) [] ∧ CallSim Tryz.prog 24 [slA rqA x.rq, slA rqA h.d.rq] [] (bA b2) [] ∧ (auB b1 b2 x h.d h.k = false → ∃ a, Opn x it now a) := by
  by_cases ho : ∃ a, Opn x it now a
  ·obtain ⟨b1, s1⟩ := gsame_ex x.rg h.d.rg hd1.rg hd2.rg hP.num.symm hP.ag.symm
   obtain ⟨b2, s2⟩ := qsame_ex x.rq h.d.rq hd1.q hd2.q hd1.g hd2.g
   exact ⟨b1, b2, s1, s2, fun _ => ho⟩
  ·have he : h.e ≠ 0 := fun he => by
    obtain ⟨a, h1, _⟩ := hP.yes he
    exact ho ⟨a, h1⟩
   obtain ⟨h1, _, h2 | ⟨a, h2, _⟩⟩ := hP.no he
   ·refine ⟨true, true, ?_, ?_, fun h3 => ?_⟩
    ·rw [h2]; exact gsame_c x.rg hd1.rg
    ·rw [h2]; exact qsame_c x.rq hd1.q hd1.g
    ·unfold auB at h3
     rw [h1, h2] at h3
     simp at h3
   ·exact absurd ⟨a, h2⟩ ho
 refine ⟨(if auB b1 b2 x h.d h.k = true then x else h.d, e'), ⟨it, h, b1, b2, ki, hib, hB.1, s1, s2, hb, hd2.n, rfl⟩, ?_, ?_⟩
 ·dsimp only; split
  ·exact hI
  ·exact hP.inv
 ·dsimp only; split
  ·exact hn
  ·exact hP.num.trans hn
theorem authority_c (l : List Int) (hl : l.length ≤ 9223372036854775807) (now : Int) : CallSim Tryz.prog 5 [slA iA l, iA now] [] (bA true) [] := by
 have ka := awake26_c
 have kn := new_c l hl
 generalize (⟨l, 0, Nat.zero_le _, hl⟩ : Dk) = d0 at *
 obtain ⟨x, e, hM, km⟩ := made_ex d0 63 (by omega)
 have hw := cfF_w d0 63
 generalize cfF d0 63 = c at *
 generalize nx (cfD d0 63) (c.ags.length : Int) = k at *
 have hI := hM.i
 have hxn := hM.n
 have m1 := mod_c now 40 (by omega) (by omega)
 have hm0 := Int.emod_nonneg now (show (40 : Int) ≠ 0 by omega)
 have hm1 := Int.emod_lt_of_pos now (show (0 : Int) < 40 by omega)
 generalize now % 40 = nw at *
 have hk : 0 ≤ k ∧ k < 256 := by have := hI.n; rw [hxn] at this; omega
 clear hM
 obtain ⟨f, hf0, hf⟩ := chain (fun _ (p : Dsk × Dk) => DskI c p.1 ∧ p.1.rg.num = k) (fun _ p q => auR c nw k p q)
  (fun i p hp => au_step hw nw hm0 (by omega) hk p hp.1 hp.2) (x, e) ⟨hI, hxn⟩
 rw [show x = (f 0).1 by rw [hf0], show e = (f 0).2 by rw [hf0]] at km
 clear hf0
 have cfe : cfA c = .agg [.sl false (c.js.map jnA), .sl false (c.ags.map agA), iA c.per, iA c.cap, iA c.hold, iA c.lock] := rfl
 have dse : ∀ d : Dsk, dskA d = .agg [iA d.rg.num, slA yA d.rg.ag.sec, iA d.rg.ag.rights, iA d.rg.ag.cls, slA iA d.rg.ag.lim, iA d.rg.ag.req, iA d.rg.ag.ses, iA d.rg.ag.rate, iA d.rg.ag.burst, slA tkA d.rg.tk, slA vhA d.rg.vh, iA d.rg.bk.level, iA d.rg.bk.rate, iA d.rg.bk.burst, slA rqA d.rq, slA sYA d.dr, slA bA d.au] := fun _ => rfl
 have ite : ∀ i : It, itA i = .agg [iA i.code, iA i.kind, slA yA i.pay] := fun _ => rfl
 rw [cfe, dse] at km
 have hce := fun d : Dsk => (show .box (dskL d) = Ent.box [iA d.rg.num, slA yA d.rg.ag.sec, iA d.rg.ag.rights, iA d.rg.ag.cls, slA iA d.rg.ag.lim, iA d.rg.ag.req, iA d.rg.ag.ses, iA d.rg.ag.rate, iA d.rg.ag.burst, slA tkA d.rg.tk, slA vhA d.rg.vh, iA d.rg.bk.level, iA d.rg.bk.rate, iA d.rg.bk.burst, slA rqA d.rq, slA sYA d.dr, slA bA d.au] from rfl)
 (refine eN Tryz.func5 Tryz.call5 fun F hF => ?_)
 (have zc1 := kn; have zc2 := km; have zc3 := m1; refine WW ?_; clear zc1 zc2 zc3)
 (refine sim_cnt (8) [7, 1000, 6] [6] [1, 5, 6, 7] [27, 1, 5, 6, 7] rfl (fun i T U => ⟨(27, iA i) :: T, (7, .box (dskL (f i).1)) :: (1000, dkE (f i).2) :: U⟩) ?_; (conv => whnf); refine ⟨by rfl, ?_, ?_⟩)
 ·intro i hi
  obtain ⟨⟨hI, hn⟩, it, h, b1, b2, ki, hib, kh, s1, s2, ho, hdl, hx'⟩ := hf i
  rw [hx']
  generalize (f (i + 1)).2 = e' at *
  clear hx' km kn m1
  generalize f i = p at *
  obtain ⟨x, e⟩ := p
  dsimp only at *
  rw [← hn] at ki
  have hnum := hI.n
  have ht8 := hI.t8
  have htb := hI.b.tk.s
  have hxl := hI.dn
  clear hI hf
  have hls1 := map_len sYA x.dr
  have hls2 := map_len sYA h.d.dr
  have hltk := map_len tkA x.rg.tk
  unfold hdT enA at kh
  rw [cfe, ite] at ki
  rw [cfe, dse x, ite, dse h.d] at kh
  rw [show rgA x.rg = .agg [iA x.rg.num, slA yA x.rg.ag.sec, iA x.rg.ag.rights, iA x.rg.ag.cls, slA iA x.rg.ag.lim, iA x.rg.ag.req, iA x.rg.ag.ses, iA x.rg.ag.rate, iA x.rg.ag.burst, slA tkA x.rg.tk, slA vhA x.rg.vh, iA x.rg.bk.level, iA x.rg.bk.rate, iA x.rg.bk.burst] from rfl, show rgA h.d.rg = .agg [iA h.d.rg.num, slA yA h.d.rg.ag.sec, iA h.d.rg.ag.rights, iA h.d.rg.ag.cls, slA iA h.d.rg.ag.lim, iA h.d.rg.ag.req, iA h.d.rg.ag.ses, iA h.d.rg.ag.rate, iA h.d.rg.ag.burst, slA tkA h.d.rg.tk, slA vhA h.d.rg.vh, iA h.d.rg.bk.level, iA h.d.rg.bk.rate, iA h.d.rg.bk.burst] from rfl] at s1
  rw [show msA h.p = .agg [iA h.p.kind, slA yA h.p.tok, slA iA h.p.args, slA yA h.p.data] from rfl] at kh
  cases hs : auB b1 b2 x h.d h.k with
  | true =>
   rw [if_pos rfl, hce]
   unfold auB at hs
   simp only [Bool.and_eq_true, decide_eq_true_eq] at hs
   obtain ⟨⟨⟨rfl, rfl⟩, hs3⟩, hs4⟩ := hs
   clear ho hib
   generalize h.k = hk at *
   generalize h.e = he at *
   generalize h.p = hp at *
   generalize h.d = y at *
   (have zc1 := ki; have zc2 := kh; have zc3 := s1; have zc4 := s2; refine WW ?_; clear zc1 zc2 zc3 zc4)
   rfl
  | false =>
   obtain ⟨a, hO⟩ := ho hs
   rw [if_neg Bool.false_ne_true, hce, hce]
   have hok := okN_opn hO
   have kd := decode2_c it.kind hO.2.1 hO.2.2.1 it.pay hib.1 (by have := hib.2; omega)
   rw [hO.2.2.2.1] at kd
   have kr := rightOf_c it.kind ⟨hO.2.1, hO.2.2.1⟩
   unfold deT msA at kd
   dsimp only at kd
   clear hO ho hib
   generalize h.k = hk at *
   generalize h.e = he at *
   generalize h.p = hp at *
   generalize h.d = y at *
   generalize it.pay.take 10 = tkn9 at *
   have hcs : b1 = false ∨ (b1 = true ∧ b2 = false) ∨ (b1 = true ∧ b2 = true ∧ x.dr.length ≠ y.dr.length) ∨ (b1 = true ∧ b2 = true ∧ x.dr.length = y.dr.length ∧ 0 ≤ hk) := by
    unfold auB at hs
    cases b1
    ·exact .inl rfl
    ·cases b2
     ·exact .inr (.inl ⟨rfl, rfl⟩)
     ·by_cases h3 : x.dr.length = y.dr.length
      ·refine .inr (.inr (.inr ⟨rfl, rfl, h3, ?_⟩))
       simp [h3] at hs
       exact hs
      ·exact .inr (.inr (.inl ⟨rfl, rfl, h3⟩))
   clear hs
   generalize it.kind = kd9 at *
   rcases hcs with rfl | ⟨rfl, rfl⟩ | ⟨rfl, rfl, hcs⟩ | ⟨rfl, rfl, hcs, hcs2⟩
   all_goals
    (have zc1 := ki; have zc2 := kh; have zc3 := s1; have zc4 := s2; have zc5 := kd; refine WW ?_; clear zc1 zc2 zc3 zc4 zc5)
    (refine sim_rng (x.rg.tk) [6, 7, 9, 13, 1000] [6, 7, 9, 13, 1000] [1, 5, 6, 7, 9, 13, 14, 27, 80, 81] [15, 82, 1, 5, 6, 7, 9, 13, 14, 27, 80, 81] rfl (fun i pre T U => ⟨(15, bA (okN nw kd9 x.rg.num tkn9 x.rg.tk i)) :: (82, iA i) :: T, U⟩) ?_; (conv => whnf); refine ⟨by rfl, ?_, ?_⟩)
    ·intro j pre t post hx hj
     have hy := rng_at tkA hx hj
     have hlt := rng_lt hx hj
     have htl := htb t (rng_mem hx)
     have hgt : x.rg.tk.getD j default = t := by rw [hx, ← hj]; simp [List.getD]
     have eo : okN nw kd9 x.rg.num tkn9 x.rg.tk (j + 1) = (okN nw kd9 x.rg.num tkn9 x.rg.tk j || rtB nw kd9 x.rg.num tkn9 j t) := by rw [okN, hgt]
     have kb := bytes2_c x.rg.num j t.sec htl (by omega) (by omega) (by omega) (by omega)
     clear hx hgt hok ki kh s1 s2 kd
     unfold rtB at eo
     generalize okN nw kd9 x.rg.num tkn9 x.rg.tk j = ok at *
     generalize okN nw kd9 x.rg.num tkn9 x.rg.tk (j + 1) = ok2 at *
     generalize ndF kd9 = nd at *
     obtain ⟨us, sec, par, ri, cl, ti⟩ := t
     dsimp only at *
     generalize hq : eqY tkn9 (x.rg.num :: (j : Int) :: sec) = q at *
     cases ok
     case true =>
      rw [Bool.true_or] at eo
      subst eo
      (refine WW ?_)
      rfl
     cases us
     case false =>
      simp only [Bool.false_and, Bool.or_false] at eo
      subst eo
      (refine WW ?_)
      rfl
     cases q
     case false =>
      simp only [Bool.and_false, Bool.false_and, Bool.or_false] at eo
      subst eo
      (have zc1 := kb; refine WW ?_; clear zc1)
      rfl
     simp only [Bool.true_and, Bool.false_or] at eo
     by_cases h0 : ti = 0 <;> by_cases h1 : nw ≤ ti <;> by_cases h2 : andI nd ri = nd
     all_goals
      simp only [h0, h1, h2, decide_true, decide_false, Bool.or_true, Bool.or_false, Bool.true_and, Bool.false_and, Bool.true_or, Bool.and_true, Bool.and_false] at eo
      subst eo
      (have zc1 := kb; have zc2 := kr; refine WW ?_; clear zc1 zc2)
      rfl
    ·rw [hok]
     (refine WW ?_)
     rfl
 ·(have zc1 := ka; refine WW ?_; clear zc1)
  exact fr0
end Av
end Go.Proofs.YtaikgchmpieooaaGreat
