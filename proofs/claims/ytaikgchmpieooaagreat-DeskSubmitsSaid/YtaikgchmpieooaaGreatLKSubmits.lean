/- law26: DeskSubmits. -/
import Derived.Test.YtaikgchmpieooaaGreatP43
import Derived.Test.YtaikgchmpieooaaGreatP44
namespace Go.Proofs.YtaikgchmpieooaaGreat
namespace Av
set_option linter.unusedSimpArgs false
set_option linter.unusedVariables false
set_option maxRecDepth 4000
set_option maxHeartbeats 8000000
def dskL (x : Dsk) : List AV := [iA x.rg.num, slA yA x.rg.ag.sec, iA x.rg.ag.rights, iA x.rg.ag.cls, slA iA x.rg.ag.lim, iA x.rg.ag.req, iA x.rg.ag.ses, iA x.rg.ag.rate, iA x.rg.ag.burst, slA tkA x.rg.tk, slA vhA x.rg.vh, iA x.rg.bk.level, iA x.rg.bk.rate, iA x.rg.bk.burst, slA rqA x.rq, slA sYA x.dr, slA bA x.au]
def agL (a : Ag) : List AV := [slA yA a.sec, iA a.rights, iA a.cls, slA iA a.lim, iA a.req, iA a.ses, iA a.rate, iA a.burst]
def cfL (c : Cf) : List AV := [.sl false (c.js.map jnA), .sl false (c.ags.map agA), iA c.per, iA c.cap, iA c.hold, iA c.lock]
theorem is_al10 {P : Program} {K0 : List Nat} {F : Fr K0} {m : Nat} {ops : Array Oper} {rest : List Oper} {Q : List FP → St → Prop} {dr : Bool} {fs : List FP} {ty T : Nat} {pos : String} {after : Array Edge} {st : St} (hk : OpsX P F m ops dr (⟨some 10, .alloc T, ty, pos, after, none⟩ :: rest) st fs Q) : OpsX P F m ops dr (⟨some 10, .alloc T, ty, pos, after, none⟩ :: rest) st fs Q := hk
theorem tell_c (c : Cf) (a : Ag) (hs : a.sec.length ≤ 1000000) (d d' : Dsk) (k now : Int) (ar p : List Int) (rep : Ms)
  (ke : CallSim Tryz.prog 28 [msA ⟨k, 0 :: 0 :: a.sec, ar, []⟩] [] (.tup [slA yA p, iA 0]) []) (kh : CallSim Tryz.prog 16 [cfA c, dskA d, iA 0, itA ⟨0, k, p⟩, iA now] [] (hdT 0 k ⟨d', rep, -1, 0⟩) []) :
  CallSim Tryz.prog 30 [iA k, slA iA ar, iA now, .ptr 11 0 0, .ptr 10 0 0, .ptr 16 0 0] [(11, .box (agL a)), (10, .box (cfL c)), (16, .box (dskL d))] (msA rep) [(11, .box (agL a)), (10, .box (cfL c)), (16, .box (dskL d'))] := by
 have kb := bytes2_c 0 0 a.sec hs (by omega) (by omega) (by omega) (by omega)
 unfold hdT enA dskA dskX itA cfA msA at *
 dsimp only at *
 unfold agL cfL dskL
 (refine eN Tryz.func30 Tryz.call30 fun F hF => ?_)
 (have zc1 := kb; have zc2 := ke; have zc3 := kh; (repeat' (first | refine WZ ?_ | refine SG (I2 (fun hc => ?_) (fun hc => ?_)) | refine SG (fun hc => ?_) | (refine is_ops ?_; refine is_call ?_; refine SC ?_) | (refine is_ops ?_; first | (refine is_al10 ?_; refine x_w (nw := [3010]) (stp_alloc tok 3010 rfl rfl) rfl rfl rfl ?_) | refine SM ?_) | first | refine SR ?_ | refine SK (I2 (fun hc => ?_) (fun hc => ?_)) | refine SK (fun hc => ?_) | fail)) <;> clear zc1 zc2 zc3)
 exact fin_own [11, 10, 16] rfl rfl rfl rfl
theorem caL_agF (d : Dk) (r : Int) : ∀ i k, k < i → ∃ e, (caL d r i).1.getD k default = agF e k r
 | 0, k, h => by omega
 | i + 1, k, h => by
  rw [caL_s1, List.getD_eq_getElem?_getD]
  by_cases hk : k < i
  ·rw [List.getElem?_append_left (by rw [caL_len]; exact hk), ← List.getD_eq_getElem?_getD]
   exact caL_agF d r i k hk
  ·obtain rfl : k = i := by omega
   rw [List.getElem?_append_right (by rw [caL_len]; omega), caL_len, Nat.sub_self]
   exact ⟨_, rfl⟩
theorem dkV_i {c : Cf} {d : Dsk} (h : DskI c d) (v : List Vh) (hv : v.length ≤ 9) : DskI c (dkV d v d.rq) :=
 ⟨⟨h.b.tk, h.b.s, h.b.l, by show v.length ≤ _; omega⟩, h.v, h.q, h.lg, h.a, h.n, h.t8, h.br, h.bb, h.bl, h.au, h.dn, h.dr, hv⟩
theorem fresh_q {d : Dsk} {a : Ag} (h : Fresh d a) (q : List Rq) : Fresh (dkQ d q) a := ⟨h.n, h.ag, h.t, h.b, h.r⟩
structure TDk (c : Cf) (a : Ag) (d : Dsk) : Prop where
 i : DskI c d
 t : T0 d
 n : d.rg.num = 0
 a : d.rg.ag = a
theorem told {c : Cf} {a : Ag} {d : Dsk} (h : TDk c a d) (hr : a.rights = 63) (hy : BY a.sec) (k now : Int) (ar : List Int) (hk : 1 ≤ k ∧ k ≤ 12) (hn : NmB ar) (n : Nat) (n2 : n ≤ 2) (ng : grpF k ≠ 0 → 1 ≤ n) (nl : ar.length = fixF k + n * grpF k) (hlv : costs k = true → 0 < d.rg.bk.level) :
  ∃ p, Rt c d k now ar p ∧ CallSim Tryz.prog 28 [msA ⟨k, 0 :: 0 :: a.sec, ar, []⟩] [] (.tup [slA yA p, iA 0]) [] := by
 obtain ⟨p, h1, h2⟩ := rt_msg h.i h.t (by rw [h.a]; exact hy) k now ar hk hn n n2 ng nl (by rw [h.a, hr]; exact pe63 k hk) hlv
 rw [h.n, h.a] at h2
 exact ⟨p, h1, h2⟩
structure Pl (c : Cf) (id life j p f t : Int) : Prop where
 xi : 0 ≤ id ∧ id < 1000
 xl : 1 ≤ life ∧ life ≤ 50
 xj : 0 ≤ j ∧ j < (c.js.length : Int) ∧ j < 4
 xp : 0 ≤ p ∧ p < ((c.js.getD j.toNat default).ph.length : Int) ∧ p < 8
 xf : 0 ≤ f ∧ f < 9
 xt : 9 ≤ t ∧ t < 39
def rq1 (id life j p f t : Int) : Rq := ⟨id, 5, 0, 10 + life, [⟨j, p, 10 + f, 10 + t, -1⟩]⟩
theorem story (c : Cf) (a : Ag) (hv : AgV a) (hr : a.rights = 63) (hy : BY a.sec) (hb : a.burst = 20) (hc : a.cls = 3) (hl : 0 < a.lim.getD 0 default) (hq : 1 ≤ a.req) (id life j p f t : Int) (hp : Pl c id life j p f t) :
  ∃ (d1 d2 d3 d4 b1 b2 : Dsk) (p1 p2 p3 p4 p5 p6 p7 p8 : List Int), d2.rq = [rq1 id life j p f t] ∧ d3.rq = [] ∧ d4.rq = [] ∧ b1.rq = [rq1 id life j p f t] ∧ b2.rq = [] ∧
   CallSim Tryz.prog 28 [msA ⟨4, 0 :: 0 :: a.sec, [5, 0], []⟩] [] (.tup [slA yA p1, iA 0]) [] ∧ CallSim Tryz.prog 16 [cfA c, dskA (dskN 0 a a.ses.toNat), iA 0, itA ⟨0, 4, p1⟩, iA 10] [] (hdT 0 4 ⟨d1, ackM 4 5, -1, 0⟩) [] ∧
   CallSim Tryz.prog 28 [msA ⟨6, 0 :: 0 :: a.sec, [id, 5, life, j, p, f, t], []⟩] [] (.tup [slA yA p2, iA 0]) [] ∧ CallSim Tryz.prog 16 [cfA c, dskA d1, iA 0, itA ⟨0, 6, p2⟩, iA 10] [] (hdT 0 6 ⟨d2, ackM 6 id, -1, 0⟩) [] ∧
   CallSim Tryz.prog 28 [msA ⟨9, 0 :: 0 :: a.sec, [], []⟩] [] (.tup [slA yA p3, iA 0]) [] ∧ CallSim Tryz.prog 16 [cfA c, dskA d2, iA 0, itA ⟨0, 9, p3⟩, iA 10] [] (hdT 0 9 ⟨d2, ⟨19, [], [id, 10 + life], []⟩, -1, 0⟩) [] ∧
   CallSim Tryz.prog 28 [msA ⟨8, 0 :: 0 :: a.sec, [id], []⟩] [] (.tup [slA yA p4, iA 0]) [] ∧ CallSim Tryz.prog 16 [cfA c, dskA d2, iA 0, itA ⟨0, 8, p4⟩, iA 11] [] (hdT 0 8 ⟨d3, ackM 8 id, -1, 0⟩) [] ∧
   CallSim Tryz.prog 28 [msA ⟨5, 0 :: 0 :: a.sec, [5], []⟩] [] (.tup [slA yA p5, iA 0]) [] ∧ CallSim Tryz.prog 16 [cfA c, dskA d2, iA 0, itA ⟨0, 5, p5⟩, iA 11] [] (hdT 0 5 ⟨d4, ackM 5 5, -1, 0⟩) [] ∧
   CallSim Tryz.prog 31 [dskA d2, iA (10 + life)] [] (dskA b1) [] ∧ CallSim Tryz.prog 31 [dskA b1, iA (11 + life)] [] (dskA b2) [] ∧
   CallSim Tryz.prog 28 [msA ⟨9, 0 :: 0 :: a.sec, [], []⟩] [] (.tup [slA yA p6, iA 0]) [] ∧ CallSim Tryz.prog 16 [cfA c, dskA d3, iA 0, itA ⟨0, 9, p6⟩, iA 12] [] (hdT 0 9 ⟨d3, ⟨19, [], [], []⟩, -1, 0⟩) [] ∧
   CallSim Tryz.prog 28 [msA ⟨9, 0 :: 0 :: a.sec, [], []⟩] [] (.tup [slA yA p7, iA 0]) [] ∧ CallSim Tryz.prog 16 [cfA c, dskA d4, iA 0, itA ⟨0, 9, p7⟩, iA 12] [] (hdT 0 9 ⟨d4, ⟨19, [], [], []⟩, -1, 0⟩) [] ∧
   CallSim Tryz.prog 28 [msA ⟨9, 0 :: 0 :: a.sec, [], []⟩] [] (.tup [slA yA p8, iA 0]) [] ∧ CallSim Tryz.prog 16 [cfA c, dskA b2, iA 0, itA ⟨0, 9, p8⟩, iA 12] [] (hdT 0 9 ⟨b2, ⟨19, [], [], []⟩, -1, 0⟩) [] := by
 obtain ⟨hid, hli, hj, hph, hf, ht⟩ := hp
 have list0 : ∀ (d : Dsk), TDk c a d → ∀ now, ∃ q, CallSim Tryz.prog 28 [msA ⟨9, 0 :: 0 :: a.sec, [], []⟩] [] (.tup [slA yA q, iA 0]) [] ∧ CallSim Tryz.prog 16 [cfA c, dskA d, iA 0, itA ⟨0, 9, q⟩, iA now] [] (hdT 0 9 ⟨d, ⟨19, [], holdF d.rq, []⟩, -1, 0⟩) [] := fun d h now => by
  obtain ⟨q, hR, ke⟩ := told h hr hy 9 now [] (by omega) .nil 0 (by omega) (fun h => absurd rfl h) rfl (fun h => by simp [costs] at h)
  have := list_h h.i 0 now hR
  rw [h.n] at this
  exact ⟨q, ke, this⟩
 have i0 := dskN_i (c := c) hv 0 (by omega)
 have F0 : Fresh (dskN 0 a a.ses.toNat) a := ⟨rfl, rfl, rfl, ⟨rfl, rfl⟩, rfl⟩
 have l0 : (dskN 0 a a.ses.toNat).rg.bk.level = 20 := hb
 have v0 : (dskN 0 a a.ses.toNat).rg.vh = [] := rfl
 have q0 : (dskN 0 a a.ses.toNat).rq = [] := rfl
 generalize dskN 0 a a.ses.toNat = d0 at *
 have T0 : TDk c a d0 := ⟨i0, t0_fresh F0, F0.n, F0.ag⟩
 obtain ⟨p1, R1, e1⟩ := told T0 hr hy 4 10 [5, 0] (by omega) (.cons (by omega) (.cons (by omega) .nil)) 0 (by omega) (fun h => absurd rfl h) rfl (fun _ => by omega)
 have h1 := reg_h i0 F0 hv 0 10 5 0 R1 (by omega) v0 (by omega) (by omega) hl
 obtain ⟨G1, m1, w1, x1, _⟩ := fresh_rt F0 4 rfl (by omega)
 have i1 := dkV_i (rtD_i i0 4 (fun _ => by omega)) [⟨5, 0⟩] (by simp)
 rw [F0.n] at h1
 have F1 := fresh_v G1 [⟨5, 0⟩] (rtD d0 4).rq
 have l1 : (dkV (rtD d0 4) [⟨5, 0⟩] (rtD d0 4).rq).rg.bk.level = 19 := by show (rtD d0 4).rg.bk.level = 19; omega
 have v1 : (dkV (rtD d0 4) [⟨5, 0⟩] (rtD d0 4).rq).rg.vh = [⟨5, 0⟩] := rfl
 have q1 : (dkV (rtD d0 4) [⟨5, 0⟩] (rtD d0 4).rq).rq = [] := x1.trans q0
 generalize dkV (rtD d0 4) [⟨5, 0⟩] (rtD d0 4).rq = d1 at *
 have T1 : TDk c a d1 := ⟨i1, t0_fresh F1, F1.n, F1.ag⟩
 obtain ⟨p2, R2, e2⟩ := told T1 hr hy 6 10 (id :: 5 :: life :: q4L [⟨j, p, f, t⟩]) (by omega) (fun x hx => by simp [q4L, q4] at hx; omega) 1 (by omega) (fun _ => Nat.le_refl _) rfl (fun _ => by omega)
 obtain ⟨G2, m2, w2, x2, y2⟩ := fresh_rt F1 6 rfl (by omega)
 have hfv : findV [⟨5, 0⟩] 5 = ⟨5, 0⟩ := rfl
 have hmw : mwB j p f t 10 = true := decide_eq_true ⟨by omega, by omega, by omega, by omega, by omega, by omega, by omega, by omega, by omega⟩
 have hmq : [(⟨j, p, f, t⟩ : Qd)].map (mwQ 10) = [⟨j, p, 10 + f, 10 + t, -1⟩] := by
  show [mwF j p f t 10] = _
  unfold mwF
  rw [if_pos hmw]
 have hds : ∀ cls, cls = 3 → dsE c (rtD d1 6) cls id 5 life 10 [⟨j, p, f, t⟩] = 0 := fun cls hcl => by
  unfold dsE
  rw [w2, v1, if_pos (show hasV [⟨5, 0⟩] 5 = true from rfl), hfv, if_neg (by rw [hcl]; decide), hmq, x2, q1]
  have hall : [(⟨j, p, f, t⟩ : Qd)].all (lgOk c 10) = true := by
   simp only [List.all_cons, List.all_nil, Bool.and_true, lgOk, Bool.and_eq_true, decide_eq_true_eq]
   exact ⟨hj.2.1, hph.2.1, hmw⟩
  rw [if_pos hall]
  have hreq : (rtD d1 6).rg.ag.req = a.req := by rw [G2.ag]
  unfold sxE
  rw [hreq, if_pos (by simp; omega), if_pos (by decide)]
  unfold suE
  have hvg : vgF [⟨j, p, 10 + f, 10 + t, -1⟩] = true := by
   have : lvB ⟨j, p, 10 + f, 10 + t, -1⟩ = true := by
    unfold lvB
    rw [decide_eq_true_eq]
    dsimp only
    omega
   simp [vgF, lgsF, this]
  rw [if_neg (fun h => h ⟨by omega, by omega, by omega, by omega, hvg⟩), if_neg (by simp [hasQ]), if_neg (by simp; omega)]
 have hcl : ((rtD d1 6).rg.tk.getD (0 : Int).toNat default).cls = 3 := by rw [G2.t]; exact hc
 have h2 := sub_h i1 0 10 (by omega) (by omega) id 5 life [⟨j, p, f, t⟩] (by simp) (fun q hq => by simp at hq; subst hq; exact ⟨hj.1, hph.1⟩) R2 (by omega) (hds _ hcl)
 have i2 := ds_i (rtD_i i1 6 (fun _ => by omega)) (by omega) (by omega) (hds _ hcl)
 unfold dsL at i2
 rw [if_pos (hds _ hcl)] at i2
 rw [w2, v1, hfv, x2, q1, hmq] at h2 i2
 have hin : insQ [] (newQ id ⟨5, 0⟩ life [⟨j, p, 10 + f, 10 + t, -1⟩] 10) = [rq1 id life j p f t] := by simp [insQ, qpl, newQ, rq1]
 rw [hin] at h2 i2
 rw [F1.n] at h2
 have F2 := fresh_q G2 [rq1 id life j p f t]
 have l2 : (dkQ (rtD d1 6) [rq1 id life j p f t]).rg.bk.level = 18 := by show (rtD d1 6).rg.bk.level = 18; omega
 have v2 : (dkQ (rtD d1 6) [rq1 id life j p f t]).rg.vh = [⟨5, 0⟩] := w2.trans v1
 have q2 : (dkQ (rtD d1 6) [rq1 id life j p f t]).rq = [rq1 id life j p f t] := rfl
 generalize dkQ (rtD d1 6) [rq1 id life j p f t] = d2 at *
 have T2 : TDk c a d2 := ⟨i2, t0_fresh F2, F2.n, F2.ag⟩
 obtain ⟨p3, e3, h3⟩ := list0 d2 T2 10
 rw [q2] at h3
 obtain ⟨p4, R4, e4⟩ := told T2 hr hy 8 11 [id] (by omega) (.cons (by omega) .nil) 0 (by omega) (fun h => absurd rfl h) rfl (fun _ => by omega)
 have h4 := can_h i2 0 11 id R4 (by omega) (by rw [q2]; simp [hasQ, rq1])
 obtain ⟨G4, m4, w4, x4, y4⟩ := fresh_rt F2 8 rfl (by omega)
 have i4 := fl_i (rtD_i i2 8 (fun _ => by omega)) (fun x => x.id != id)
 have hc4 : canQ d2.rq id = [] := by rw [q2]; simp [canQ, rq1]
 rw [show (rtD d2 8).rq.filter (fun x => x.id != id) = [] by rw [x4]; exact hc4] at i4
 rw [hc4, F2.n] at h4
 have F4 := fresh_q G4 []
 have T4 : TDk c a (dkQ (rtD d2 8) []) := ⟨i4, t0_fresh F4, F4.n, F4.ag⟩
 obtain ⟨p6, e6, h6⟩ := list0 _ T4 12
 obtain ⟨p5, R5, e5⟩ := told T2 hr hy 5 11 [5] (by omega) (.cons (by omega) .nil) 0 (by omega) (fun h => absurd rfl h) rfl (fun _ => by omega)
 have h5 := rem_h i2 F2 hv 0 11 5 0 R5 (by omega) v2 (by omega) (by omega)
 obtain ⟨G5, m5, w5, x5, y5⟩ := fresh_rt F2 5 rfl (by omega)
 have i5 := dkV_i (fl_i (rtD_i i2 5 (fun _ => by omega)) (fun x => x.vh != 5)) [] (by simp)
 have hc5 : witQ d2.rq 5 = [] := by rw [q2]; simp [witQ, rq1]
 have i5 : DskI c (dkV (rtD d2 5) [] (witQ d2.rq 5)) := by rw [← x5]; exact i5
 rw [hc5] at h5 i5
 rw [F2.n] at h5
 have F5 := fresh_v G5 [] []
 have T5 : TDk c a (dkV (rtD d2 5) [] []) := ⟨i5, t0_fresh F5, F5.n, F5.ag⟩
 obtain ⟨p7, e7, h7⟩ := list0 _ T5 12
 have b1 := begin_c i2 (10 + life)
 have j1 := bgD_i i2 (10 + life)
 have s1 := bgD_t0 (10 + life) i2.t8 T2.t
 have z1 : (bgD d2 (10 + life)).rq = [rq1 id life j p f t] := by show expQ d2.rq _ = _; rw [q2]; simp [expQ, rq1]
 have o1 := j1.2.1.trans F2.ag
 have o2 := j1.2.2.trans F2.n
 generalize bgD d2 (10 + life) = B1 at *
 have b2 := begin_c j1.1 (11 + life)
 have j2 := bgD_i j1.1 (11 + life)
 have s2 := bgD_t0 (11 + life) j1.1.t8 s1
 have z2 : (bgD B1 (11 + life)).rq = [] := by show expQ B1.rq _ = _; rw [z1]; simp [expQ, rq1]
 have o3 := j2.2.1.trans o1
 have o4 := j2.2.2.trans o2
 generalize bgD B1 (11 + life) = B2 at *
 obtain ⟨p8, e8, h8⟩ := list0 B2 ⟨j2.1, s2, o4, o3⟩ 12
 rw [z2] at h8
 exact ⟨d1, d2, _, _, B1, B2, p1, p2, p3, p4, p5, p6, p7, p8, q2, rfl, rfl, z1, z2, e1, h1, e2, h2, e3, h3, e4, h4, e5, h5, b1, b2, e6, h6, e7, h7, e8, h8⟩
theorem tk_set (x y : AV) (l : List AV) : List.take (x :: l).length (List.drop 0 ((x :: l).set (Int.toNat 0) y)) = y :: l := by
 show List.take (l.length + 1) (y :: l) = y :: l
 exact List.take_of_length_le (by simp)
theorem submits_c (l : List Int) (hl : l.length ≤ 9223372036854775807) (id life way : Int) : CallSim Tryz.prog 7 [slA iA l, iA id, iA life, iA way] [] (bA true) [] := by
 have ka := awake26_c
 have kn := new_c l hl
 generalize (⟨l, 0, Nat.zero_le _, hl⟩ : Dk) = d0 at *
 have kc := config_own d0 63
 have hn := cfF_n d0 63
 have hw := cfF_w d0 63
 have hag := cfF_ag d0 63 (by omega) 0 (by omega) (by omega)
 obtain ⟨e9, he9⟩ : ∃ e, (cfF d0 63).ags.getD 0 default = agF e 0 63 := by
  have h := hn.2.2.1
  rw [cfF_ags, caL_len] at h
  rw [cfF_ags]
  exact caL_agF _ _ _ 0 (by omega)
 generalize cfF d0 63 = c at *
 generalize cfD d0 63 = e0 at *
 obtain ⟨a, al, has⟩ : ∃ a al, c.ags = a :: al := by
  cases hca : c.ags with
  | nil => rw [hca] at hn; simp at hn
  | cons a al => exact ⟨a, al, rfl⟩
 have ha : c.ags.getD 0 default = a := by rw [has]; rfl
 rw [show (0 : Int).toNat = 0 from rfl, ha] at hag
 rw [ha] at he9
 have hcl : a.cls = 3 := by rw [he9]; rfl
 have hlim : 0 < a.lim.getD 0 default := by
  have := nx_bd e9 (3 - 1 + 1) (by omega)
  rw [he9]
  show 0 < 1 + nx e9 (3 - 1 + 1)
  omega
 obtain ⟨a2, ha2⟩ : ∃ a2 : Ag, a2 = ⟨a.sec, a.rights, a.cls, a.lim, a.req, a.ses, 20, 20⟩ := ⟨_, rfl⟩
 obtain ⟨c2, hc2⟩ : ∃ c2 : Cf, c2 = ⟨c.js, a2 :: al, c.per, c.cap, c.hold, c.lock⟩ := ⟨_, rfl⟩
 have hv2 : AgV a2 := by rw [ha2]; exact ⟨hag.1.v.s, hag.1.v.l, hag.1.v.li, hag.1.v.r, hag.1.v.c, hag.1.v.q, hag.1.v.e, ⟨by show (0 : Int) ≤ 20; decide, by show (20 : Int) ≤ 1000; decide⟩, ⟨by show (0 : Int) ≤ 20; decide, by show (20 : Int) ≤ 20; decide⟩⟩
 have hsl : a2.sec.length ≤ 1000000 := by have := hv2.s; omega
 have hrq := hag.1.q
 have hjl := map_len jnA c.js
 have n1 := next_c e0 (c.js.length : Int) (by omega) (by omega)
 have w1 := nx_bd e0 (c.js.length : Int) (by omega)
 have hyj := map_atI jnA c.js (nx e0 (c.js.length : Int)) w1.1 w1.2
 have hph := hw.at w1.1 (by rw [hjl]; exact w1.2)
 generalize hj9 : nx e0 (c.js.length : Int) = j at *
 generalize ad e0 = e1 at *
 have hpl := map_len phA (c.js.getD j.toNat default).ph
 have n2 := next_c e1 ((c.js.getD j.toNat default).ph.length : Int) (by omega) (by omega)
 have w2 := nx_bd e1 ((c.js.getD j.toNat default).ph.length : Int) (by omega)
 generalize nx e1 ((c.js.getD j.toNat default).ph.length : Int) = p at *
 generalize ad e1 = e2 at *
 have n3 := next_c e2 9 (by omega) (by omega)
 have w3 := nx_bd e2 9 (by omega)
 generalize nx e2 9 = f at *
 generalize ad e2 = e3 at *
 have n4 := next_c e3 30 (by omega) (by omega)
 have w4 := nx_bd e3 30 (by omega)
 generalize nx e3 30 = t at *
 generalize ad e3 = e4 at *
 have m1 := mod_c id 1000 (by omega) (by omega)
 have m2 := mod_c life 50 (by omega) (by omega)
 have m3 := mod_c way 3 (by omega) (by omega)
 have u1 := Int.emod_nonneg id (show (1000 : Int) ≠ 0 by omega)
 have u2 := Int.emod_lt_of_pos id (show (0 : Int) < 1000 by omega)
 have u3 := Int.emod_nonneg life (show (50 : Int) ≠ 0 by omega)
 have u4 := Int.emod_lt_of_pos life (show (0 : Int) < 50 by omega)
 have u5 := Int.emod_nonneg way (show (3 : Int) ≠ 0 by omega)
 have u6 := Int.emod_lt_of_pos way (show (0 : Int) < 3 by omega)
 generalize id % 1000 = id1 at *
 generalize life % 50 = lf1 at *
 generalize way % 3 = wy at *
 have hpl2 : Pl c2 id1 (1 + lf1) j p f (9 + t) := by
  rw [hc2]
  exact ⟨⟨u1, u2⟩, ⟨by omega, by omega⟩, ⟨w1.1, w1.2, by omega⟩, ⟨w2.1, w2.2, by omega⟩, w3, ⟨by omega, by omega⟩⟩
 obtain ⟨d1, d2, d3, d4, b1, b2, p1, p2, p3, p4, p5, p6, p7, p8, q2, q3, q4, z1, z2, E1, H1, E2, H2, E3, H3, E4, H4, E5, H5, B1, B2, E6, H6, E7, H7, E8, H8⟩ := story c2 a2 hv2 (by rw [ha2]; exact hag.2) (by rw [ha2]; show BY a.sec; rw [hag.1.s]; exact secF_by _) (by rw [ha2]) (by rw [ha2]; exact hcl) (by rw [ha2]; exact hlim) (by rw [ha2]; exact hrq.1) _ _ _ _ _ _ hpl2
 have k0 := (dnewB 0 a2 hv2).1
 generalize dskN 0 a2 a2.ses.toNat = d9 at *
 have t1 := tell_c c2 a2 hsl d9 d1 4 10 [5, 0] p1 (ackM 4 5) E1 H1
 have t2 := tell_c c2 a2 hsl d1 d2 6 10 _ p2 (ackM 6 id1) E2 H2
 have t3 := tell_c c2 a2 hsl d2 d2 9 10 [] p3 _ E3 H3
 have t4 := tell_c c2 a2 hsl d2 d3 8 11 _ p4 _ E4 H4
 have t5 := tell_c c2 a2 hsl d2 d4 5 11 _ p5 _ E5 H5
 have t6 := tell_c c2 a2 hsl d3 d3 9 12 [] p6 _ E6 H6
 have t7 := tell_c c2 a2 hsl d4 d4 9 12 [] p7 _ E7 H7
 have t8 := tell_c c2 a2 hsl b2 b2 9 12 [] p8 _ E8 H8
 clear E1 H1 E2 H2 E3 H3 E4 H4 E5 H5 E6 H6 E7 H7 E8 H8 hpl2 hv2 hag he9 hw hlim hcl ha hj9
 unfold agL cfL dskL at t1 t2 t3 t4 t5 t6 t7 t8
 unfold dskA dskX at k0 B1 B2
 rw [q2] at t2 t3 t4 t5 B1
 rw [q3] at t4 t6
 rw [q4] at t5 t7
 rw [z1] at B1 B2
 rw [z2] at B2 t8
 clear q2 q3 q4 z1 z2
 rw [ha2, show agA ⟨a.sec, a.rights, a.cls, a.lim, a.req, a.ses, 20, 20⟩ = .agg [slA yA a.sec, iA a.rights, iA a.cls, slA iA a.lim, iA a.req, iA a.ses, iA 20, iA 20] from rfl] at k0
 rw [show c2.ags.map agA = .agg [slA yA a.sec, iA a.rights, iA a.cls, slA iA a.lim, iA a.req, iA a.ses, iA 20, iA 20] :: al.map agA by rw [hc2, ha2]; rfl, show c2.js = c.js by rw [hc2], show c2.per = c.per by rw [hc2], show c2.cap = c.cap by rw [hc2], show c2.hold = c.hold by rw [hc2], show c2.lock = c.lock by rw [hc2], show a2.sec = a.sec by rw [ha2], show a2.rights = a.rights by rw [ha2], show a2.cls = a.cls by rw [ha2], show a2.lim = a.lim by rw [ha2], show a2.req = a.req by rw [ha2], show a2.ses = a.ses by rw [ha2], show a2.rate = 20 by rw [ha2], show a2.burst = 20 by rw [ha2]] at t1 t2 t3 t4 t5 t6 t7 t8
 clear ha2 hc2
 unfold cfO at kc
 rw [has, List.map_cons] at kc
 rw [show agA a = .agg [slA yA a.sec, iA a.rights, iA a.cls, slA iA a.lim, iA a.req, iA a.ses, iA a.rate, iA a.burst] from rfl] at kc
 have hal := map_len agA al
 generalize al.map agA = AL at *
 have hcn : (AV.agg [slA yA a.sec, iA a.rights, iA a.cls, slA iA a.lim, iA a.req, iA a.ses, iA a.rate, iA a.burst] :: AL).length = AL.length + 1 := rfl
 (refine eN Tryz.func7 Tryz.call7 fun F hF => ?_)
 (have zc1 := kn; have zc2 := kc; refine WW ?_; clear zc1 zc2)
 refine is_ops ?_
 refine is_call ?_
 refine is_fn 14 ?_
 refine x_restr [1000, 10, 11] [33, 2, 3, 9, 10, 11] rfl ?_
 (conv => whnf)
 rw [tk_set]
 rw [← hjl] at n1
 rw [← hpl] at n2
 unfold jnA slA at hyj
 unfold ackM at t1 t2 t4 t5
 unfold msA at t1 t2 t3 t4 t5 t6 t7 t8
 have hwy : wy = 0 ∨ wy = 1 ∨ wy = 2 := by omega
 (have zc1 := m1; have zc2 := m2; have zc3 := n1; have zc4 := n2; have zc5 := n3; have zc6 := n4; have zc7 := k0; have zc8 := t1; have zc9 := t2; refine WL ?_; clear zc1 zc2 zc3 zc4 zc5 zc6 zc7 zc8 zc9)
 rcases hwy with rfl | rfl | rfl
 ·(have zc1 := m3; have zc2 := ka; have zc3 := t3; have zc4 := t4; have zc5 := t6; (repeat' (first | refine WY ?_ | refine SG (I2 (fun hc => ?_) (fun hc => ?_)) | refine SG (fun hc => ?_) | (refine is_ops ?_; refine is_call ?_; refine SC ?_) | (refine is_ops ?_; first | refine SF ?_ | refine SL ?_) | refine SB ?_ | first | refine SR ?_ | refine SK (I2 (fun hc => ?_) (fun hc => ?_)) | refine SK (fun hc => ?_) | fail)) <;> clear zc1 zc2 zc3 zc4 zc5)
  all_goals first | exact fr0 | (exfalso; first | (simp [eqY_refl] at hc; done) | (revert hc; simp [eqY_refl]; done))
 ·(have zc1 := m3; have zc2 := ka; have zc3 := t3; have zc4 := t5; have zc5 := t7; (repeat' (first | refine WY ?_ | refine SG (I2 (fun hc => ?_) (fun hc => ?_)) | refine SG (fun hc => ?_) | (refine is_ops ?_; refine is_call ?_; refine SC ?_) | (refine is_ops ?_; first | refine SF ?_ | refine SL ?_) | refine SB ?_ | first | refine SR ?_ | refine SK (I2 (fun hc => ?_) (fun hc => ?_)) | refine SK (fun hc => ?_) | fail)) <;> clear zc1 zc2 zc3 zc4 zc5)
  all_goals first | exact fr0 | (exfalso; first | (simp [eqY_refl] at hc; done) | (revert hc; simp [eqY_refl]; done))
 ·(have zc1 := m3; have zc2 := ka; have zc3 := B1; have zc4 := B2; have zc5 := t3; have zc6 := t8; (repeat' (first | refine WY ?_ | refine SG (I2 (fun hc => ?_) (fun hc => ?_)) | refine SG (fun hc => ?_) | (refine is_ops ?_; refine is_call ?_; refine SC ?_) | (refine is_ops ?_; first | refine SF ?_ | refine SL ?_) | refine SB ?_ | first | refine SR ?_ | refine SK (I2 (fun hc => ?_) (fun hc => ?_)) | refine SK (fun hc => ?_) | fail)) <;> clear zc1 zc2 zc3 zc4 zc5 zc6)
  all_goals first | exact fr0 | (exfalso; first | (simp [eqY_refl] at hc; done) | (revert hc; simp [eqY_refl]; done))
end Av
end Go.Proofs.YtaikgchmpieooaaGreat
