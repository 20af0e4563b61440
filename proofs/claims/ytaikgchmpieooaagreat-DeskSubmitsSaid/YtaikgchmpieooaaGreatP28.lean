/- Part 28: contracts of the functions, and what they rest upon. -/
import Derived.Test.YtaikgchmpieooaaGreatP27
namespace Go.Proofs.YtaikgchmpieooaaGreat
namespace Av
set_option linter.unusedSimpArgs false
set_option linter.unusedVariables false
section
set_option maxRecDepth 4000
set_option maxHeartbeats 2000000
def wnA (p : Int × Int) : AV := .agg [iA p.1, iA p.2]
def nwL (now : Int) (g : Lg) (p : Int × Int) : Lg := ⟨g.jn, g.ph, now + p.1, now + p.2, g.sc⟩
def okW (now : Int) (g : Lg) (p : Int × Int) : Bool := mwB g.jn g.ph p.1 p.2 now
def wokF (gs : List Lg) (w : List (Int × Int)) (now : Int) : Bool := (gs.zipWith (okW now) w).all id
def updE (l : List Rq) (id : Int) (w : List (Int × Int)) (now : Int) : Int :=
 if hasQ l id = true then (if w.length = (fdQ l id).legs.length ∧ wokF (fdQ l id).legs w now = true then 0 else 8) else 12
def updF (l : List Rq) (id : Int) (w : List (Int × Int)) (now : Int) : List Rq := l.map fun r => if r.id = id then ⟨r.id, r.vh, r.cls, r.til, r.legs.zipWith (nwL now) w⟩ else r
def upN (gs : List Lg) (w : List (Int × Int)) (now : Int) (i : Nat) : List Lg := (gs.take i).zipWith (nwL now) (w.take i) ++ gs.drop i
theorem upN_len {gs : List Lg} {w : List (Int × Int)} {now : Int} {i : Nat} (h : w.length = gs.length) (hi : i ≤ gs.length) : (upN gs w now i).length = gs.length := by
 unfold upN
 rw [List.length_append, List.length_zipWith, List.length_take, List.length_take, List.length_drop]
 omega
theorem upN_at {gs : List Lg} {w : List (Int × Int)} {now : Int} {i : Nat} (h : w.length = gs.length) (hi : i < gs.length) : ((upN gs w now i).map lgA)[i]? = some (lgA (gs.getD i default)) := by
 unfold upN
 have e : ((gs.take i).zipWith (nwL now) (w.take i)).length = i := by rw [List.length_zipWith, List.length_take, List.length_take]; omega
 rw [List.getElem?_map, List.getElem?_append_right (by omega), e, Nat.sub_self, List.getElem?_drop]
 simp [List.getD, hi]
theorem upN_set {gs : List Lg} {w : List (Int × Int)} {now : Int} {i : Nat} (h : w.length = gs.length) (hi : i < gs.length) : ((upN gs w now i).map lgA).set i (lgA (nwL now (gs.getD i default) (w.getD i default))) = (upN gs w now (i + 1)).map lgA := by
 unfold upN
 have e : ((gs.take i).zipWith (nwL now) (w.take i)).length = i := by rw [List.length_zipWith, List.length_take, List.length_take]; omega
 rw [← List.map_set, List.set_append_right _ _ (by omega), e, Nat.sub_self, List.drop_eq_getElem_cons hi, List.set_cons_zero]
 rw [List.take_add_one, List.take_add_one, List.zipWith_append (by rw [List.length_take, List.length_take]; omega)]
 rw [List.getElem?_eq_getElem hi, List.getElem?_eq_getElem (by omega)]
 simp [List.getD, hi, show i < w.length by omega]
theorem upN_0 (gs : List Lg) (w : List (Int × Int)) (now : Int) : upN gs w now 0 = gs := by simp [upN]
theorem upN_all {gs : List Lg} {w : List (Int × Int)} {now : Int} (h : w.length = gs.length) : upN gs w now gs.length = gs.zipWith (nwL now) w := by
 unfold upN
 rw [List.take_length, ← h, List.take_length, h, List.drop_length, List.append_nil]
theorem wok_all {gs : List Lg} {w : List (Int × Int)} {now : Int} (h : w.length = gs.length) (ha : ∀ i, i < gs.length → okW now (gs.getD i default) (w.getD i default) = true) : wokF gs w now = true := by
 unfold wokF
 rw [List.all_eq_true]
 intro b hb
 obtain ⟨i, hi, rfl⟩ := List.mem_iff_getElem.1 hb
 rw [List.length_zipWith] at hi
 have := ha i (by omega)
 rw [List.getElem_zipWith]
 simpa [List.getD, show i < gs.length by omega, show i < w.length by omega] using this
theorem wok_no {gs : List Lg} {w : List (Int × Int)} {now : Int} {i : Nat} (h : w.length = gs.length) (hi : i < gs.length) (ha : okW now (gs.getD i default) (w.getD i default) = false) : wokF gs w now = false := by
 unfold wokF
 rw [List.all_eq_false]
 refine ⟨okW now (gs.getD i default) (w.getD i default), ?_, by rw [ha]; decide⟩
 have : (gs.zipWith (okW now) w)[i]? = some (okW now (gs.getD i default) (w.getD i default)) := by
  rw [List.getElem?_zipWith, List.getElem?_eq_getElem hi, List.getElem?_eq_getElem (by omega)]
  simp [List.getD, hi, show i < w.length by omega]
 exact List.mem_of_getElem? this
theorem updF_at {l pre post : List Rq} {x : Rq} {id : Int} {w : List (Int × Int)} {now : Int} (hL : l = pre ++ x :: post) (hv : RqV l) (hx : x.id = id) : updF l id w now = pre ++ ⟨x.id, x.vh, x.cls, x.til, x.legs.zipWith (nwL now) w⟩ :: post := by
 have hs := hv.so
 rw [hL, List.pairwise_append, List.pairwise_cons] at hs
 obtain ⟨_, ⟨h2, _⟩, h3⟩ := hs
 unfold updF
 rw [hL, List.map_append, List.map_cons, if_pos hx]
 congr 1
 ·conv => rhs; rw [← List.map_id pre]
  refine List.map_congr_left fun y hy => ?_
  have := h3 y hy x (by simp)
  rw [if_neg (by omega)]
  rfl
 ·congr 1
  conv => rhs; rw [← List.map_id post]
  refine List.map_congr_left fun y hy => ?_
  have := h2 y hy
  rw [if_neg (by omega)]
  rfl
theorem csX_fin {h : Heap} {pre post : List Rq} {x : Rq} {b : Bool} {gs : List Lg} (h1 : h 1001 = some (.arr 5 (csX pre x post 1101) ⟨b, true⟩)) (h2 : h 1101 = some (.arr 5 (gs.map lgA) false)) (hl : gs.length = x.legs.length) :
  frzV [] h (.ref 1001 0 (csX pre x post 1101).length) = slA rqA (pre ++ ⟨x.id, x.vh, x.cls, x.til, gs⟩ :: post) := by
 have e : frz0L [] h (csX pre x post 1101) = (pre ++ ⟨x.id, x.vh, x.cls, x.til, gs⟩ :: post).map rqA := by
  unfold csX
  rw [frz0L_app, frz0L_rq, frz0L, frz0L_rq, List.map_append, List.map_cons]
  congr 1
  congr 1
  show AV.agg [iA x.id, iA x.vh, iA x.cls, iA x.til, frz0 [] h (.ref 1101 0 (x.legs.map lgA).length)] = _
  have e2 : frz0 [] h (.ref 1101 0 (x.legs.map lgA).length) = slA lgA gs := by
   simp only [frz0, h2]
   show AV.sl false (((gs.map lgA).drop 0).take (x.legs.map lgA).length) = _
   rw [List.drop_zero, List.length_map, List.take_of_length_le (by rw [List.length_map, hl]; exact Nat.le_refl _)]
   rfl
  rw [e2]
  rfl
 have hl2 : (csX pre x post 1101).length = ((pre ++ ⟨x.id, x.vh, x.cls, x.til, gs⟩ :: post).map rqA).length := by rw [csX_len]; simp; omega
 rw [hl2]
 simp only [frzV, h1]
 show (bif nokeys (frz0L [] h (csX pre x post 1101)) then AV.sl false (((frz0L [] h (csX pre x post 1101)).drop 0).take _) else .bot) = _
 rw [e, nokeys_rq, List.drop_zero, List.take_length]
 rfl
theorem fdQ_split {l : List Rq} {id : Int} (h : hasQ l id = true) : ∃ pre x post, l = pre ++ x :: post ∧ x.id = id ∧ (∀ y ∈ pre, y.id ≠ id) ∧ fdQ l id = x ∧ ixF (fun r : Rq => r.id == id) l = (pre.length : Int) := by
 induction l with
 | nil => cases h
 | cons a l ih =>
  by_cases ha : a.id = id
  ·refine ⟨[], a, l, rfl, ha, by simp, (fdQ_hit (pre := []) rfl (by simp) ha).1, ixF_hit (pre := []) rfl (by simp) (by simpa using ha)⟩
  ·have h2 : hasQ l id = true := by simpa [hasQ, ha] using h
   obtain ⟨pre, x, post, e1, e2, e3, _, _⟩ := ih h2
   have hp : ∀ y ∈ a :: pre, y.id ≠ id := fun y hy => by
    rcases List.mem_cons.1 hy with rfl | hy
    ·exact ha
    ·exact e3 y hy
   have e : a :: l = (a :: pre) ++ x :: post := by rw [e1]; rfl
   exact ⟨a :: pre, x, post, e, e2, hp, (fdQ_hit e hp e2).1, ixF_hit e (fun y hy => by simpa using hp y hy) (by simpa using e2)⟩
theorem update_q (l : List Rq) (id : Int) (w : List (Int × Int)) (now : Int) (hv : RqV l) (hw : w.length ≤ 1000) (n0 : 0 ≤ now) (n1 : now ≤ 1073741824) :
  CallSim Tryz.prog 123 [slA rqA l, iA id, slA wnA w, iA now] [] (.tup [slA rqA (if updE l id w now = 0 then updF l id w now else []), iA (updE l id w now)]) [] := by
 have h4 := hv.n4
 have hlw := map_len wnA w
 have c1 := qvalid_c l 4 hv (by omega)
 have c2 := rtick_c now
 have c3 := qindex_c l id (by omega)
 rw [decide_eq_true ⟨n0, n1⟩] at c2
 cases hh : hasQ l id with
 | false =>
  have hx := ixF_none (p := fun x : Rq => x.id == id) (l := l) (by simpa [hasQ] using hh)
  rw [hx] at c3
  have e : updE l id w now = 12 := if_neg (by rw [hh]; decide)
  rw [e, if_neg (by decide)]
  (refine eN Tryz.func123 Tryz.call123 fun F hF => ?_)
  (have zc1 := c1; have zc2 := c2; have zc3 := c3; refine WW ?_; clear zc1 zc2 zc3)
  exact fr0
 | true =>
 obtain ⟨pre, x, post, hL, hx, _, hf, hix⟩ := fdQ_split hh
 rw [hix] at c3
 have hup := updF_at (w := w) (now := now) hL hv hx
 have e0 : updE l id w now = if w.length = x.legs.length ∧ wokF x.legs w now = true then 0 else 8 := by unfold updE; rw [if_pos hh, hf]
 have hlen : l.length = pre.length + 1 + post.length := by rw [hL]; simp; omega
 have hxl := hv.lg3 (r := x) (by rw [hL]; simp)
 have c4 := cloneAll_at pre x post l hL (by omega) (fun r hr => by have := hv.lg3 hr; omega)
 have hcl := csX_len pre x post 1101
 have hfr := fun h => csX_frz h pre x post true
 have hat : (csX pre x post 1101)[((pre.length : Int)).toNat]? = some (rqO x 1101) := by unfold csX; simp
 have hfin := fun h gs => csX_fin (h := h) (pre := pre) (post := post) (x := x) (b := true) (gs := gs)
 have hlx := map_len lgA x.legs
 generalize csX pre x post 1101 = cs at *
 clear hL hv hix hf hh hx
 by_cases hwl : w.length = x.legs.length
 case neg =>
  rw [if_neg (fun h => hwl h.1)] at e0
  rw [e0, if_neg (by decide)]
  (refine eN Tryz.func123 Tryz.call123 fun F hF => ?_)
  (have zc1 := c1; have zc2 := c2; have zc3 := c3; have zc4 := c4; refine WW ?_; clear zc1 zc2 zc3 zc4)
  exact fr0
 (refine eN Tryz.func123 Tryz.call123 fun F hF => ?_)
 (have zc1 := c1; have zc2 := c2; have zc3 := c3; have zc4 := c4; refine WW ?_; clear zc1 zc2 zc3 zc4)
 refine sim_loop_r (fun n st => ∃ i, n + i = x.legs.length ∧ (∀ j, j < i → okW now (x.legs.getD j default) (w.getD j default) = true) ∧ st = (⟨[(44, iA i), (3, iA now), (11, .ref 1001 0 cs.length), (12, .ref 1101 0 (x.legs.map lgA).length), (42, slA wnA w), (43, iA (w.map wnA).length)], [(1001, .arr 5 cs ⟨true, true⟩), (1101, .arr 5 ((upN x.legs w now i).map lgA) false)]⟩ : St)) x.legs.length [1001, 1101] [44, 3, 11, 12, 42, 43] rfl ⟨0, by omega, fun j hj => absurd hj (Nat.not_lt_zero _), ?_⟩ ?_
 ·rw [upN_0]
  refine congrArg (St.mk _) ?_
  show [(1001, frzE [1001, 1101] _ (.arr 5 cs ⟨true, true⟩)), (1101, lgE x)] = _
  rw [hfr]
  rfl
 rintro n st ⟨i, hi, hok, rfl⟩
 by_cases hil : i < x.legs.length
 ·have hul := upN_len (i := i) (now := now) hwl (by omega)
  have hlu := map_len lgA (upN x.legs w now i)
  have hy2 := map_at wnA w i (by omega)
  have hy := upN_at (now := now) hwl hil
  have hst := upN_set (now := now) hwl hil
  have c5 := wmake_c (x.legs.getD i default).jn (x.legs.getD i default).ph (w.getD i default).1 (w.getD i default).2 now
  cases hb : okW now (x.legs.getD i default) (w.getD i default) with
  | false =>
   have hno := wok_no hwl hil hb
   rw [if_neg (fun h => by rw [hno] at h; cases h.2)] at e0
   rw [e0, if_neg (by decide)]
   unfold okW at hb
   unfold mwF at c5
   rw [hb, if_neg Bool.false_ne_true, if_neg Bool.false_ne_true] at c5
   clear hok hfin hup hno hst
   generalize x.legs.getD i default = g at *
   generalize w.getD i default = q at *
   generalize (upN x.legs w now i).map lgA = ys at *
   (have zc1 := c5; refine WW ?_; clear zc1)
   exact fr0
  | true =>
   have hok2 : ∀ j, j < i + 1 → okW now (x.legs.getD j default) (w.getD j default) = true := fun j hj => by
    by_cases hji : j = i
    ·rw [hji]; exact hb
    ·exact hok j (by omega)
   unfold okW at hb
   unfold mwF at c5
   rw [hb, if_pos rfl, if_pos rfl] at c5
   have hset : ∀ y : AV, (((upN x.legs w now i).map lgA).set i y)[i]? = some y := fun y => List.getElem?_set_self (by omega)
   clear hok hfin hup e0 hb
   generalize x.legs.getD i default = g at *
   generalize w.getD i default = q at *
   generalize (upN x.legs w now i).map lgA = ys at *
   (have zc1 := c5; (repeat' (first | refine WT ?_ | refine SG (I2 (fun hc => ?_) (fun hc => ?_)) | refine SG (fun hc => ?_) | (refine is_ops ?_; refine is_call ?_; refine SC ?_) | (refine is_ops ?_; first | (refine is_sto ?_; refine x_sto1 tok rfl rfl rfl (hset _) rfl rfl rfl rfl rfl rfl rfl rfl ?_) | refine SM ?_) | refine SB ?_ | first | refine SR ?_ | refine SK (I2 (fun hc => ?_) (fun hc => ?_)) | refine SK (fun hc => ?_) | fail)) <;> clear zc1)
   refine ⟨n - 1, by omega, i + 1, by omega, hok2, ?_⟩
   refine congrArg (St.mk _) ?_
   show [(1001, frzE [1001, 1101] _ (.arr 5 cs ⟨true, true⟩)), (1101, .arr 5 ((ys.set i _).set i (lgA (nwL now g q))) false)] = _
   rw [hfr, List.set_set, hst]
 ·obtain rfl : i = x.legs.length := by omega
  have hul := upN_len (i := x.legs.length) (now := now) hwl (Nat.le_refl _)
  have hyes := wok_all hwl hok
  rw [if_pos ⟨hwl, hyes⟩] at e0
  rw [e0, if_pos rfl, hup]
  rw [upN_all hwl] at hul ⊢
  generalize x.legs.zipWith (nwL now) w = gs at *
  (refine WW ?_)
  refine fin_ret [] rfl rfl ?_ rfl
  show AV.tup [wkV (frzV [] _ (.ref 1001 0 cs.length)), iA 0] = _
  rw [hfin _ gs rfl rfl hul]
  rfl
end
section
set_option maxRecDepth 4000
set_option maxHeartbeats 2000000
theorem csX_frzK (K : List Nat) (hK : K.contains 1101 = true) (h : Heap) (pre : List Rq) (x : Rq) (post : List Rq) (b : Bool) : frzE K h (.arr 5 (csX pre x post 1101) ⟨b, true⟩) = .arr 5 (csX pre x post 1101) ⟨b, true⟩ := by
 have e0 : frzV K h (rqO x 1101) = rqO x 1101 := by
  show AV.agg [_, _, _, _, bif K.contains 1101 then .ref 1101 0 (x.legs.map lgA).length else _] = _
  rw [hK]
  rfl
 have e : frzL K h (csX pre x post 1101) = csX pre x post 1101 := by
  unfold csX
  rw [frzL_app, frzL_rq, frzL, frzL_rq, e0]
 have e2 : nokeys (csX pre x post 1101) = false := by
  unfold csX
  rw [nokeys_app, nokeys_rq, nokeys]
  rfl
 show Ent.arr 5 (frzL K h (csX pre x post 1101)) ⟨b, !nokeys (frzL K h (csX pre x post 1101))⟩ = _
 rw [e, e2]
 rfl
theorem update2_q (l : List Rq) (id : Int) (w : List (Int × Int)) (now : Int) (hv : RqV l) (hw : w.length ≤ 1000) (n0 : 0 ≤ now) (n1 : now ≤ 1073741824) :
  CallSim Tryz.prog 134 [slA rqA l, iA id, slA wnA w, iA now] [] (.tup [slA rqA (if updE l id w now = 0 then updF l id w now else []), iA (updE l id w now)]) [] := by
 have h4 := hv.n4
 have hlw := map_len wnA w
 have c1 := qvalid2_c l 4 hv (by omega)
 have c2 := within19_c now 0 1073741824
 rw [decide_eq_true ⟨n0, n1⟩] at c2
 cases hh : hasQ l id with
 | false =>
  have c3 := copy2_q l (by omega) (fun r hr => by have := hv.lg3 hr; omega)
  have e : updE l id w now = 12 := if_neg (by rw [hh]; decide)
  have hno : ∀ r ∈ l, r.id ≠ id := by simpa [hasQ] using hh
  have hl := map_len rqA l
  rw [e, if_neg (by decide)]
  clear hh e
  (refine eN Tryz.func134 Tryz.call134 fun F hF => ?_)
  (have zc1 := c1; have zc2 := c2; have zc3 := c3; refine WW ?_; clear zc1 zc2 zc3)
  (refine sim_cnt (l.length) [] [] [1, 2, 3, 10, 27, 28] [29, 1, 2, 3, 10, 27, 28] rfl (fun i T U => ⟨(29, iA i) :: T, U⟩) ?_; (conv => whnf); refine ⟨by rfl, ?_, ?_⟩)
  ·intro i hi
   have hy := map_at rqA l i hi
   have hm := hno (l.getD i default) (by simp [List.getD, hi])
   generalize l.getD i default = r at *
   (refine WW ?_)
   rfl
  ·(refine WW ?_)
   exact fr0
 | true =>
 obtain ⟨pre, x, post, hL, hx, hpn, hf, _⟩ := fdQ_split hh
 have hup := updF_at (w := w) (now := now) hL hv hx
 have e0 : updE l id w now = if w.length = x.legs.length ∧ wokF x.legs w now = true then 0 else 8 := by unfold updE; rw [if_pos hh, hf]
 have hlen : l.length = pre.length + 1 + post.length := by rw [hL]; simp; omega
 have hxl := hv.lg3 (r := x) (by rw [hL]; simp)
 have c4 := copy_at pre x post l hL (by omega) (fun r hr => by have := hv.lg3 hr; omega)
 have hcl := csX_len pre x post 1101
 have hfr := fun h => csX_frz h pre x post true
 have hfr2 := fun h => csX_frzK [12, 1001, 1101] rfl h pre x post true
 have hat : (csX pre x post 1101)[pre.length]? = some (rqO x 1101) := by unfold csX; simp
 have hbef : ∀ i, i < pre.length → ∃ r : Rq, r.id ≠ id ∧ (csX pre x post 1101)[i]? = some (rqA r) := fun i hi => by
  refine ⟨pre[i], hpn _ (List.getElem_mem hi), ?_⟩
  unfold csX
  rw [List.getElem?_append_left (by simpa using hi)]
  simp [hi]
 have hfin := fun h gs => csX_fin (h := h) (pre := pre) (post := post) (x := x) (b := true) (gs := gs)
 have hlx := map_len lgA x.legs
 generalize csX pre x post 1101 = cs at *
 clear hL hv hf hh hpn
 (refine eN Tryz.func134 Tryz.call134 fun F hF => ?_)
 (have zc1 := c1; have zc2 := c2; have zc3 := c4; refine WW ?_; clear zc1 zc2 zc3)
 refine sim_loop_r (fun n st => ∃ i, n + i = pre.length ∧ st = (⟨[(29, iA i), (1, iA id), (2, slA wnA w), (3, iA now), (10, .ref 1001 0 cs.length), (27, .ref 1001 0 cs.length), (28, iA cs.length)], [(1001, .arr 5 cs ⟨true, true⟩), (1101, lgE x)]⟩ : St)) pre.length [1001, 1101] [29, 1, 2, 3, 10, 27, 28] rfl ⟨0, by omega, ?_⟩ ?_
 ·refine congrArg (St.mk _) ?_
  show [(1001, frzE [1001, 1101] _ (.arr 5 cs ⟨true, true⟩)), (1101, lgE x)] = _
  rw [hfr]
 rintro n st ⟨i, hi, rfl⟩
 by_cases hil : i < pre.length
 ·obtain ⟨r, hr, hy⟩ := hbef i hil
  clear hfin hbef hat
  (refine WW ?_)
  refine ⟨n - 1, by omega, i + 1, by omega, ?_⟩
  refine congrArg (St.mk _) ?_
  show [(1001, frzE [1001, 1101] _ (.arr 5 cs ⟨true, true⟩)), (1101, lgE x)] = _
  rw [hfr]
 obtain rfl : i = pre.length := by omega
 clear hbef hfr hi
 have hat2 : cs[((pre.length : Int)).toNat]? = some (rqO x 1101) := hat
 by_cases hwl : w.length = x.legs.length
 case neg =>
  rw [if_neg (fun h => hwl h.1)] at e0
  rw [e0, if_neg (by decide)]
  clear hfin
  (refine WW ?_)
  exact fr0
 (refine WW ?_)
 refine sim_loop_r (fun n st => ∃ i, n + i = x.legs.length ∧ (∀ j, j < i → okW now (x.legs.getD j default) (w.getD j default) = true) ∧ st = (⟨[(46, iA i), (3, iA now), (10, .ref 1001 0 cs.length), (11, iA pre.length), (12, .ptr 12 0 0), (44, slA wnA w), (45, iA (w.map wnA).length)], [(12, .box [iA x.id, iA x.vh, iA x.cls, iA x.til, .ref 1101 0 (x.legs.map lgA).length]), (1001, .arr 5 cs ⟨true, true⟩), (1101, .arr 5 ((upN x.legs w now i).map lgA) false)]⟩ : St)) x.legs.length [12, 1001, 1101] [46, 3, 10, 11, 12, 44, 45] rfl ⟨0, by omega, fun j hj => absurd hj (Nat.not_lt_zero _), ?_⟩ ?_
 ·rw [upN_0]
  refine congrArg (St.mk _) ?_
  show [(12, .box [iA x.id, iA x.vh, iA x.cls, iA x.til, .ref 1101 0 (x.legs.map lgA).length]), (1001, frzE [12, 1001, 1101] _ (.arr 5 cs ⟨true, true⟩)), (1101, lgE x)] = _
  rw [hfr2]
  rfl
 rintro n st ⟨i, hi, hok, rfl⟩
 by_cases hil : i < x.legs.length
 ·have hul := upN_len (i := i) (now := now) hwl (by omega)
  have hlu := map_len lgA (upN x.legs w now i)
  have hy2 := map_at wnA w i (by omega)
  have hy := upN_at (now := now) hwl hil
  have hst := upN_set (now := now) hwl hil
  have c5 := wmake2_c (x.legs.getD i default).jn (x.legs.getD i default).ph (w.getD i default).1 (w.getD i default).2 now
  cases hb : okW now (x.legs.getD i default) (w.getD i default) with
  | false =>
   have hno := wok_no hwl hil hb
   rw [if_neg (fun h => by rw [hno] at h; cases h.2)] at e0
   rw [e0, if_neg (by decide)]
   unfold okW at hb
   unfold mwF at c5
   rw [hb, if_neg Bool.false_ne_true, if_neg Bool.false_ne_true] at c5
   clear hok hfin hup hno hst
   generalize x.legs.getD i default = g at *
   generalize w.getD i default = q at *
   generalize (upN x.legs w now i).map lgA = ys at *
   (have zc1 := c5; refine WW ?_; clear zc1)
   exact fr0
  | true =>
   have hok2 : ∀ j, j < i + 1 → okW now (x.legs.getD j default) (w.getD j default) = true := fun j hj => by
    by_cases hji : j = i
    ·rw [hji]; exact hb
    ·exact hok j (by omega)
   unfold okW at hb
   unfold mwF at c5
   rw [hb, if_pos rfl, if_pos rfl] at c5
   clear hok hfin hup e0 hb
   generalize x.legs.getD i default = g at *
   generalize w.getD i default = q at *
   generalize (upN x.legs w now i).map lgA = ys at *
   (have zc1 := c5; refine WW ?_; clear zc1)
   refine ⟨n - 1, by omega, i + 1, by omega, hok2, ?_⟩
   refine congrArg (St.mk _) ?_
   show [(12, .box [iA x.id, iA x.vh, iA x.cls, iA x.til, .ref 1101 0 (x.legs.map lgA).length]), (1001, frzE [12, 1001, 1101] _ (.arr 5 cs ⟨true, true⟩)), (1101, .arr 5 (ys.set i (lgA (nwL now g q))) false)] = _
   rw [hfr2, hst]
 ·obtain rfl : i = x.legs.length := by omega
  have hul := upN_len (i := x.legs.length) (now := now) hwl (Nat.le_refl _)
  have hyes := wok_all hwl hok
  rw [if_pos ⟨hwl, hyes⟩] at e0
  rw [e0, if_pos rfl, hup]
  rw [upN_all hwl] at hul ⊢
  generalize x.legs.zipWith (nwL now) w = gs at *
  (refine WW ?_)
  refine fin_ret [] rfl rfl ?_ rfl
  show AV.tup [wkV (frzV [] _ (.ref 1001 0 cs.length)), iA 0] = _
  rw [hfin _ gs rfl rfl hul]
  rfl
end
section
set_option maxRecDepth 4000
set_option maxHeartbeats 2000000
def vdR : List Int → Nat → Int → Int × Int × Int
 | [], _, _ => (0, 0, 6)
 | x :: r, i, n => if i = 5 then (0, 0, 6) else if 128 ≤ x then vdR r (i + 1) (n + x.tmod 128 * 128 ^ i) else if 4294967295 < n + x.tmod 128 * 128 ^ i ∨ (0 < i ∧ x = 0) then (0, 0, 6) else (n + x.tmod 128 * 128 ^ i, i + 1, 0)
def vdF (b : List Int) : Int × Int × Int := vdR b 0 0
def szF (n : Int) : Int := if n < 0 ∨ 4294967295 < n then 0 else if n < 128 then 1 else if n < 16384 then 2 else if n < 2097152 then 3 else if n < 268435456 then 4 else 5
def lgF (m : Int) : Int := if m < 128 then 0 else if m < 16384 then 1 else if m < 2097152 then 2 else if m < 268435456 then 3 else 4
theorem szF_lg {n : Int} (h0 : 0 ≤ n) (h1 : n ≤ 4294967295) : szF n = 1 + lgF n := by
 unfold szF lgF
 rw [if_neg (by omega)]
 repeat' split
 all_goals omega
theorem lgF_div {m : Int} (h0 : 128 ≤ m) (h1 : m ≤ 4294967295) : lgF m = 1 + lgF (m / 128) := by
 unfold lgF
 rw [if_neg (by omega)]
 repeat' split
 all_goals omega
theorem lgF_lt {m : Int} (h : m < 128) : lgF m = 0 := if_pos h
theorem sizeV2_c (n : Int) : CallSim Tryz.prog 137 [iA n] [] (iA (szF n)) [] := by
 by_cases h : n < 0 ∨ 4294967295 < n
 ·have e : szF n = 0 := if_pos h
  rw [e]
  by_cases h1 : n < 0
  ·(refine eN Tryz.func137 Tryz.call137 fun F hF => ?_)
   (refine WW ?_)
   exact fr0
  ·have h2 := h.resolve_left h1
   (refine eN Tryz.func137 Tryz.call137 fun F hF => ?_)
   (refine WW ?_)
   exact fr0
 have h1 : 0 ≤ n := by omega
 have h2 : n ≤ 4294967295 := by omega
 rw [szF_lg h1 h2]
 generalize hs : 1 + lgF n = s
 (refine eN Tryz.func137 Tryz.call137 fun F hF => ?_)
 (refine WW ?_)
 (refine sim_whl (5) [] [] [] [0, 3] rfl (fun zn T U zs => ∃ (m : Int) (k : Int), (0 ≤ m ∧ m ≤ 4294967295 ∧ k = 6 - zn ∧ 1 ≤ k ∧ k ≤ 5 ∧ (k = 2 → m ≤ 33554431) ∧ (k = 3 → m ≤ 262143) ∧ (k = 4 → m ≤ 2047) ∧ (k = 5 → m ≤ 15) ∧ s = k + lgF m) ∧ zs = ⟨(0, iA m) :: (3, iA k) :: T, U⟩) ?_; (conv => whnf); refine ⟨?_, ?_⟩)
 ·exact ⟨n, 1, ⟨h1, h2, by omega, by omega, by omega, by omega, by omega, by omega, by omega, hs.symm⟩, rfl⟩
 ·rintro zn st ⟨m, k, ⟨q0, q1, q2, q3, q4, q5, q6, q7, q8, q9⟩, rfl⟩
  by_cases hm : 128 ≤ m
  ·have hd := lgF_div hm q1
   have hmd : m.tdiv 128 = m / 128 := Int.tdiv_eq_ediv_of_nonneg q0
   have hir : InR .i64 (m.tdiv 128) := ⟨by omega, by omega⟩
   (refine WW ?_)
   refine ⟨zn - 1, by omega, m.tdiv 128, k + 1, ⟨by omega, by omega, by omega, by omega, by omega, by omega, by omega, by omega, by omega, by rw [hmd]; omega⟩, rfl⟩
  ·rw [lgF_lt (by omega)] at q9
   obtain rfl : s = k := by omega
   (refine WW ?_)
   exact fr0
theorem p128 {i : Nat} (h : i ≤ 4) : ((128 : Int) ^ i = 1 ∧ i = 0) ∨ ((128 : Int) ^ i = 128 ∧ i = 1) ∨ ((128 : Int) ^ i = 16384 ∧ i = 2) ∨ ((128 : Int) ^ i = 2097152 ∧ i = 3) ∨ ((128 : Int) ^ i = 268435456 ∧ i = 4) := by
 obtain rfl | rfl | rfl | rfl | rfl : i = 0 ∨ i = 1 ∨ i = 2 ∨ i = 3 ∨ i = 4 := by omega
 all_goals simp
theorem sz_ok {i : Nat} {n x : Int} (h : i ≤ 4) (h0 : 0 ≤ n) (h1 : n < 128 ^ i) (x0 : 0 ≤ x) (x1 : x < 128) : (szF (n + x * 128 ^ i) = (i : Int) + 1) ↔ ¬ (4294967295 < n + x * 128 ^ i ∨ (0 < i ∧ x = 0)) := by
 rcases p128 h with ⟨e, rfl⟩ | ⟨e, rfl⟩ | ⟨e, rfl⟩ | ⟨e, rfl⟩ | ⟨e, rfl⟩
 all_goals rw [e] at h1 ⊢
 all_goals unfold szF
 all_goals repeat' split
 all_goals omega
theorem mulBd {x P : Int} (x0 : 0 ≤ x) (x1 : x < 128) (P0 : 1 ≤ P) (P1 : P ≤ 268435456) : 0 ≤ x * P ∧ x * P ≤ 127 * P := by
 refine ⟨Int.mul_nonneg x0 (by omega), Int.mul_le_mul_of_nonneg_right (by omega) (by omega)⟩
theorem vd2_c (b : List Int) (hb : BY b) (hn : b.length ≤ 100000) : CallSim Tryz.prog 99 [slA yA b] [] (.tup [iA (vdF b).1, iA (vdF b).2.1, iA (vdF b).2.2]) [] := by
 have hl := map_len yA b
 (refine eN Tryz.func99 Tryz.call99 fun F hF => ?_)
 (refine WW ?_)
 (refine sim_whl (6) [] [] [0] [5, 6, 7, 0] rfl (fun zn T U zs => ∃ (i : Nat) (n : Int), (zn + i = 6 ∧ i ≤ 5 ∧ i ≤ b.length ∧ 0 ≤ n ∧ n < 128 ^ i ∧ vdF b = vdR (b.drop i) i n) ∧ zs = ⟨(5, iA n) :: (6, iA (128 ^ i : Int)) :: (7, iA i) :: T, U⟩) ?_; (conv => whnf); refine ⟨?_, ?_⟩)
 ·exact ⟨0, 0, ⟨rfl, by omega, by omega, by omega, by decide, rfl⟩, rfl⟩
 ·rintro zn st ⟨i, n, ⟨q0, q1, q2, q3, q4, q5⟩, rfl⟩
  rw [q5]
  clear q5
  by_cases hib : i < b.length
  case neg =>
   have e : b.drop i = [] := List.drop_eq_nil_of_le (by omega)
   rw [e]
   show Sim _ _ _ _ _ (rndQ (inB 0 (thenS _ _ _ _ (Fin _ _ [] (.tup [iA 0, iA 0, iA 6]) []))) _)
   generalize (128 ^ i : Int) = Pw at *
   (refine WW ?_)
   exact fr0
  have hx := hb (b.getD i default) (by simp [List.getD, hib])
  have hy := map_at yA b i hib
  have e : b.drop i = b.getD i default :: b.drop (i + 1) := by rw [List.drop_eq_getElem_cons hib]; simp [List.getD, hib]
  rw [e]
  clear e
  generalize hr : b.drop (i + 1) = r at *
  generalize hx' : b.getD i default = x at *
  by_cases hi5 : i = 5
  ·subst hi5
   show Sim _ _ _ _ _ (rndQ (inB 0 (thenS _ _ _ _ (Fin _ _ [] (.tup [iA 0, iA 0, iA 6]) []))) _)
   generalize (128 ^ 5 : Int) = Pw at *
   (refine WW ?_)
   exact fr0
  have ht : x.tmod 128 = x % 128 := Int.tmod_eq_emod_of_nonneg hx.1
  have hPb := p128 (i := i) (by omega)
  have hPw : 1 ≤ (128 : Int) ^ i ∧ (128 : Int) ^ i ≤ 268435456 := by omega
  have hz := mulBd (x := x.tmod 128) (P := 128 ^ i) (by omega) (by omega) (by omega) (by omega)
  have hso := sz_ok (i := i) (n := n) (x := x.tmod 128) (by omega) q3 q4 (by omega) (by omega)
  have hP1 : (128 : Int) ^ (i + 1) = 128 ^ i * 128 := rfl
  by_cases h128 : 128 ≤ x
  ·have e : vdR (x :: r) i n = vdR r (i + 1) (n + x.tmod 128 * 128 ^ i) := by rw [vdR, if_neg hi5, if_pos h128]
   rw [e]
   clear hso hPb hx'
   generalize (128 : Int) ^ i = Pw at *
   have hir : InR .i64 (x.tmod 128 * Pw) := by generalize x.tmod 128 * Pw = Z at *; exact ⟨by omega, by omega⟩
   have hir2 : InR .i64 (n + x.tmod 128 * Pw) := by generalize x.tmod 128 * Pw = Z at *; exact ⟨by omega, by omega⟩
   have hm1 : 0 ≤ n + x.tmod 128 * Pw ∧ n + x.tmod 128 * Pw < Pw * 128 := by generalize x.tmod 128 * Pw = Z at *; omega
   (repeat' (first | refine WZ ?_ | refine SG (I2 (fun hc => ?_) (fun hc => ?_)) | refine SG (fun hc => ?_) | (refine is_ops ?_; refine is_call ?_; fail) | (refine is_ops ?_; first | (refine is_bin ?_; first | refine x_q (stp_mul rfl rfl hir) rfl ?_ | refine x_q (stp_add rfl rfl hir2) rfl ?_) | refine SM ?_) | first | refine SR ?_ | refine SK (I2 (fun hc => ?_) (fun hc => ?_)) | refine SK (fun hc => ?_) | fail))
   refine ⟨zn - 1, by omega, i + 1, n + x.tmod 128 * Pw, ⟨by omega, by omega, by omega, hm1.1, by rw [hP1]; exact hm1.2, by rw [hr]⟩, ?_⟩
   rw [hP1]
   rfl
  ·have hxm : x.tmod 128 = x := by omega
   have e : vdR (x :: r) i n = if 4294967295 < n + x.tmod 128 * 128 ^ i ∨ (0 < i ∧ x = 0) then (0, 0, 6) else (n + x.tmod 128 * 128 ^ i, (i : Int) + 1, 0) := by rw [vdR, if_neg hi5, if_neg h128]
   have c := sizeV2_c (n + x.tmod 128 * 128 ^ i)
   rw [e]
   rw [hxm] at hso
   rw [hxm] at c hz ⊢
   clear hPb hx' e
   generalize (128 : Int) ^ i = Pw at *
   have hir : InR .i64 (x.tmod 128 * Pw) := by rw [hxm]; generalize x * Pw = Z at *; exact ⟨by omega, by omega⟩
   have hir2 : InR .i64 (n + x.tmod 128 * Pw) := by rw [hxm]; generalize x * Pw = Z at *; exact ⟨by omega, by omega⟩
   by_cases hbad : 4294967295 < n + x * Pw ∨ (0 < i ∧ x = 0)
   ·have hne : szF (n + x * Pw) ≠ (i : Int) + 1 := fun h => hso.1 h hbad
    rw [if_pos hbad]
    clear hso hbad
    generalize szF (n + x * Pw) = s at *
    rw [← hxm] at c hz
    (have zc1 := c; (repeat' (first | refine WZ ?_ | refine SG (I2 (fun hc => ?_) (fun hc => ?_)) | refine SG (fun hc => ?_) | (refine is_ops ?_; refine is_call ?_; refine SC ?_) | (refine is_ops ?_; first | (refine is_bin ?_; first | refine x_q (stp_mul rfl rfl hir) rfl ?_ | refine x_q (stp_add rfl rfl hir2) rfl ?_) | refine SM ?_) | first | refine SR ?_ | refine SK (I2 (fun hc => ?_) (fun hc => ?_)) | refine SK (fun hc => ?_) | fail)) <;> clear zc1)
    exact fr0
   ·have heq := hso.2 hbad
    rw [heq] at c
    rw [if_neg hbad]
    clear hso hbad heq
    rw [← hxm] at c hz ⊢
    (have zc1 := c; (repeat' (first | refine WZ ?_ | refine SG (I2 (fun hc => ?_) (fun hc => ?_)) | refine SG (fun hc => ?_) | (refine is_ops ?_; refine is_call ?_; refine SC ?_) | (refine is_ops ?_; first | (refine is_bin ?_; first | refine x_q (stp_mul rfl rfl hir) rfl ?_ | refine x_q (stp_add rfl rfl hir2) rfl ?_) | refine SM ?_) | first | refine SR ?_ | refine SK (I2 (fun hc => ?_) (fun hc => ?_)) | refine SK (fun hc => ?_) | fail)) <;> clear zc1)
    exact fr0
section
variable {P : Program} {tm : List (Nat × AV)} {h : List (Nat × Ent)} {tx ty : Nat} {x y : Operand}
theorem and127 : ∀ k : _root_.Fin 256, IntKind.u8.wrap (BitVec.ofInt IntKind.u8.bits (k.val : Int) &&& BitVec.ofInt IntKind.u8.bits 127).toNat = ((k.val : Int)).tmod 128 := by decide +kernel
theorem stp_and7 {m : Int} (hx : opv (look tm) x = .s (.int .u8 m)) (hy : opv (look tm) y = .s (.int .u8 127)) (h0 : 0 ≤ m ∧ m < 256) : Stp P ⟨tm, h⟩ (.binOp .and tx x y ty) (.s (.int .u8 (m.tmod 128))) [] [] [] := by
 have e := and127 ⟨m.toNat, by omega⟩
 simp only [show ((m.toNat : Nat) : Int) = m by omega] at e
 rw [← e]
 exact stp_and hx hy
end
theorem orI_big (a b : Nat) (ha : a < 2 ^ 60) (hb : b < 2 ^ 60) : orI a b = ((a ||| b : Nat) : Int) := by
 have h := Nat.or_lt_two_pow ha hb
 unfold orI
 rw [show BitVec.ofInt IntKind.i64.bits (a : Int) = BitVec.ofNat IntKind.i64.bits a from BitVec.ofInt_natCast ..]
 rw [show BitVec.ofInt IntKind.i64.bits (b : Int) = BitVec.ofNat IntKind.i64.bits b from BitVec.ofInt_natCast ..]
 rw [BitVec.toNat_or, BitVec.toNat_ofNat, BitVec.toNat_ofNat, Nat.mod_eq_of_lt (Nat.lt_of_lt_of_le ha (Nat.pow_le_pow_right (by decide) (by decide))), Nat.mod_eq_of_lt (Nat.lt_of_lt_of_le hb (Nat.pow_le_pow_right (by decide) (by decide)))]
 refine wrap_in ⟨?_, ?_⟩
 ·show (-9223372036854775808 : Int) ≤ _
  omega
 ·show _ ≤ (9223372036854775807 : Int)
  have : (2 : Nat) ^ 60 = 1152921504606846976 := rfl
  omega
theorem or_shl {i : Nat} {n y : Int} (h : i ≤ 4) (h0 : 0 ≤ n) (h1 : n < 128 ^ i) (y0 : 0 ≤ y) (y1 : y < 128) : orI n (IntKind.i64.wrap (y * 2 ^ (min ((7 * (i : Int)).toNat) IntKind.i64.bits))) = n + y * 128 ^ i := by
 have hb : IntKind.i64.bits = 64 := rfl
 have e1 : min ((7 * (i : Int)).toNat) 64 = 7 * i := by omega
 have e2 : (2 : Int) ^ (7 * i) = 128 ^ i := by rw [Int.pow_mul]; rfl
 rw [hb, e1, e2]
 have hP : 1 ≤ (128 : Int) ^ i ∧ (128 : Int) ^ i ≤ 268435456 := by have := p128 h; omega
 have hz := mulBd y0 y1 hP.1 hP.2
 rw [show IntKind.i64.wrap (y * 128 ^ i) = y * 128 ^ i from wrap_in (k := .i64) (by unfold InR; generalize y * 128 ^ i = Z at *; generalize (128 : Int) ^ i = Pw at *; omega)]
 obtain ⟨a, rfl⟩ := Int.eq_ofNat_of_zero_le h0
 obtain ⟨c, rfl⟩ := Int.eq_ofNat_of_zero_le y0
 have hPn : (128 : Int) ^ i = ((128 ^ i : Nat) : Int) := by simp
 rw [hPn] at h1 hz hP ⊢
 have ha : a < 128 ^ i := by omega
 rw [show ((c : Int) * ((128 ^ i : Nat) : Int)) = ((c * 128 ^ i : Nat) : Int) by simp] at hz ⊢
 rw [orI_big a (c * 128 ^ i) (by have : (2 : Nat) ^ 60 = 1152921504606846976 := rfl; omega) (by have : (2 : Nat) ^ 60 = 1152921504606846976 := rfl; omega)]
 have e3 : (128 : Nat) ^ i = 2 ^ (7 * i) := by rw [Nat.pow_mul]
 rw [e3] at ha ⊢
 have := Nat.shiftLeft_add_eq_or_of_lt ha c
 rw [Nat.shiftLeft_eq] at this
 rw [Nat.or_comm, ← this]
 omega
theorem vd_c (b : List Int) (hb : BY b) (hn : b.length ≤ 100000) : CallSim Tryz.prog 147 [slA yA b] [] (.tup [iA (vdF b).1, iA (vdF b).2.1, iA (vdF b).2.2]) [] := by
 have hl := map_len yA b
 (refine eN Tryz.func147 Tryz.call147 fun F hF => ?_)
 (refine WW ?_)
 (refine sim_rngP (b) [] [] [8, 9] [5, 10, 8, 9] rfl (fun i pre T U zs => ∃ n : Int, (0 ≤ n ∧ n < 128 ^ i ∧ i ≤ 5 ∧ ∀ post, b = pre ++ post → vdF b = vdR post i n) ∧ zs = ⟨(5, iA n) :: (10, iA i) :: T, U⟩) ?_; (conv => whnf); refine ⟨?_, ?_, ?_⟩)
 ·exact ⟨0, ⟨by omega, by decide, by omega, fun post h => by rw [h]; rfl⟩, rfl⟩
 ·rintro i pre x r st hx hi ⟨n, ⟨q0, q1, q2, q3⟩, rfl⟩
  have hy := rng_at yA hx hi
  have hlt := rng_lt hx hi
  have hxb := hb x (rng_mem hx)
  rw [q3 _ hx]
  have q4 : ∀ post, b = pre ++ [x] ++ post → post = r := fun post h => by
   rw [hx, List.append_assoc] at h
   simpa using h.symm
  clear q3 hx
  by_cases hi5 : i = 5
  ·subst hi5
   show Sim _ _ _ _ _ (rndQ (inB 0 (thenS _ _ _ _ (Fin _ _ [] (.tup [iA 0, iA 0, iA 6]) []))) _)
   clear q4
   (refine WW ?_)
   exact fr0
  have ht : x.tmod 128 = x % 128 := Int.tmod_eq_emod_of_nonneg hxb.1
  have hPb := p128 (i := i) (by omega)
  have hPw : 1 ≤ (128 : Int) ^ i ∧ (128 : Int) ^ i ≤ 268435456 := by omega
  have hz := mulBd (x := x.tmod 128) (P := 128 ^ i) (by omega) (by omega) (by omega) (by omega)
  have hE := or_shl (i := i) (n := n) (y := x.tmod 128) (by omega) q0 q1 (by omega) (by omega)
  have hP1 : (128 : Int) ^ (i + 1) = 128 ^ i * 128 := rfl
  by_cases h128 : 128 ≤ x
  ·have e : vdR (x :: r) i n = vdR r (i + 1) (n + x.tmod 128 * 128 ^ i) := by rw [vdR, if_neg hi5, if_pos h128]
   rw [e]
   have hm1 : 0 ≤ n + x.tmod 128 * 128 ^ i ∧ n + x.tmod 128 * 128 ^ i < 128 ^ (i + 1) := by
    rw [hP1]
    generalize x.tmod 128 * 128 ^ i = Z at *
    omega
   clear hPb e hz
   generalize n + x.tmod 128 * 128 ^ i = M at *
   (repeat' (first | refine WZ ?_ | refine SG (I2 (fun hc => ?_) (fun hc => ?_)) | refine SG (fun hc => ?_) | (refine is_ops ?_; refine is_call ?_; fail) | (refine is_ops ?_; first | (refine is_bin ?_; refine x_q (stp_and7 rfl rfl hxb) rfl ?_) | refine SM ?_) | first | refine SR ?_ | refine SK (I2 (fun hc => ?_) (fun hc => ?_)) | refine SK (fun hc => ?_) | fail))
   refine ⟨M, ⟨hm1.1, hm1.2, by omega, fun post h => by rw [q4 post h]⟩, ?_⟩
   rw [← hE]
   rfl
  ·have e : vdR (x :: r) i n = if 4294967295 < n + x.tmod 128 * 128 ^ i ∨ (0 < i ∧ x = 0) then (0, 0, 6) else (n + x.tmod 128 * 128 ^ i, (i : Int) + 1, 0) := by rw [vdR, if_neg hi5, if_neg h128]
   rw [e]
   have hm1 : 0 ≤ n + x.tmod 128 * 128 ^ i ∧ n + x.tmod 128 * 128 ^ i < 128 ^ (i + 1) := by
    rw [hP1]
    generalize x.tmod 128 * 128 ^ i = Z at *
    omega
   clear hPb e hz q4 hP1
   generalize n + x.tmod 128 * 128 ^ i = M at *
   by_cases hbad : 4294967295 < M ∨ (0 < i ∧ x = 0)
   ·rw [if_pos hbad]
    by_cases hM : 4294967295 < M
    ·clear hbad
     (repeat' (first | refine WZ ?_ | refine SG (I2 (fun hc => ?_) (fun hc => ?_)) | refine SG (fun hc => ?_) | (refine is_ops ?_; refine is_call ?_; fail) | (refine is_ops ?_; first | (refine is_bin ?_; refine x_q (stp_and7 rfl rfl hxb) rfl ?_) | refine SM ?_) | first | refine SR ?_ | refine SK (I2 (fun hc => ?_) (fun hc => ?_)) | refine SK (fun hc => ?_) | fail))
     exact fr0
    ·obtain ⟨h1, h2⟩ := hbad.resolve_left hM
     (repeat' (first | refine WZ ?_ | refine SG (I2 (fun hc => ?_) (fun hc => ?_)) | refine SG (fun hc => ?_) | (refine is_ops ?_; refine is_call ?_; fail) | (refine is_ops ?_; first | (refine is_bin ?_; refine x_q (stp_and7 rfl rfl hxb) rfl ?_) | refine SM ?_) | first | refine SR ?_ | refine SK (I2 (fun hc => ?_) (fun hc => ?_)) | refine SK (fun hc => ?_) | fail))
     exact fr0
   ·rw [if_neg hbad]
    by_cases hi0 : 0 < i
    ·have hx0 : x ≠ 0 := fun h => hbad (.inr ⟨hi0, h⟩)
     (repeat' (first | refine WZ ?_ | refine SG (I2 (fun hc => ?_) (fun hc => ?_)) | refine SG (fun hc => ?_) | (refine is_ops ?_; refine is_call ?_; fail) | (refine is_ops ?_; first | (refine is_bin ?_; refine x_q (stp_and7 rfl rfl hxb) rfl ?_) | refine SM ?_) | first | refine SR ?_ | refine SK (I2 (fun hc => ?_) (fun hc => ?_)) | refine SK (fun hc => ?_) | fail))
     rw [← hE]
     exact fr0
    ·(repeat' (first | refine WZ ?_ | refine SG (I2 (fun hc => ?_) (fun hc => ?_)) | refine SG (fun hc => ?_) | (refine is_ops ?_; refine is_call ?_; fail) | (refine is_ops ?_; first | (refine is_bin ?_; refine x_q (stp_and7 rfl rfl hxb) rfl ?_) | refine SM ?_) | first | refine SR ?_ | refine SK (I2 (fun hc => ?_) (fun hc => ?_)) | refine SK (fun hc => ?_) | fail))
     rw [← hE]
     exact fr0
 ·rintro st ⟨n, ⟨q0, q1, q2, q3⟩, rfl⟩
  rw [q3 [] (by simp)]
  show Sim _ _ _ _ _ (rndQ (inB 0 (thenS _ _ _ _ (Fin _ _ [] (.tup [iA 0, iA 0, iA 6]) []))) _)
  (refine WW ?_)
  exact fr0
end
end Av
end Go.Proofs.YtaikgchmpieooaaGreat
