/- Abstract values: the steps as the walk takes them. -/
import Derived.Test.YtjbldhhgooihfaaAvm
namespace Go.Proofs.Ytjbldhhgooihfaa
namespace Av
set_option linter.unusedSimpArgs false
set_option linter.unusedVariables false
section
variable {P : Program} {TT : List TI} {K0 : List Nat} {F : Fr K0} {m : Nat} {ops : Array Oper} {rest : List Oper} {Q : List FP → St → Prop} {tm : List (Nat × AV)} {h : List (Nat × Ent)} {dr : Bool} {fs : List FP}
variable {ty : Nat} {pos : String} {after : Array Edge} {t : Nat}
theorem all1 {h : List (Nat × Ent)} {t : Nat} (hn : (lookE h t).isNone = true) : [t].all (fun j => (lookE h j).isNone) = true := by simpa using hn
theorem x_boxa {T : Nat} {x : Operand} {cs : List AV} (hx : opv (look tm) x = .agg cs) (hm : Nat.blt t m = true) (hn : (lookE h t).isNone = true) (hk : OpsX P F m ops dr rest ⟨(t, .ptr t 0 0) :: tm, (t, .box cs) :: h⟩ (⟨true, [t, t], []⟩ :: fs) Q) :
    OpsX P F m ops dr (⟨some t, .box T x, ty, pos, after, none⟩ :: rest) ⟨tm, h⟩ fs Q := x_w (nw := [t]) (stp_box t hx rfl) hm (all1 hn) rfl hk
theorem x_box1 {T : Nat} {x : Operand} {v : AV} (hx : opv (look tm) x = v) (h1 : v.one = true) (hm : Nat.blt t m = true) (hn : (lookE h t).isNone = true) (hk : OpsX P F m ops dr rest ⟨(t, .ptr t 0 0) :: tm, (t, .box [v]) :: h⟩ (⟨true, [t, t], []⟩ :: fs) Q) :
    OpsX P F m ops dr (⟨some t, .box T x, ty, pos, after, none⟩ :: rest) ⟨tm, h⟩ fs Q := by
  have ok : v.ok = true := by cases v <;> first | rfl | exact h1
  have e : v.cells = [v] := by cases v <;> first | rfl | (simp [AV.one] at h1)
  have hs := stp_box (P := P) (T := T) (st := ⟨tm, h⟩) t hx ok
  rw [e] at hs
  exact x_w (nw := [t]) hs hm (all1 hn) rfl hk
theorem x_alloc (hP : TOK P TT) {T : Nat} {ti : TI} {cs : List AV} (hT : TT[T]? = some ti) (h1 : ti.zero.all (·.oneCell') = true) (hc : ti.zero.map AV.s = cs) (hm : Nat.blt t m = true) (hn : (lookE h t).isNone = true)
    (hk : OpsX P F m ops dr rest ⟨(t, .ptr t 0 0) :: tm, (t, .box cs) :: h⟩ (⟨true, [t, t], []⟩ :: fs) Q) : OpsX P F m ops dr (⟨some t, .alloc T, ty, pos, after, none⟩ :: rest) ⟨tm, h⟩ fs Q := by
  subst hc; exact x_w (nw := [t]) (stp_alloc hP t hT h1) hm (all1 hn) rfl hk
/-- A whole variable is read. -/
theorem stp_load_all (hP : TOK P TT) {T : Nat} {x : Operand} {k : Nat} {cs : List AV} {ti : TI} (hx : opv (look tm) x = .ptr k 0 0) (hk : lookE h k = some (.box cs)) (hT : TT[T]? = some ti) (ha : ti.d.agg = true) (hs : Nat.beq ti.size cs.length = true) :
    Stp P ⟨tm, h⟩ (.load T x) (.agg cs) [] [k] [] := by
  have e := Nat.eq_of_beq_eq_true hs
  refine stp_load_box hP hx hk hT ?_
  unfold ldv
  rw [ha, e]
  simp [Nat.ble_eq_true_of_le (Nat.le_refl cs.length)]
theorem stp_load_one (hP : TOK P TT) {T : Nat} {x : Operand} {k off : Nat} {cs : List AV} {ti : TI} {v : AV} (hx : opv (look tm) x = .ptr k 0 off) (hk : lookE h k = some (.box cs)) (hT : TT[T]? = some ti) (ha : ti.d.agg = false) (hv : cs[off]? = some v) :
    Stp P ⟨tm, h⟩ (.load T x) v [] [k] [] := by
  refine stp_load_box hP hx hk hT ?_
  unfold ldv
  rw [ha]
  exact hv
/-- A whole element is read. -/
theorem stp_load_fpa (hP : TOK P TT) {T i : Nat} {x : Operand} {xs cs : List AV} {ti : TI} (hx : opv (look tm) x = .fp xs i 0) (hT : TT[T]? = some ti) (ha : ti.d.agg = true) (hy : xs[i]? = some (.agg cs)) (hs : Nat.beq ti.size cs.length = true) :
    Stp P ⟨tm, h⟩ (.load T x) (.agg cs) [] [] [] := by
  have e := Nat.eq_of_beq_eq_true hs
  refine stp_load_fp hP hx hy hT ?_
  unfold ldv
  rw [ha, e]
  simp [AV.cells, Nat.ble_eq_true_of_le (Nat.le_refl cs.length)]
theorem stp_load_fp1 (hP : TOK P TT) {T i off : Nat} {x : Operand} {xs : List AV} {y v : AV} {ti : TI} (hx : opv (look tm) x = .fp xs i off) (hT : TT[T]? = some ti) (ha : ti.d.agg = false) (hy : xs[i]? = some y) (hv : y.cells[off]? = some v) :
    Stp P ⟨tm, h⟩ (.load T x) v [] [] [] := by
  refine stp_load_fp hP hx hy hT ?_
  unfold ldv
  rw [ha]
  exact hv
theorem stp_load_arra (hP : TOK P TT) {T k i sz : Nat} {x : Operand} {xs cs : List AV} {sl : Bool} {ti : TI} (hx : opv (look tm) x = .ptr k i 0) (hk : lookE h k = some (.arr sz xs sl)) (hT : TT[T]? = some ti) (ha : ti.d.agg = true) (hy : xs[i]? = some (.agg cs)) (hs : Nat.beq ti.size cs.length = true) :
    Stp P ⟨tm, h⟩ (.load T x) (.agg cs) [] [k] [] := by
  have e := Nat.eq_of_beq_eq_true hs
  refine stp_load_arr hP hx hk hy hT ?_
  unfold ldv
  rw [ha, e]
  simp [AV.cells, Nat.ble_eq_true_of_le (Nat.le_refl cs.length)]
theorem stp_load_arr1 (hP : TOK P TT) {T k i off sz : Nat} {x : Operand} {xs : List AV} {sl : Bool} {y v : AV} {ti : TI} (hx : opv (look tm) x = .ptr k i off) (hk : lookE h k = some (.arr sz xs sl)) (hT : TT[T]? = some ti) (ha : ti.d.agg = false) (hy : xs[i]? = some y) (hv : y.cells[off]? = some v) :
    Stp P ⟨tm, h⟩ (.load T x) v [] [k] [] := by
  refine stp_load_arr hP hx hk hy hT ?_
  unfold ldv
  rw [ha]
  exact hv
/-- A whole variable is stored. -/
theorem x_sta (hP : TOK P TT) {T : Nat} {p x : Operand} {k : Nat} {cs vs : List AV} {ti : TI} (hp : opv (look tm) p = .ptr k 0 0) (hx : opv (look tm) x = .agg vs) (hk : lookE h k = some (.box cs)) (hT : TT[T]? = some ti) (h2 : Nat.beq vs.length ti.size = true) (h3 : Nat.beq ti.size cs.length = true)
    (hr : OpsX P F m ops dr rest ⟨tm, (k, .box vs) :: h⟩ (⟨true, [k], [k]⟩ :: fs) Q) : OpsX P F m ops dr (⟨none, .store T p x, ty, pos, after, none⟩ :: rest) ⟨tm, h⟩ fs Q := by
  have e3 := Nat.eq_of_beq_eq_true h3
  have e2 := Nat.eq_of_beq_eq_true h2
  have hs := stp_store_box (P := P) (st := ⟨tm, h⟩) hP hp hx hk hT rfl h2 (by rw [Nat.zero_add, e3]; exact Nat.ble_eq_true_of_le (Nat.le_refl _))
  have e : setL cs 0 (AV.agg vs).cells = vs := by
    apply List.ext_getElem?
    intro j
    rw [setL_at _ _ _ _ (by simp [AV.cells]; omega)]
    by_cases hj : j < vs.length
    · rw [if_pos (by simp [AV.cells]; omega)]; rfl
    · rw [if_neg (by simp [AV.cells]; omega), List.getElem?_eq_none (by omega), List.getElem?_eq_none (by omega)]
  rw [e] at hs
  exact x_s (nw := []) hs rfl rfl hr
/-- One cell is stored. -/
theorem x_st1 (hP : TOK P TT) {T : Nat} {p x : Operand} {k off : Nat} {cs cs' : List AV} {v : AV} {ti : TI} (hp : opv (look tm) p = .ptr k 0 off) (hx : opv (look tm) x = v) (h1 : v.one = true) (hk : lookE h k = some (.box cs)) (hT : TT[T]? = some ti) (h2 : Nat.beq 1 ti.size = true) (h3 : Nat.blt off cs.length = true) (hc : cs.set off v = cs')
    (hr : OpsX P F m ops dr rest ⟨tm, (k, .box cs') :: h⟩ (⟨true, [k], [k]⟩ :: fs) Q) : OpsX P F m ops dr (⟨none, .store T p x, ty, pos, after, none⟩ :: rest) ⟨tm, h⟩ fs Q := by
  have ok : v.ok = true := by cases v <;> first | rfl | exact h1
  have e : v.cells = [v] := by cases v <;> first | rfl | (simp [AV.one] at h1)
  have e2 := Nat.eq_of_beq_eq_true h2
  have hs := stp_store_box (P := P) (st := ⟨tm, h⟩) hP hp hx hk hT ok (by rw [e]; exact h2) (by rw [← e2]; exact h3)
  rw [e] at hs
  simp only [setL] at hs
  rw [hc] at hs
  exact x_s (nw := []) hs rfl rfl hr
theorem x_appnil (hP : TOK P TT) {T e : Nat} {s x : Operand} {ti te : TI} {xv : AV} {ys : List AV} (hs : opv (look tm) s = .s (.slice none 0 0)) (hx : opv (look tm) x = xv) (hT : TT[T]? = some ti) (hd : ti.d = .slice e) (he : TT[e]? = some te)
    (hys : els (lookE h) xv = some ys) (hsz : ∀ y, ys[0]? = some y → y.cells.length = te.size) (hp : Nat.ble 1 te.size = true) (hb : Nat.ble te.bytes 65536 = true) (hz : Nat.beq te.zero.length te.size = true) (hn : ys.length ≤ 1073741824) (hm : Nat.blt t m = true) (hnn : (lookE h t).isNone = true)
    {sz : Nat} (hse : te.size = sz) (hk : OpsX P F m ops dr rest ⟨(t, .ref t 0 ys.length) :: tm, (t, .arr sz ys false) :: h⟩ (⟨true, [t, t], elk xv⟩ :: fs) Q) : OpsX P F m ops dr (⟨some t, .call ⟨.builtin .append, #[s, x], #[T, T]⟩, ty, pos, after, none⟩ :: rest) ⟨tm, h⟩ fs Q := by
  subst hse; exact x_w (nw := [t]) (stp_append_nil hP t hs hx hT hd he hys hsz hp hb hz hn) hm (all1 hnn) rfl hk
theorem x_bsl (hP : TOK P TT) {T e len : Nat} {ps : Array (Nat × Operand)} {ti te : TI} {xs : List AV} (hT : TT[T]? = some ti) (hd : ti.d = .slice e) (he : TT[e]? = some te) (hp : Nat.ble 1 te.size = true) (hps : prts ⟨tm, h⟩ ps = (xs.zipIdx 0).map fun x => (x.2, x.1)) (hl : Nat.beq xs.length len = true)
    (hw : xs.all (fun x => Nat.beq x.cells.length te.size && (x.ok && x.nokey)) = true) (hb : Nat.ble (len * te.size) 65536 = true) (hzl : Nat.beq te.zero.length te.size = true) (hm : Nat.blt t m = true) (hnn : (lookE h t).isNone = true)
    {sz : Nat} (hse : te.size = sz) (hk : OpsX P F m ops dr rest ⟨(t, .ref t 0 len) :: tm, (t, .arr sz xs false) :: h⟩ (⟨true, [t, t], []⟩ :: fs) Q) : OpsX P F m ops dr (⟨some t, .buildSlice T len ps, ty, pos, after, none⟩ :: rest) ⟨tm, h⟩ fs Q := by
  subst hse; exact x_w (nw := [t]) (stp_buildSlice hP t hT hd he hp hps hl hw hb hzl) hm (all1 hnn) rfl hk
theorem x_mks (hP : TOK P TT) {T e n : Nat} {x y : Operand} {ti te : TI} {kx ky : IntKind} {nx ny : Int} {z : AV} (hx : opv (look tm) x = .s (.int kx nx)) (hy : opv (look tm) y = .s (.int ky ny)) (hT : TT[T]? = some ti) (hd : ti.d = .slice e) (he : TT[e]? = some te)
    (hb : Nat.ble te.bytes 65536 = true) (hp : Nat.ble 1 te.size = true) (hzl : Nat.beq te.zero.length te.size = true) (hz1 : te.zero.all (·.oneCell') = true) (hzc : Nat.beq (zeroA te).cells.length te.size = true) (hzc2 : (zeroA te).cells = te.zero.map .s) (hz : zeroA te = z)
    (hnx : nx = (n : Int)) (hny : nx ≤ ny) (hmax : ny ≤ 1073741824) (hm : Nat.blt t m = true) (hnn : (lookE h t).isNone = true)
    {sz : Nat} (hse : te.size = sz) (hk : OpsX P F m ops dr rest ⟨(t, .ref t 0 n) :: tm, (t, .arr sz (List.replicate n z) false) :: h⟩ (⟨true, [t, t], []⟩ :: fs) Q) : OpsX P F m ops dr (⟨some t, .makeSlice T x y, ty, pos, after, none⟩ :: rest) ⟨tm, h⟩ fs Q := by
  subst hse hz; exact x_w (nw := [t]) (stp_makeSlice hP t hx hy hT hd he hnx hny hmax hb hp hzl hz1 hzc hzc2) hm (all1 hnn) rfl hk
theorem x_appref (hP : TOK P TT) {T e : Nat} {s x : Operand} {ti te : TI} {k sz len : Nat} {xs : List AV} {sl : Bool} {xv : AV} {ys : List AV} (hs : opv (look tm) s = .ref k 0 len) (hk : lookE h k = some (.arr sz xs sl)) (hx : opv (look tm) x = xv) (hT : TT[T]? = some ti) (hd : ti.d = .slice e) (he : TT[e]? = some te)
    (hys : els (lookE h) xv = some ys) (hss : Nat.beq sz te.size = true) (hb : Nat.ble te.bytes 65536 = true) (hz : Nat.beq te.zero.length te.size = true) (hlen : len = xs.length) (hsz : ∀ y, ys[0]? = some y → y.cells.length = sz) (hn : xs.length + ys.length ≤ 1073741824) (hm : Nat.blt t m = true)
    (hr : OpsX P F m ops dr rest ⟨(t, .ref k 0 (xs ++ ys).length) :: tm, (k, .arr sz (xs ++ ys) true) :: h⟩ (⟨true, [k], k :: elk xv⟩ :: fs) Q) : OpsX P F m ops dr (⟨some t, .call ⟨.builtin .append, #[s, x], #[T, T]⟩, ty, pos, after, none⟩ :: rest) ⟨tm, h⟩ fs Q := by
  subst hlen; exact x_w (nw := []) (stp_append_ref hP hs hk hx hT hd he hys hsz hss hb hz hn) hm rfl rfl hr

section
variable {op : BinOp} {tx t2 : Nat} {x y : Operand} {k : IntKind} {a b : Int} (hx : opv (look tm) x = .s (.int k a)) (hy : opv (look tm) y = .s (.int k b))
include hx hy
theorem stp_lt_t (hh : a < b) : Stp P ⟨tm, h⟩ (.binOp .lss tx x y t2) (.s (.bool true)) [] [] [] := by have := stp_lss (P := P) (st := ⟨tm, h⟩) (tx := tx) (ty := t2) hx hy; rwa [decide_eq_true hh] at this
theorem stp_lt_f (hh : ¬ a < b) : Stp P ⟨tm, h⟩ (.binOp .lss tx x y t2) (.s (.bool false)) [] [] [] := by have := stp_lss (P := P) (st := ⟨tm, h⟩) (tx := tx) (ty := t2) hx hy; rwa [decide_eq_false hh] at this
theorem stp_le_t (hh : a ≤ b) : Stp P ⟨tm, h⟩ (.binOp .leq tx x y t2) (.s (.bool true)) [] [] [] := by have := stp_leq (P := P) (st := ⟨tm, h⟩) (tx := tx) (ty := t2) hx hy; rwa [decide_eq_true hh] at this
theorem stp_le_f (hh : ¬ a ≤ b) : Stp P ⟨tm, h⟩ (.binOp .leq tx x y t2) (.s (.bool false)) [] [] [] := by have := stp_leq (P := P) (st := ⟨tm, h⟩) (tx := tx) (ty := t2) hx hy; rwa [decide_eq_false hh] at this
theorem stp_gt_t (hh : b < a) : Stp P ⟨tm, h⟩ (.binOp .gtr tx x y t2) (.s (.bool true)) [] [] [] := by have := stp_gtr (P := P) (st := ⟨tm, h⟩) (tx := tx) (ty := t2) hx hy; rwa [decide_eq_true hh] at this
theorem stp_gt_f (hh : ¬ b < a) : Stp P ⟨tm, h⟩ (.binOp .gtr tx x y t2) (.s (.bool false)) [] [] [] := by have := stp_gtr (P := P) (st := ⟨tm, h⟩) (tx := tx) (ty := t2) hx hy; rwa [decide_eq_false hh] at this
theorem stp_ge_t (hh : b ≤ a) : Stp P ⟨tm, h⟩ (.binOp .geq tx x y t2) (.s (.bool true)) [] [] [] := by have := stp_geq (P := P) (st := ⟨tm, h⟩) (tx := tx) (ty := t2) hx hy; rwa [decide_eq_true hh] at this
theorem stp_ge_f (hh : ¬ b ≤ a) : Stp P ⟨tm, h⟩ (.binOp .geq tx x y t2) (.s (.bool false)) [] [] [] := by have := stp_geq (P := P) (st := ⟨tm, h⟩) (tx := tx) (ty := t2) hx hy; rwa [decide_eq_false hh] at this
theorem stp_eq_t (hh : a = b) : Stp P ⟨tm, h⟩ (.binOp .eql tx x y t2) (.s (.bool true)) [] [] [] := by have := stp_eql (P := P) (st := ⟨tm, h⟩) (tx := tx) (ty := t2) hx hy; rwa [show (a == b) = true by simpa using hh] at this
theorem stp_eq_f (hh : a ≠ b) : Stp P ⟨tm, h⟩ (.binOp .eql tx x y t2) (.s (.bool false)) [] [] [] := by have := stp_eql (P := P) (st := ⟨tm, h⟩) (tx := tx) (ty := t2) hx hy; rwa [show (a == b) = false by simpa using hh] at this
theorem stp_ne_t (hh : a ≠ b) : Stp P ⟨tm, h⟩ (.binOp .neq tx x y t2) (.s (.bool true)) [] [] [] := by have := stp_neq (P := P) (st := ⟨tm, h⟩) (tx := tx) (ty := t2) hx hy; rwa [show (a != b) = true by simpa using hh] at this
theorem stp_ne_f (hh : a = b) : Stp P ⟨tm, h⟩ (.binOp .neq tx x y t2) (.s (.bool false)) [] [] [] := by have := stp_neq (P := P) (st := ⟨tm, h⟩) (tx := tx) (ty := t2) hx hy; rwa [show (a != b) = false by simpa using hh] at this
end
end
end Av
end Go.Proofs.Ytjbldhhgooihfaa
