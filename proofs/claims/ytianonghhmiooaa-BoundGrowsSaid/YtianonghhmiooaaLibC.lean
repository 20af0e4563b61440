/- Library: abstract values. -/
import Derived.Test.YtianonghhmiooaaLibB
/- Abstract values: one set of rules for both kinds of regions. -/
namespace Go.Proofs.Ytianonghhmiooaa
namespace Av
set_option linter.unusedSimpArgs false
set_option linter.unusedVariables false

/-- The table, out of one closed equation. -/
theorem tok_of_map {P : Program} {TT : List TI} (h : (List.range TT.length).map (fun t => tiOf P t) = TT.map some) : TOK P TT := fun t ti ht => by
  have hl := (List.getElem?_eq_some_iff.1 ht).1
  have := congrArg (·[t]?) h
  simp only [List.getElem?_map, ht, Option.map_some, List.getElem?_range hl] at this
  simpa using this

/-- Operations of a region, in the order of the text (false) or in any order that its edges allow (true). -/
def OpsX0 (P : Program) {K0 : List Nat} (F : Fr K0) (m : Nat) (ops : Array Oper) : Bool → List Oper → St → List FP → (List FP → St → Prop) → Prop
  | false, l, st, _, Q => Ops P F m ops l st (Q [])
  | true, l, st, fs, Q => ∃ es st', Tr P m ops l st es st' ∧ Q ((es.map Evt.fp).reverse ++ fs) st'
structure OpsX (P : Program) {K0 : List Nat} (F : Fr K0) (m : Nat) (ops : Array Oper) (dr : Bool) (l : List Oper) (st : St) (fs : List FP) (Q : List FP → St → Prop) : Prop where
  run : OpsX0 P F m ops dr l st fs Q
section
variable {P : Program} {K0 : List Nat} {F : Fr K0} {m : Nat} {ops : Array Oper} {rest : List Oper} {Q : List FP → St → Prop} {tm : List (Nat × AV)} {h : List (Nat × Ent)} {dr : Bool} {fs : List FP}
theorem x_nil {st : St} {Q' : St → Prop} (hq : Q' st) : OpsX P F m ops false [] st fs (fun _ s => Q' s) := ⟨ops_nil hq⟩
theorem x_nilD {l : List Oper} {st : St} {Q' : St → Prop} (hc : regOK l (clos l) fs.reverse = true) (hq : Q' st) : OpsX P F m ops true [] st fs (fun fs s => regOK l (clos l) fs.reverse = true ∧ Q' s) := ⟨⟨[], st, rfl, hc, hq⟩⟩
theorem x_cons {o : Oper} {st st' : St} {e : Evt} (hon : e.on = true) (hg : o.guard = none) (hs : Stp P st o.op e.v e.d e.r e.nw) (hn : ∀ k, k ∈ e.nw → lookE st.h k = none) (hd : noDead e.d = true) (hm : ∀ t, o.dst = some t → t < m)
    (he : st' = st.app o.dst e.v e.d) (hk : OpsX P F m ops dr rest st' (e.fp :: fs) Q) : OpsX P F m ops dr (o :: rest) st fs Q := by
  subst he
  cases dr with
  | false => exact ⟨ops_step hg hs hn hd hm (fun t => look_app _ _ _ _ _) (funext fun k => lookE_app _ _ _ _ _) hk.run⟩
  | true =>
    obtain ⟨es, st2, h1, h2⟩ := hk.run
    refine ⟨⟨e :: es, st2, ⟨⟨hd, hm, hn, (fun _ => hs), (fun h => by rw [hon] at h; cases h), by rw [hg]; exact hon⟩, h1⟩, ?_⟩⟩
    simpa using h2
section
variable {op : Op} {ty : Nat} {pos : String} {after : Array Edge} {t : Nat} {v : AV} {r nw : List Nat}
theorem x_q (hs : Stp P ⟨tm, h⟩ op v [] r []) (hm : Nat.blt t m = true) (hk : OpsX P F m ops dr rest ⟨(t, v) :: tm, h⟩ (⟨true, [], r⟩ :: fs) Q) : OpsX P F m ops dr (⟨some t, op, ty, pos, after, none⟩ :: rest) ⟨tm, h⟩ fs Q :=
  x_cons (e := ⟨true, v, [], r, []⟩) rfl rfl hs (by simp) rfl (fun j hj => by cases hj; exact Nat.le_of_ble_eq_true hm) rfl hk
theorem x_w {k : Nat} {e : Ent} (hs : Stp P ⟨tm, h⟩ op v [(k, e)] r nw) (hm : Nat.blt t m = true) (hn : nw.all (fun j => (lookE h j).isNone) = true) (hd : noDead [(k, e)] = true) (hk : OpsX P F m ops dr rest ⟨(t, v) :: tm, (k, e) :: h⟩ (⟨true, k :: nw, r⟩ :: fs) Q) :
    OpsX P F m ops dr (⟨some t, op, ty, pos, after, none⟩ :: rest) ⟨tm, h⟩ fs Q :=
  x_cons (e := ⟨true, v, [(k, e)], r, nw⟩) rfl rfl hs (fun j hj => by have := List.all_eq_true.1 hn j hj; simpa using this) hd (fun j hj => by cases hj; exact Nat.le_of_ble_eq_true hm) rfl hk
theorem x_s {k : Nat} {e : Ent} (hs : Stp P ⟨tm, h⟩ op v [(k, e)] r nw) (hn : nw.all (fun j => (lookE h j).isNone) = true) (hd : noDead [(k, e)] = true) (hk : OpsX P F m ops dr rest ⟨tm, (k, e) :: h⟩ (⟨true, k :: nw, r⟩ :: fs) Q) : OpsX P F m ops dr (⟨none, op, ty, pos, after, none⟩ :: rest) ⟨tm, h⟩ fs Q :=
  x_cons (e := ⟨true, v, [(k, e)], r, nw⟩) rfl rfl hs (fun j hj => by have := List.all_eq_true.1 hn j hj; simpa using this) hd (fun j hj => by cases hj) rfl hk
theorem x_d {d : List (Nat × Ent)} (hs : Stp P ⟨tm, h⟩ op v d r nw) (hm : Nat.blt t m = true) (hn : nw.all (fun j => (lookE h j).isNone) = true) (hd : noDead d = true) (hk : OpsX P F m ops dr rest ⟨(t, v) :: tm, d ++ h⟩ (⟨true, keys d ++ nw, r⟩ :: fs) Q) :
    OpsX P F m ops dr (⟨some t, op, ty, pos, after, none⟩ :: rest) ⟨tm, h⟩ fs Q :=
  x_cons (e := ⟨true, v, d, r, nw⟩) rfl rfl hs (fun j hj => by have := List.all_eq_true.1 hn j hj; simpa using this) hd (fun j hj => by cases hj; exact Nat.le_of_ble_eq_true hm) rfl hk
theorem x_d0 {d : List (Nat × Ent)} (hs : Stp P ⟨tm, h⟩ op v d r nw) (hn : nw.all (fun j => (lookE h j).isNone) = true) (hd : noDead d = true) (hk : OpsX P F m ops dr rest ⟨tm, d ++ h⟩ (⟨true, keys d ++ nw, r⟩ :: fs) Q) :
    OpsX P F m ops dr (⟨none, op, ty, pos, after, none⟩ :: rest) ⟨tm, h⟩ fs Q :=
  x_cons (e := ⟨true, v, d, r, nw⟩) rfl rfl hs (fun j hj => by have := List.all_eq_true.1 hn j hj; simpa using this) hd (fun j hj => by cases hj) rfl hk
end
theorem Step1.on {P : Program} {m : Nat} {ops : Array Oper} {d : Option Nat} {op : Op} {ty : Nat} {pos : String} {after : Array Edge} {j t : Nat} {b : Bool} {st : St} {e : Evt} (ht : gslot ops j = some t) (hv : look st.tm t = .s (.bool b)) (hs : Step1 P m ops ⟨d, op, ty, pos, after, none⟩ st e) :
    Step1 P m ops ⟨d, op, ty, pos, after, some (j, b)⟩ st e := by
  obtain ⟨h1, h2, h3, h4, h5, h6⟩ := hs
  exact ⟨h1, h2, h3, h4, h5, t, .bool b, ht, hv, by rw [show e.on = true from h6]; simp [gw]⟩
theorem x_on {d : Option Nat} {op : Op} {ty : Nat} {pos : String} {after : Array Edge} {j t : Nat} {b : Bool} {st : St} (ht : gslot ops j = some t) (hv : look st.tm t = .s (.bool b)) (hk : OpsX P F m ops dr (⟨d, op, ty, pos, after, none⟩ :: rest) st fs Q) :
    OpsX P F m ops dr (⟨d, op, ty, pos, after, some (j, b)⟩ :: rest) st fs Q := by
  cases dr with
  | false => exact ⟨ops_on ht hv hk.run⟩
  | true =>
    obtain ⟨es, st2, h1, h2⟩ := hk.run
    cases es with
    | nil => exact h1.elim
    | cons e es => exact ⟨⟨e :: es, st2, ⟨h1.1.on ht hv, h1.2⟩, h2⟩⟩
theorem x_off {d : Nat} {op : Op} {ty : Nat} {pos : String} {after : Array Edge} {j t : Nat} {b : Bool} {c : Value} (ht : gslot ops j = some t) (hv : look tm t = .s c) (hc : gw c b = false) (hm : Nat.blt d m = true) (hk : OpsX P F m ops dr rest ⟨(d, .s undef) :: tm, h⟩ (⟨false, [], []⟩ :: fs) Q) :
    OpsX P F m ops dr (⟨some d, op, ty, pos, after, some (j, b)⟩ :: rest) ⟨tm, h⟩ fs Q := by
  cases dr with
  | false => exact ⟨ops_off ht hv hc hm hk.run⟩
  | true =>
    obtain ⟨es, st2, h1, h2⟩ := hk.run
    refine ⟨⟨⟨false, .s undef, [], [], []⟩ :: es, st2, ⟨⟨rfl, (fun j hj => by cases hj; exact Nat.le_of_ble_eq_true hm), by simp, (fun h => by cases h), (fun _ => ⟨rfl, rfl⟩), t, c, ht, hv, hc.symm⟩, h1⟩, ?_⟩⟩
    rw [List.map_cons, List.reverse_cons, List.append_assoc]
    exact h2
theorem x_split {st : St} {l : List Oper} {t : Nat} {c : Bool} (hv : look st.tm t = .s (.bool c)) (h1 : c = true → OpsX P F m ops false l ⟨(t, .s (.bool true)) :: st.tm, st.h⟩ fs Q) (h2 : c = false → OpsX P F m ops false l ⟨(t, .s (.bool false)) :: st.tm, st.h⟩ fs Q) : OpsX P F m ops false l st fs Q := ⟨ops_split hv (fun h => (h1 h).run) (fun h => (h2 h).run)⟩
theorem x_tell {st : St} {l : List Oper} {t : Nat} {c : Bool} (c' : Bool) (hv : look st.tm t = .s (.bool c)) (hc : c = c') (hk : OpsX P F m ops false l ⟨(t, .s (.bool c')) :: st.tm, st.h⟩ fs Q) : OpsX P F m ops false l st fs Q := ⟨ops_tell hv hc hk.run⟩
theorem x_gsplit {d : Option Nat} {op : Op} {ty : Nat} {pos : String} {after : Array Edge} {j t : Nat} {b c : Bool} (ht : gslot ops j = some t) (hv : look tm t = .s (.bool c)) (h1 : c = true → OpsX P F m ops false (⟨d, op, ty, pos, after, some (j, b)⟩ :: rest) ⟨(t, .s (.bool true)) :: tm, h⟩ fs Q) (h2 : c = false → OpsX P F m ops false (⟨d, op, ty, pos, after, some (j, b)⟩ :: rest) ⟨(t, .s (.bool false)) :: tm, h⟩ fs Q) :
    OpsX P F m ops false (⟨d, op, ty, pos, after, some (j, b)⟩ :: rest) ⟨tm, h⟩ fs Q := by
  have := ht
  exact x_split (st := ⟨tm, h⟩) hv h1 h2
section
variable {ty t : Nat} {pos : String} {after : Array Edge} {st : St} {g : Option (Nat × Bool)} {d : Option Nat}
theorem is_call {c : Operand} {as : Array Operand} {ts : Array Nat} (hk : OpsX P F m ops dr (⟨some t, (.call ⟨.value c, as, ts⟩), ty, pos, after, none⟩ :: rest) st fs Q) : OpsX P F m ops dr (⟨some t, (.call ⟨.value c, as, ts⟩), ty, pos, after, none⟩ :: rest) st fs Q := hk
theorem is_bin {op : BinOp} {tx t2 : Nat} {x y : Operand} (hk : OpsX P F m ops dr (⟨some t, (.binOp op tx x y t2), ty, pos, after, none⟩ :: rest) st fs Q) : OpsX P F m ops dr (⟨some t, (.binOp op tx x y t2), ty, pos, after, none⟩ :: rest) st fs Q := hk
theorem is_idx {tx : Nat} {x y : Operand} (hk : OpsX P F m ops dr (⟨some t, (.indexAddr tx x y), ty, pos, after, none⟩ :: rest) st fs Q) : OpsX P F m ops dr (⟨some t, (.indexAddr tx x y), ty, pos, after, none⟩ :: rest) st fs Q := hk
theorem is_load {tx : Nat} {x : Operand} (hk : OpsX P F m ops dr (⟨some t, (.load tx x), ty, pos, after, none⟩ :: rest) st fs Q) : OpsX P F m ops dr (⟨some t, (.load tx x), ty, pos, after, none⟩ :: rest) st fs Q := hk
theorem is_fad {tx n : Nat} {x : Operand} (hk : OpsX P F m ops dr (⟨some t, (.fieldAddr tx x n), ty, pos, after, none⟩ :: rest) st fs Q) : OpsX P F m ops dr (⟨some t, (.fieldAddr tx x n), ty, pos, after, none⟩ :: rest) st fs Q := hk
theorem is_sto {tx : Nat} {x y : Operand} (hk : OpsX P F m ops dr (⟨none, (.store tx x y), ty, pos, after, none⟩ :: rest) st fs Q) : OpsX P F m ops dr (⟨none, (.store tx x y), ty, pos, after, none⟩ :: rest) st fs Q := hk
theorem is_grd {op : Op} {j : Nat} {b : Bool} (hk : OpsX P F m ops dr (⟨d, op, ty, pos, after, some (j, b)⟩ :: rest) st fs Q) : OpsX P F m ops dr (⟨d, op, ty, pos, after, some (j, b)⟩ :: rest) st fs Q := hk
theorem is_ops {l : List Oper} (hk : OpsX P F m ops dr l st fs Q) : OpsX P F m ops dr l st fs Q := hk
end
theorem x_region {Q : Exit → St → Prop} {id : Nat} {l : List Oper} {st : St} (hk : OpsX P F m l.toArray false l st [] (fun _ s => Q .normal s)) : Sim P F m (.region id l.toArray false) st Q := sim_region hk.run
theorem x_draw {Q : Exit → St → Prop} {id : Nat} {l : List Oper} {st : St} (hm : P.follows .mixedOrders = true) (hk : OpsX P F m l.toArray true l st [] (fun fs s => regOK l (clos l) fs.reverse = true ∧ Q .normal s)) : Sim P F m (.region id l.toArray true) st Q := by
  obtain ⟨es, st2, h1, h2, h3⟩ := hk.run
  exact sim_draw hm h1 (by simpa using h2) h3
end
end Av
end Go.Proofs.Ytianonghhmiooaa
/- Abstract values: the steps as the walk takes them. -/
namespace Go.Proofs.Ytianonghhmiooaa
namespace Av
set_option linter.unusedSimpArgs false
set_option linter.unusedVariables false
section
variable {P : Program} {TT : List TI} {K0 : List Nat} {F : Fr K0} {m : Nat} {ops : Array Oper} {rest : List Oper} {Q : List FP → St → Prop} {tm : List (Nat × AV)} {h : List (Nat × Ent)} {dr : Bool} {fs : List FP}
variable {ty : Nat} {pos : String} {after : Array Edge} {t : Nat}
theorem all1 {h : List (Nat × Ent)} {t : Nat} (hn : (lookE h t).isNone = true) : [t].all (fun j => (lookE h j).isNone) = true := by simpa using hn
theorem x_boxa {T : Nat} {x : Operand} {cs : List AV} (hx : opv (look tm) x = .agg cs) (hm : Nat.blt t m = true) (hn : (lookE h t).isNone = true) (hk : OpsX P F m ops dr rest ⟨(t, .ptr t 0 0) :: tm, (t, .box cs) :: h⟩ (⟨true, [t, t], []⟩ :: fs) Q) :
    OpsX P F m ops dr (⟨some t, .box T x, ty, pos, after, none⟩ :: rest) ⟨tm, h⟩ fs Q := x_w (nw := [t]) (stp_box t hx rfl) hm (all1 hn) rfl hk
theorem x_box1 {T : Nat} {x : Operand} {v : AV} (hx : opv (look tm) x = v) (h1 : v.one = true) (hm : Nat.blt t m = true) (hn : (lookE h t).isNone = true) (hk : OpsX P F m ops dr rest ⟨(t, .ptr t 0 0) :: tm, (t, .box [v]) :: h⟩ (⟨true, [t, t], []⟩ :: fs) Q) :
    OpsX P F m ops dr (⟨some t, .box T x, ty, pos, after, none⟩ :: rest) ⟨tm, h⟩ fs Q := by
  have ok : v.ok = true := by cases v <;> first | rfl | exact h1
  have e : v.cells = [v] := by cases v <;> first | rfl | (simp [AV.one] at h1)
  have hs := stp_box (P := P) (T := T) (st := ⟨tm, h⟩) t hx ok
  rw [e] at hs
  exact x_w (nw := [t]) hs hm (all1 hn) rfl hk
theorem x_alloc (hP : TOK P TT) {T : Nat} {ti : TI} {cs : List AV} (hT : TT[T]? = some ti) (h1 : ti.zero.all (·.oneCell') = true) (hc : ti.zero.map AV.s = cs) (hm : Nat.blt t m = true) (hn : (lookE h t).isNone = true)
    (hk : OpsX P F m ops dr rest ⟨(t, .ptr t 0 0) :: tm, (t, .box cs) :: h⟩ (⟨true, [t, t], []⟩ :: fs) Q) : OpsX P F m ops dr (⟨some t, .alloc T, ty, pos, after, none⟩ :: rest) ⟨tm, h⟩ fs Q := by
  subst hc; exact x_w (nw := [t]) (stp_alloc hP t hT h1) hm (all1 hn) rfl hk
/-- A whole variable is read. -/
theorem stp_load_all (hP : TOK P TT) {T : Nat} {x : Operand} {k : Nat} {cs : List AV} {ti : TI} (hx : opv (look tm) x = .ptr k 0 0) (hk : lookE h k = some (.box cs)) (hT : TT[T]? = some ti) (ha : ti.d.agg = true) (hs : Nat.beq ti.size cs.length = true) :
    Stp P ⟨tm, h⟩ (.load T x) (.agg cs) [] [k] [] := by
  have e := Nat.eq_of_beq_eq_true hs
  refine stp_load_box hP hx hk hT ?_
  unfold ldv
  rw [ha, e]
  simp [Nat.ble_eq_true_of_le (Nat.le_refl cs.length)]
theorem stp_load_one (hP : TOK P TT) {T : Nat} {x : Operand} {k off : Nat} {cs : List AV} {ti : TI} {v : AV} (hx : opv (look tm) x = .ptr k 0 off) (hk : lookE h k = some (.box cs)) (hT : TT[T]? = some ti) (ha : ti.d.agg = false) (hv : cs[off]? = some v) :
    Stp P ⟨tm, h⟩ (.load T x) v [] [k] [] := by
  refine stp_load_box hP hx hk hT ?_
  unfold ldv
  rw [ha]
  exact hv
/-- A whole element is read. -/
theorem stp_load_fpa (hP : TOK P TT) {T i : Nat} {x : Operand} {xs cs : List AV} {ti : TI} (hx : opv (look tm) x = .fp xs i 0) (hT : TT[T]? = some ti) (ha : ti.d.agg = true) (hy : xs[i]? = some (.agg cs)) (hs : Nat.beq ti.size cs.length = true) :
    Stp P ⟨tm, h⟩ (.load T x) (.agg cs) [] [] [] := by
  have e := Nat.eq_of_beq_eq_true hs
  refine stp_load_fp hP hx hy hT ?_
  unfold ldv
  rw [ha, e]
  simp [AV.cells, Nat.ble_eq_true_of_le (Nat.le_refl cs.length)]
theorem stp_load_fp1 (hP : TOK P TT) {T i off : Nat} {x : Operand} {xs : List AV} {y v : AV} {ti : TI} (hx : opv (look tm) x = .fp xs i off) (hT : TT[T]? = some ti) (ha : ti.d.agg = false) (hy : xs[i]? = some y) (hv : y.cells[off]? = some v) :
    Stp P ⟨tm, h⟩ (.load T x) v [] [] [] := by
  refine stp_load_fp hP hx hy hT ?_
  unfold ldv
  rw [ha]
  exact hv
theorem stp_load_arra (hP : TOK P TT) {T k i sz : Nat} {x : Operand} {xs cs : List AV} {sl : Fl} {ti : TI} (hx : opv (look tm) x = .ptr k i 0) (hk : lookE h k = some (.arr sz xs sl)) (hT : TT[T]? = some ti) (ha : ti.d.agg = true) (hy : xs[i]? = some (.agg cs)) (hs : Nat.beq ti.size cs.length = true) :
    Stp P ⟨tm, h⟩ (.load T x) (.agg cs) [] [k] [] := by
  have e := Nat.eq_of_beq_eq_true hs
  refine stp_load_arr hP hx hk hy hT ?_
  unfold ldv
  rw [ha, e]
  simp [AV.cells, Nat.ble_eq_true_of_le (Nat.le_refl cs.length)]
theorem stp_load_arr1 (hP : TOK P TT) {T k i off sz : Nat} {x : Operand} {xs : List AV} {sl : Fl} {y v : AV} {ti : TI} (hx : opv (look tm) x = .ptr k i off) (hk : lookE h k = some (.arr sz xs sl)) (hT : TT[T]? = some ti) (ha : ti.d.agg = false) (hy : xs[i]? = some y) (hv : y.cells[off]? = some v) :
    Stp P ⟨tm, h⟩ (.load T x) v [] [k] [] := by
  refine stp_load_arr hP hx hk hy hT ?_
  unfold ldv
  rw [ha]
  exact hv
/-- A whole variable is stored. -/
theorem x_sta (hP : TOK P TT) {T : Nat} {p x : Operand} {k : Nat} {cs vs : List AV} {ti : TI} (hp : opv (look tm) p = .ptr k 0 0) (hx : opv (look tm) x = .agg vs) (hk : lookE h k = some (.box cs)) (hT : TT[T]? = some ti) (h2 : Nat.beq vs.length ti.size = true) (h3 : Nat.beq ti.size cs.length = true)
    (hr : OpsX P F m ops dr rest ⟨tm, (k, .box vs) :: h⟩ (⟨true, [k], [k]⟩ :: fs) Q) : OpsX P F m ops dr (⟨none, .store T p x, ty, pos, after, none⟩ :: rest) ⟨tm, h⟩ fs Q := by
  have e3 := Nat.eq_of_beq_eq_true h3
  have e2 := Nat.eq_of_beq_eq_true h2
  have hs := stp_store_box (P := P) (st := ⟨tm, h⟩) hP hp hx hk hT rfl h2 (by rw [Nat.zero_add, e3]; exact Nat.ble_eq_true_of_le (Nat.le_refl _))
  have e : setL cs 0 (AV.agg vs).cells = vs := by
    apply List.ext_getElem?
    intro j
    rw [setL_at _ _ _ _ (by simp [AV.cells]; omega)]
    by_cases hj : j < vs.length
    · rw [if_pos (by simp [AV.cells]; omega)]; rfl
    · rw [if_neg (by simp [AV.cells]; omega), List.getElem?_eq_none (by omega), List.getElem?_eq_none (by omega)]
  rw [e] at hs
  exact x_s (nw := []) hs rfl rfl hr
/-- One cell is stored. -/
theorem x_st1 (hP : TOK P TT) {T : Nat} {p x : Operand} {k off : Nat} {cs cs' : List AV} {v : AV} {ti : TI} (hp : opv (look tm) p = .ptr k 0 off) (hx : opv (look tm) x = v) (h1 : v.one = true) (hk : lookE h k = some (.box cs)) (hT : TT[T]? = some ti) (h2 : Nat.beq 1 ti.size = true) (h3 : Nat.blt off cs.length = true) (hc : cs.set off v = cs')
    (hr : OpsX P F m ops dr rest ⟨tm, (k, .box cs') :: h⟩ (⟨true, [k], [k]⟩ :: fs) Q) : OpsX P F m ops dr (⟨none, .store T p x, ty, pos, after, none⟩ :: rest) ⟨tm, h⟩ fs Q := by
  have ok : v.ok = true := by cases v <;> first | rfl | exact h1
  have e : v.cells = [v] := by cases v <;> first | rfl | (simp [AV.one] at h1)
  have e2 := Nat.eq_of_beq_eq_true h2
  have hs := stp_store_box (P := P) (st := ⟨tm, h⟩) hP hp hx hk hT ok (by rw [e]; exact h2) (by rw [← e2]; exact h3)
  rw [e] at hs
  simp only [setL] at hs
  rw [hc] at hs
  exact x_s (nw := []) hs rfl rfl hr
theorem x_appnil (hP : TOK P TT) {T e : Nat} {s x : Operand} {ti te : TI} {xv : AV} {ys : List AV} (hs : opv (look tm) s = .s (.slice none 0 0)) (hx : opv (look tm) x = xv) (hT : TT[T]? = some ti) (hd : ti.d = .slice e) (he : TT[e]? = some te)
    (hys : els (lookE h) xv = some ys) (hsz : ∀ y, ys[0]? = some y → y.cells.length = te.size) (hp : Nat.ble 1 te.size = true) (hb : Nat.ble te.bytes 65536 = true) (hz : Nat.beq te.zero.length te.size = true) (hn : ys.length ≤ 1073741824) (hm : Nat.blt t m = true) (hnn : (lookE h t).isNone = true)
    {sz : Nat} (hse : te.size = sz) (hk : OpsX P F m ops dr rest ⟨(t, .ref t 0 ys.length) :: tm, (t, .arr sz ys false) :: h⟩ (⟨true, [t, t], elk xv⟩ :: fs) Q) : OpsX P F m ops dr (⟨some t, .call ⟨.builtin .append, #[s, x], #[T, T]⟩, ty, pos, after, none⟩ :: rest) ⟨tm, h⟩ fs Q := by
  subst hse; exact x_w (nw := [t]) (stp_append_nil hP t hs hx hT hd he hys hsz hp hb hz hn) hm (all1 hnn) rfl hk
theorem x_bsl (hP : TOK P TT) {T e len : Nat} {ps : Array (Nat × Operand)} {ti te : TI} {xs : List AV} (hT : TT[T]? = some ti) (hd : ti.d = .slice e) (he : TT[e]? = some te) (hp : Nat.ble 1 te.size = true) (hps : prts ⟨tm, h⟩ ps = (xs.zipIdx 0).map fun x => (x.2, x.1)) (hl : Nat.beq xs.length len = true)
    (hw : xs.all (fun x => Nat.beq x.cells.length te.size && (x.ok && x.nokey)) = true) (hb : Nat.ble (len * te.size) 65536 = true) (hzl : Nat.beq te.zero.length te.size = true) (hm : Nat.blt t m = true) (hnn : (lookE h t).isNone = true)
    {sz : Nat} (hse : te.size = sz) (hk : OpsX P F m ops dr rest ⟨(t, .ref t 0 len) :: tm, (t, .arr sz xs false) :: h⟩ (⟨true, [t, t], []⟩ :: fs) Q) : OpsX P F m ops dr (⟨some t, .buildSlice T len ps, ty, pos, after, none⟩ :: rest) ⟨tm, h⟩ fs Q := by
  subst hse; exact x_w (nw := [t]) (stp_buildSlice hP t hT hd he hp hps hl hw hb hzl) hm (all1 hnn) rfl hk
theorem x_mks (hP : TOK P TT) {T e n : Nat} {x y : Operand} {ti te : TI} {kx ky : IntKind} {nx ny : Int} {z : AV} (hx : opv (look tm) x = .s (.int kx nx)) (hy : opv (look tm) y = .s (.int ky ny)) (hT : TT[T]? = some ti) (hd : ti.d = .slice e) (he : TT[e]? = some te)
    (hb : Nat.ble te.bytes 65536 = true) (hp : Nat.ble 1 te.size = true) (hzl : Nat.beq te.zero.length te.size = true) (hz1 : te.zero.all (·.oneCell') = true) (hzc : Nat.beq (zeroA te).cells.length te.size = true) (hzc2 : (zeroA te).cells = te.zero.map .s) (hz : zeroA te = z)
    (hnx : nx = (n : Int)) (hny : nx ≤ ny) (hmax : ny ≤ 1073741824) (hm : Nat.blt t m = true) (hnn : (lookE h t).isNone = true)
    {sz : Nat} (hse : te.size = sz) (hk : OpsX P F m ops dr rest ⟨(t, .ref t 0 n) :: tm, (t, .arr sz (List.replicate n z) false) :: h⟩ (⟨true, [t, t], []⟩ :: fs) Q) : OpsX P F m ops dr (⟨some t, .makeSlice T x y, ty, pos, after, none⟩ :: rest) ⟨tm, h⟩ fs Q := by
  subst hse hz; exact x_w (nw := [t]) (stp_makeSlice hP t hx hy hT hd he hnx hny hmax hb hp hzl hz1 hzc hzc2) hm (all1 hnn) rfl hk
theorem x_appref (hP : TOK P TT) {T e : Nat} {s x : Operand} {ti te : TI} {k sz len : Nat} {xs : List AV} {sb : Bool} {xv : AV} {ys : List AV} (hs : opv (look tm) s = .ref k 0 len) (hk : lookE h k = some (.arr sz xs ⟨sb, false⟩)) (hx : opv (look tm) x = xv) (hT : TT[T]? = some ti) (hd : ti.d = .slice e) (he : TT[e]? = some te)
    (hys : els (lookE h) xv = some ys) (hss : Nat.beq sz te.size = true) (hb : Nat.ble te.bytes 65536 = true) (hz : Nat.beq te.zero.length te.size = true) (hlen : len = xs.length) (hsz : ∀ y, ys[0]? = some y → y.cells.length = sz) (hn : xs.length + ys.length ≤ 1073741824) (hm : Nat.blt t m = true)
    (hr : OpsX P F m ops dr rest ⟨(t, .ref k 0 (xs ++ ys).length) :: tm, (k, .arr sz (xs ++ ys) true) :: h⟩ (⟨true, [k], k :: elk xv⟩ :: fs) Q) : OpsX P F m ops dr (⟨some t, .call ⟨.builtin .append, #[s, x], #[T, T]⟩, ty, pos, after, none⟩ :: rest) ⟨tm, h⟩ fs Q := by
  subst hlen; exact x_w (nw := []) (stp_append_ref hP hs hk hx hT hd he hys hsz hss hb hz hn) hm rfl rfl hr
/-- append of elements that hold keys. -/
theorem x_apprefN (hP : TOK P TT) {T e : Nat} {s x : Operand} {ti te : TI} {k sz len : Nat} {xs : List AV} {sl : Fl} {xv : AV} {ys : List AV} (hs : opv (look tm) s = .ref k 0 len) (hk : lookE h k = some (.arr sz xs sl)) (hx : opv (look tm) x = xv) (hT : TT[T]? = some ti) (hd : ti.d = .slice e) (he : TT[e]? = some te)
    (hys : elsG true (lookE h) xv = some ys) (hss : Nat.beq sz te.size = true) (hb : Nat.ble te.bytes 65536 = true) (hz : Nat.beq te.zero.length te.size = true) (hlen : len = xs.length) (hsz : ∀ y, ys[0]? = some y → y.cells.length = sz) (hn : xs.length + ys.length ≤ 1073741824) (hm : Nat.blt t m = true)
    (hr : OpsX P F m ops dr rest ⟨(t, .ref k 0 (xs ++ ys).length) :: tm, (k, .arr sz (xs ++ ys) ⟨true, true⟩) :: h⟩ (⟨true, [k], k :: elk xv⟩ :: fs) Q) : OpsX P F m ops dr (⟨some t, .call ⟨.builtin .append, #[s, x], #[T, T]⟩, ty, pos, after, none⟩ :: rest) ⟨tm, h⟩ fs Q := by
  subst hlen; exact x_w (nw := []) (stp_append_refN hP hs hk hx hT hd he hys hsz hss hb hz hn) hm rfl rfl hr

section
variable {op : BinOp} {tx t2 : Nat} {x y : Operand} {k : IntKind} {a b : Int} (hx : opv (look tm) x = .s (.int k a)) (hy : opv (look tm) y = .s (.int k b))
include hx hy
theorem stp_lt_t (hh : a < b) : Stp P ⟨tm, h⟩ (.binOp .lss tx x y t2) (.s (.bool true)) [] [] [] := by have := stp_lss (P := P) (st := ⟨tm, h⟩) (tx := tx) (ty := t2) hx hy; rwa [decide_eq_true hh] at this
theorem stp_lt_f (hh : ¬ a < b) : Stp P ⟨tm, h⟩ (.binOp .lss tx x y t2) (.s (.bool false)) [] [] [] := by have := stp_lss (P := P) (st := ⟨tm, h⟩) (tx := tx) (ty := t2) hx hy; rwa [decide_eq_false hh] at this
theorem stp_le_t (hh : a ≤ b) : Stp P ⟨tm, h⟩ (.binOp .leq tx x y t2) (.s (.bool true)) [] [] [] := by have := stp_leq (P := P) (st := ⟨tm, h⟩) (tx := tx) (ty := t2) hx hy; rwa [decide_eq_true hh] at this
theorem stp_le_f (hh : ¬ a ≤ b) : Stp P ⟨tm, h⟩ (.binOp .leq tx x y t2) (.s (.bool false)) [] [] [] := by have := stp_leq (P := P) (st := ⟨tm, h⟩) (tx := tx) (ty := t2) hx hy; rwa [decide_eq_false hh] at this
theorem stp_gt_t (hh : b < a) : Stp P ⟨tm, h⟩ (.binOp .gtr tx x y t2) (.s (.bool true)) [] [] [] := by have := stp_gtr (P := P) (st := ⟨tm, h⟩) (tx := tx) (ty := t2) hx hy; rwa [decide_eq_true hh] at this
theorem stp_gt_f (hh : ¬ b < a) : Stp P ⟨tm, h⟩ (.binOp .gtr tx x y t2) (.s (.bool false)) [] [] [] := by have := stp_gtr (P := P) (st := ⟨tm, h⟩) (tx := tx) (ty := t2) hx hy; rwa [decide_eq_false hh] at this
theorem stp_ge_t (hh : b ≤ a) : Stp P ⟨tm, h⟩ (.binOp .geq tx x y t2) (.s (.bool true)) [] [] [] := by have := stp_geq (P := P) (st := ⟨tm, h⟩) (tx := tx) (ty := t2) hx hy; rwa [decide_eq_true hh] at this
theorem stp_ge_f (hh : ¬ b ≤ a) : Stp P ⟨tm, h⟩ (.binOp .geq tx x y t2) (.s (.bool false)) [] [] [] := by have := stp_geq (P := P) (st := ⟨tm, h⟩) (tx := tx) (ty := t2) hx hy; rwa [decide_eq_false hh] at this
theorem stp_eq_t (hh : a = b) : Stp P ⟨tm, h⟩ (.binOp .eql tx x y t2) (.s (.bool true)) [] [] [] := by have := stp_eql (P := P) (st := ⟨tm, h⟩) (tx := tx) (ty := t2) hx hy; rwa [show (a == b) = true by simpa using hh] at this
theorem stp_eq_f (hh : a ≠ b) : Stp P ⟨tm, h⟩ (.binOp .eql tx x y t2) (.s (.bool false)) [] [] [] := by have := stp_eql (P := P) (st := ⟨tm, h⟩) (tx := tx) (ty := t2) hx hy; rwa [show (a == b) = false by simpa using hh] at this
theorem stp_ne_t (hh : a ≠ b) : Stp P ⟨tm, h⟩ (.binOp .neq tx x y t2) (.s (.bool true)) [] [] [] := by have := stp_neq (P := P) (st := ⟨tm, h⟩) (tx := tx) (ty := t2) hx hy; rwa [show (a != b) = true by simpa using hh] at this
theorem stp_ne_f (hh : a = b) : Stp P ⟨tm, h⟩ (.binOp .neq tx x y t2) (.s (.bool false)) [] [] [] := by have := stp_neq (P := P) (st := ⟨tm, h⟩) (tx := tx) (ty := t2) hx hy; rwa [show (a != b) = false by simpa using hh] at this
end
end
end Av
end Go.Proofs.Ytianonghhmiooaa
/- Abstract values: an operation that can be reckoned is reckoned. -/
namespace Go.Proofs.Ytianonghhmiooaa
namespace Av
set_option linter.unusedSimpArgs false
set_option linter.unusedVariables false

/-- The value, its head laid open. -/
def frc {β : Type} (v : AV) (K : AV → Option β) : Option β := match v with
  | .s v => K (.s v)
  | .ptr k i o => K (.ptr k i o)
  | .agg cs => K (.agg cs)
  | .sl b xs => K (.sl b xs)
  | .ref k o n => K (.ref k o n)
  | .fp xs i o => K (.fp xs i o)
  | .fn f cs => K (.fn f cs)
  | .tup vs => K (.tup vs)
  | .bot => K .bot
  | .gh n => K (.gh n)
theorem frc_eq {β : Type} (v : AV) (K : AV → Option β) : frc v K = K v := by cases v <;> rfl
/-- The list, its elements' heads laid open. -/
def frcL {β : Type} : List AV → (List AV → Option β) → Option β
  | [], K => K []
  | x :: r, K => frc x fun x => frcL r fun r => K (x :: r)
theorem frcL_eq {β : Type} : ∀ (l : List AV) (K : List AV → Option β), frcL l K = K l
  | [], _ => rfl
  | x :: r, K => by rw [frcL, frc_eq, frcL_eq r]
abbrev Res := AV × List (Nat × Ent) × List Nat × List Nat
/-- A load out of a row of cells. -/
def ldR (ti : TI) (row : List AV) (off : Nat) (r : List Nat) : Option Res :=
  bif ti.d.agg then (bif Nat.ble (off + ti.size) row.length then frcL ((row.drop off).take ti.size) fun l => some (.agg l, [], r, []) else none)
  else match row[off]? with
    | some v => frc v fun v => some (v, [], r, [])
    | none => none
def isCmp : BinOp → Bool
  | .eql | .neq | .lss | .leq | .gtr | .geq => true
  | _ => false
def rangeIs : Nat → List Nat → Bool
  | _, [] => true
  | n, x :: r => Nat.beq x n && rangeIs (n + 1) r

def exec (TT : List TI) (tm : List (Nat × AV)) (h : List (Nat × Ent)) (t : Nat) : Op → Option Res
  | .move x => frc (opv (look tm) x) fun v => some (v, [], [], [])
  | .assign x => frc (opv (look tm) x) fun v => some (v, [], [], [])
  | .pick c x y => match opv (look tm) c with
    | .s (.bool b) => bif b then frc (opv (look tm) x) fun v => some (v, [], [], []) else frc (opv (look tm) y) fun v => some (v, [], [], [])
    | _ => none
  | .extract x i => match opv (look tm) x with
    | .tup vs => match vs[i]? with
      | some v => frc v fun v => some (v, [], [], [])
      | none => none
    | _ => none
  | .box _ x => match opv (look tm) x with
    | .agg cs => some (.ptr t 0 0, [(t, .box cs)], [], [t])
    | v => bif v.one then frc v fun v => some (.ptr t 0 0, [(t, .box [v])], [], [t]) else none
  | .alloc T => match TT[T]? with
    | some ti => bif ti.zero.all (·.oneCell') then frcL (ti.zero.map AV.s) fun l => some (.ptr t 0 0, [(t, .box l)], [], [t]) else none
    | none => none
  | .load T x => match opv (look tm) x, TT[T]? with
    | .ptr k 0 off, some ti => match lookE h k with
      | some (.box cs) => ldR ti cs off [k]
      | some (.arr _ xs _) => match xs[0]? with
        | some y => ldR ti y.cells off [k]
        | none => none
      | _ => none
    | .ptr k (i + 1) off, some ti => match lookE h k with
      | some (.arr _ xs _) => match xs[i + 1]? with
        | some y => ldR ti y.cells off [k]
        | none => none
      | _ => none
    | .fp xs i off, some ti => match xs[i]? with
      | some y => ldR ti y.cells off []
      | none => none
    | _, _ => none
  | .store T p x => match opv (look tm) p, TT[T]? with
    | .ptr k 0 off, some ti => match lookE h k with
      | some (.box cs) => frc (opv (look tm) x) fun v => bif v.ok && (Nat.beq v.cells.length ti.size && Nat.ble (off + ti.size) cs.length) then frcL (setL cs off v.cells) fun l => some (.bot, [(k, .box l)], [k], []) else none
      | _ => none
    | _, _ => none
  | .fieldAddr T x f => match opv (look tm) x, TT[T]? with
    | .ptr k 0 off, some ti => match lookE h k, ti.d with
      | some (.box _), .str fs => match fs[f]? with
        | some (o, ft) => match TT[ft]? with
          | some tf => bif Nat.ble 1 tf.size then some (.ptr k 0 (off + o), [], [k], []) else none
          | none => none
        | none => none
      | _, _ => none
    | _, _ => none
  | .field T x f => match opv (look tm) x, TT[T]? with
    | .agg cs, some ti => match ti.d with
      | .str fs => match fs[f]? with
        | some (o, ft) => match TT[ft]? with
          | some tf => ldR tf cs o []
          | none => none
        | none => none
      | _ => none
    | _, _ => none
  | .nilCheck x => match opv (look tm) x with
    | .ptr k 0 off => match lookE h k with
      | some (.box _) => some (.ptr k 0 off, [], [k], [])
      | _ => none
    | _ => none
  | .unOp .not _ x => match opv (look tm) x with
    | .s (.bool b) => some (.s (.bool !b), [], [], [])
    | _ => none
  | .makeFunc (.func f) ⟨[]⟩ cap => frcL (cap.toList.map (opv (look tm))) fun l => some (.fn f l, [], [], [])
  | .build T ps => match TT[T]? with
    | some ti => match ti.d with
      | .str fs => bif ti.zero.all (·.oneCell') then (match plOf TT fs with
        | some pl => match fillA (pl[·]?) (ti.zero.map .s) (prts ⟨tm, h⟩ ps) with
          | some cs => frcL cs fun l => some (.agg l, [], [], [])
          | none => none
        | none => none) else none
      | .arr _ e => bif ti.zero.all (·.oneCell') then (match TT[e]? with
        | some te => match fillA (fun i => some (i * te.size, te.size)) (ti.zero.map .s) (prts ⟨tm, h⟩ ps) with
          | some cs => frcL cs fun l => some (.agg l, [], [], [])
          | none => none
        | none => none) else none
      | _ => none
    | none => none
  | .buildSlice T len ps => match TT[T]? with
    | some ti => match ti.d with
      | .slice e => match TT[e]? with
        | some te => bif rangeIs 0 (ps.toList.map (·.1)) && (Nat.beq ps.toList.length len && (Nat.ble 1 te.size && (Nat.ble (len * te.size) 65536 && Nat.beq te.zero.length te.size))) then
            frcL (ps.toList.map fun p => opv (look tm) p.2) fun xs => bif xs.all (fun x => Nat.beq x.cells.length te.size && (x.ok && x.nokey)) then some (.ref t 0 len, [(t, .arr te.size xs false)], [], [t]) else none else none
        | none => none
      | _ => none
    | none => none
  | .call ⟨.builtin .len, ⟨[x]⟩, ⟨[T]⟩⟩ => match TT[T]? with
    | some ti => match ti.d with
      | .slice _ => match opv (look tm) x with
        | .sl _ xs => some (.s (.int .i64 xs.length), [], [], [])
        | .ref k _ len => match lookE h k with
          | some (.arr _ _ _) => some (.s (.int .i64 len), [], [k], [])
          | _ => none
        | .s (.slice _ n _) => some (.s (.int .i64 n), [], [], [])
        | _ => none
      | _ => none
    | none => none
  | .call ⟨.builtin .max, ⟨[x, y]⟩, ⟨[_, _]⟩⟩ => match opv (look tm) x, opv (look tm) y with
    | .s (.int .i64 m), .s (.int .i64 n) => some (.s (.int .i64 (max m n)), [], [], [])
    | _, _ => none
  | .call ⟨.builtin .min, ⟨[x, y]⟩, ⟨[_, _]⟩⟩ => match opv (look tm) x, opv (look tm) y with
    | .s (.int .i64 m), .s (.int .i64 n) => some (.s (.int .i64 (min m n)), [], [], [])
    | _, _ => none
  | _ => none

section
variable {P : Program} {TT : List TI} (hP : TOK P TT) {tm : List (Nat × AV)} {h : List (Nat × Ent)} {t : Nat}
theorem ldR_eq {ti : TI} {row : List AV} {off : Nat} {r : List Nat} {v : AV} {d : List (Nat × Ent)} {r' nw : List Nat} (he : ldR ti row off r = some (v, d, r', nw)) : ldv ti.d.agg ti.size row off = some v ∧ d = [] ∧ r' = r ∧ nw = [] := by
  unfold ldR at he
  unfold ldv
  cases hb : ti.d.agg with
  | true =>
    simp only [hb, cond_true, frcL_eq] at he
    cases hc : Nat.ble (off + ti.size) row.length with
    | true => simp only [hc, cond_true, Option.some.injEq, Prod.mk.injEq] at he; simp [he.1, he.2.1, he.2.2.1, he.2.2.2]
    | false => simp [hc] at he
  | false =>
    simp only [hb, cond_false] at he
    cases hr : row[off]? with
    | none => simp [hr] at he
    | some u => simp only [hr, frc_eq, Option.some.injEq, Prod.mk.injEq] at he; simp [he.1, he.2.1, he.2.2.1, he.2.2.2]
theorem rangeIs_eq : ∀ (l : List Nat) (n : Nat), rangeIs n l = true → ∀ (j : Nat) x, l[j]? = some x → x = n + j
  | [], _, _, _, _, h => by simp at h
  | y :: r, n, hr, 0, x, h => by simp at h; subst h; simp [rangeIs] at hr; omega
  | y :: r, n, hr, j + 1, x, h => by
    simp only [rangeIs, Bool.and_eq_true] at hr
    have := rangeIs_eq r (n + 1) hr.2 j x (by simpa using h)
    omega
include hP in
theorem exec_sound : ∀ {op : Op} {v : AV} {d : List (Nat × Ent)} {r nw : List Nat}, exec TT tm h t op = some (v, d, r, nw) → Stp P ⟨tm, h⟩ op v d r nw := by
  intro op v d r nw he
  unfold exec at he
  split at he
  · simp only [frc_eq, Option.some.injEq, Prod.mk.injEq] at he
    obtain ⟨rfl, rfl, rfl, rfl⟩ := he
    exact stp_move rfl
  · simp only [frc_eq, Option.some.injEq, Prod.mk.injEq] at he
    obtain ⟨rfl, rfl, rfl, rfl⟩ := he
    exact stp_assign rfl
  · split at he
    · rename_i b hb
      cases b <;> simp only [cond_true, cond_false, frc_eq, Option.some.injEq, Prod.mk.injEq] at he <;> obtain ⟨rfl, rfl, rfl, rfl⟩ := he <;> exact stp_pick hb rfl
    · cases he
  · split at he
    · rename_i hx
      split at he
      · rename_i hv
        simp only [frc_eq, Option.some.injEq, Prod.mk.injEq] at he
        obtain ⟨rfl, rfl, rfl, rfl⟩ := he
        exact stp_extract hx hv
      · cases he
    · cases he
  · rename_i T x
    generalize hx : opv (look tm) x = u at he
    by_cases ha : u.isAgg = true
    · cases u <;> simp [AV.isAgg] at ha
      simp only [Option.some.injEq, Prod.mk.injEq] at he
      obtain ⟨rfl, rfl, rfl, rfl⟩ := he
      exact stp_box (v := .agg _) t hx rfl
    · have he2 : (bif u.one then some (AV.ptr t 0 0, [(t, Ent.box [u])], ([] : List Nat), [t]) else none) = some (v, d, r, nw) := by
        cases u <;> first | exact he | (simp [AV.isAgg] at ha)
      cases ho : u.one with
      | false => rw [ho] at he2; cases he2
      | true =>
        rw [ho] at he2
        simp only [cond_true, Option.some.injEq, Prod.mk.injEq] at he2
        obtain ⟨rfl, rfl, rfl, rfl⟩ := he2
        have ok : u.ok = true := by cases u <;> first | rfl | exact ho
        have e : u.cells = [u] := by cases u <;> first | rfl | (simp [AV.one] at ho)
        have := stp_box (P := P) (T := T) (st := ⟨tm, h⟩) t hx ok
        rwa [e] at this
  · split at he
    · rename_i ti hT
      cases hz : ti.zero.all (·.oneCell') with
      | false => simp [hz] at he
      | true =>
        simp only [hz, cond_true, frcL_eq, Option.some.injEq, Prod.mk.injEq] at he
        obtain ⟨rfl, rfl, rfl, rfl⟩ := he
        exact stp_alloc hP t hT hz
    · cases he
  · split at he
    · rename_i k off ti hx hT
      split at he
      · rename_i cs hk
        obtain ⟨q1, rfl, rfl, rfl⟩ := ldR_eq he
        exact stp_load_box hP hx hk hT q1
      · rename_i xs _ hk
        split at he
        · rename_i y hy
          obtain ⟨q1, rfl, rfl, rfl⟩ := ldR_eq he
          exact stp_load_arr hP hx hk hy hT q1
        · cases he
      · cases he
    · rename_i k i off ti hx hT
      split at he
      · rename_i xs _ hk
        split at he
        · rename_i y hy
          obtain ⟨q1, rfl, rfl, rfl⟩ := ldR_eq he
          exact stp_load_arr hP hx hk hy hT q1
        · cases he
      · cases he
    · rename_i xs i off ti hx hT
      split at he
      · rename_i y hy
        obtain ⟨q1, rfl, rfl, rfl⟩ := ldR_eq he
        exact stp_load_fp hP hx hy hT q1
      · cases he
    · cases he
  · rename_i T p x
    split at he
    · rename_i k off ti hp hT
      split at he
      · rename_i cs hk
        rw [frc_eq] at he
        cases hc : ((opv (look tm) x).ok && (Nat.beq (opv (look tm) x).cells.length ti.size && Nat.ble (off + ti.size) cs.length)) with
        | false => rw [hc] at he; cases he
        | true =>
          rw [hc] at he
          simp only [cond_true, frcL_eq, Option.some.injEq, Prod.mk.injEq] at he
          obtain ⟨rfl, rfl, rfl, rfl⟩ := he
          simp only [Bool.and_eq_true] at hc
          exact stp_store_box hP hp rfl hk hT hc.1 hc.2.1 hc.2.2
      · cases he
    · cases he
  · split at he
    · rename_i k off ti hx hT
      split at he
      · rename_i cs fs hk hd
        split at he
        · rename_i o ft hf
          split at he
          · rename_i tf hft
            cases hz : Nat.ble 1 tf.size with
            | false => simp [hz] at he
            | true =>
              simp only [hz, cond_true, Option.some.injEq, Prod.mk.injEq] at he
              obtain ⟨rfl, rfl, rfl, rfl⟩ := he
              exact stp_fieldAddr_box hP hx hk hT hd hf hft hz
          · cases he
        · cases he
      · cases he
    · cases he
  · split at he
    · rename_i cs ti hx hT
      split at he
      · rename_i fs hd
        split at he
        · rename_i o ft hf
          split at he
          · rename_i tf hft
            obtain ⟨q1, rfl, rfl, rfl⟩ := ldR_eq he
            exact stp_field hP hx hT hd hf hft q1
          · cases he
        · cases he
      · cases he
    · cases he
  · split at he
    · rename_i hx
      split at he
      · rename_i hk
        simp only [Option.some.injEq, Prod.mk.injEq] at he
        obtain ⟨rfl, rfl, rfl, rfl⟩ := he
        exact stp_nilCheck_box hx hk
      · cases he
    · cases he
  · split at he
    · rename_i hx
      simp only [Option.some.injEq, Prod.mk.injEq] at he
      obtain ⟨rfl, rfl, rfl, rfl⟩ := he
      exact stp_not hx
    · cases he
  · simp only [frcL_eq, Option.some.injEq, Prod.mk.injEq] at he
    obtain ⟨rfl, rfl, rfl, rfl⟩ := he
    exact stp_makeFunc
  · split at he
    · rename_i ti hT
      split at he
      · rename_i fs hd
        cases hz : ti.zero.all (·.oneCell') with
        | false => simp [hz] at he
        | true =>
          simp only [hz, cond_true] at he
          split at he
          · rename_i pl hpl
            split at he
            · rename_i cs hf
              simp only [frcL_eq, Option.some.injEq, Prod.mk.injEq] at he
              obtain ⟨rfl, rfl, rfl, rfl⟩ := he
              exact stp_build hP hT hd hz hpl hf
            · cases he
          · cases he
      · rename_i e hd
        cases hz : ti.zero.all (·.oneCell') with
        | false => simp [hz] at he
        | true =>
          simp only [hz, cond_true] at he
          split at he
          · rename_i te hte
            split at he
            · rename_i cs hf
              simp only [frcL_eq, Option.some.injEq, Prod.mk.injEq] at he
              obtain ⟨rfl, rfl, rfl, rfl⟩ := he
              exact stp_build_arr hP hT hd hte hz hf
            · cases he
          · cases he
      · cases he
    · cases he
  · split at he
    · rename_i ti hT
      split at he
      · rename_i e hd
        split at he
        · rename_i T len ps _ _ _ te hte
          rw [frcL_eq] at he
          cases hc : (rangeIs 0 (ps.toList.map (·.1)) && (Nat.beq ps.toList.length len && (Nat.ble 1 te.size && (Nat.ble (len * te.size) 65536 && Nat.beq te.zero.length te.size)))) with
          | false => rw [hc] at he; cases he
          | true =>
            rw [hc] at he
            simp only [cond_true] at he
            generalize hxs : (ps.toList.map fun p => opv (look tm) p.2) = xs at he
            cases hw : xs.all (fun x => Nat.beq x.cells.length te.size && (x.ok && x.nokey)) with
            | false => simp [hw] at he
            | true =>
              simp only [hw, cond_true, Option.some.injEq, Prod.mk.injEq] at he
              obtain ⟨rfl, rfl, rfl, rfl⟩ := he
              simp only [Bool.and_eq_true] at hc
              obtain ⟨c1, c2, c3, c4, c5⟩ := hc
              refine stp_buildSlice hP t hT hd hte c3 ?_ (by rw [← hxs]; simpa using c2) hw c4 c5
              rw [← hxs]
              apply List.ext_getElem?
              intro j
              simp only [prts, List.getElem?_map, List.getElem?_zipIdx, Nat.zero_add]
              cases hj : ps.toList[j]? with
              | none => simp
              | some p =>
                have := rangeIs_eq _ 0 c1 j p.1 (by simp [hj])
                simp [this]
        · cases he
      · cases he
    · cases he
  · split at he
    · rename_i ti hT
      split at he
      · rename_i hd
        split at he
        · rename_i hx
          simp only [Option.some.injEq, Prod.mk.injEq] at he
          obtain ⟨rfl, rfl, rfl, rfl⟩ := he
          exact stp_len_sl hP hx hT hd
        · rename_i hx
          split at he
          · rename_i hk
            simp only [Option.some.injEq, Prod.mk.injEq] at he
            obtain ⟨rfl, rfl, rfl, rfl⟩ := he
            exact stp_len_ref hP hx hk hT hd
          · cases he
        · rename_i hx
          simp only [Option.some.injEq, Prod.mk.injEq] at he
          obtain ⟨rfl, rfl, rfl, rfl⟩ := he
          exact stp_len_nil hP hx hT hd
        · cases he
      · cases he
    · cases he
  · split at he
    · rename_i hx hy
      simp only [Option.some.injEq, Prod.mk.injEq] at he
      obtain ⟨rfl, rfl, rfl, rfl⟩ := he
      exact stp_max hx hy
    · cases he
  · split at he
    · rename_i hx hy
      simp only [Option.some.injEq, Prod.mk.injEq] at he
      obtain ⟨rfl, rfl, rfl, rfl⟩ := he
      exact stp_min hx hy
    · cases he
  · cases he
end

/-- Two integers compared. -/
def cmpP : BinOp → Int → Int → Prop
  | .eql, a, b => a = b
  | .neq, a, b => a ≠ b
  | .lss, a, b => a < b
  | .leq, a, b => a ≤ b
  | .gtr, a, b => b < a
  | .geq, a, b => b ≤ a
  | _, _, _ => False
def cmpB : BinOp → Int → Int → Bool
  | .eql, a, b => a == b
  | .neq, a, b => a != b
  | .lss, a, b => decide (a < b)
  | .leq, a, b => decide (a ≤ b)
  | .gtr, a, b => decide (b < a)
  | .geq, a, b => decide (b ≤ a)
  | _, _, _ => false
def ariV : BinOp → Int → Int → Int
  | .add, a, b => a + b
  | .sub, a, b => a - b
  | .mul, a, b => a * b
  | _, a, _ => a
section
variable {P : Program} {TT : List TI} {K0 : List Nat} {F : Fr K0} {m : Nat} {ops : Array Oper} {rest : List Oper} {Q : List FP → St → Prop} {tm : List (Nat × AV)} {h : List (Nat × Ent)} {dr : Bool} {fs : List FP}
variable {ty : Nat} {pos : String} {after : Array Edge} {t : Nat}
/-- The step that can be reckoned. -/
theorem x_auto (hP : TOK P TT) {op : Op} {v : AV} {r : List Nat} (he : exec TT tm h t op = some (v, [], r, [])) (hm : Nat.blt t m = true) (hk : OpsX P F m ops dr rest ⟨(t, v) :: tm, h⟩ (⟨true, [], r⟩ :: fs) Q) :
    OpsX P F m ops dr (⟨some t, op, ty, pos, after, none⟩ :: rest) ⟨tm, h⟩ fs Q := x_q (exec_sound hP he) hm hk
theorem x_autow (hP : TOK P TT) {op : Op} {v : AV} {k : Nat} {e : Ent} {r nw : List Nat} (he : exec TT tm h t op = some (v, [(k, e)], r, nw)) (hm : Nat.blt t m = true) (hn : nw.all (fun j => (lookE h j).isNone) = true) (hd : noDead [(k, e)] = true)
    (hk : OpsX P F m ops dr rest ⟨(t, v) :: tm, (k, e) :: h⟩ (⟨true, k :: nw, r⟩ :: fs) Q) : OpsX P F m ops dr (⟨some t, op, ty, pos, after, none⟩ :: rest) ⟨tm, h⟩ fs Q := x_w (exec_sound hP he) hm hn hd hk
theorem x_autos (hP : TOK P TT) {op : Op} {v : AV} {k : Nat} {e : Ent} {r nw : List Nat} (he : exec TT tm h 0 op = some (v, [(k, e)], r, nw)) (hn : nw.all (fun j => (lookE h j).isNone) = true) (hd : noDead [(k, e)] = true)
    (hk : OpsX P F m ops dr rest ⟨tm, (k, e) :: h⟩ (⟨true, k :: nw, r⟩ :: fs) Q) : OpsX P F m ops dr (⟨none, op, ty, pos, after, none⟩ :: rest) ⟨tm, h⟩ fs Q := x_s (exec_sound hP he) hn hd hk
section
variable {op : BinOp} {tx t2 : Nat} {x y : Operand} {k : IntKind} {a b : Int} (hop : isCmp op = true) (hx : opv (look tm) x = .s (.int k a)) (hy : opv (look tm) y = .s (.int k b))
include hop hx hy
theorem stp_cmp : Stp P ⟨tm, h⟩ (.binOp op tx x y t2) (.s (.bool (cmpB op a b))) [] [] [] := by
  cases op <;> first
    | exact stp_eql hx hy
    | exact stp_neq hx hy
    | exact stp_lss hx hy
    | exact stp_leq hx hy
    | exact stp_gtr hx hy
    | exact stp_geq hx hy
    | (simp [isCmp] at hop)
theorem stp_cmp_t (hh : cmpP op a b) : Stp P ⟨tm, h⟩ (.binOp op tx x y t2) (.s (.bool true)) [] [] [] := by
  cases op <;> first
    | exact stp_eq_t hx hy hh
    | exact stp_ne_t hx hy hh
    | exact stp_lt_t hx hy hh
    | exact stp_le_t hx hy hh
    | exact stp_gt_t hx hy hh
    | exact stp_ge_t hx hy hh
    | (simp [isCmp] at hop)
theorem stp_cmp_f (hh : ¬ cmpP op a b) : Stp P ⟨tm, h⟩ (.binOp op tx x y t2) (.s (.bool false)) [] [] [] := by
  cases op <;> first
    | exact stp_eq_f hx hy hh
    | exact stp_ne_f hx hy (by simpa [cmpP] using hh)
    | exact stp_lt_f hx hy hh
    | exact stp_le_f hx hy hh
    | exact stp_gt_f hx hy hh
    | exact stp_ge_f hx hy hh
    | (simp [isCmp] at hop)
end
end
end Av
end Go.Proofs.Ytianonghhmiooaa
/- Abstract values: nil as an array of one's own that is empty; more steps. -/
namespace Go.Proofs.Ytianonghhmiooaa
namespace Av
set_option linter.unusedSimpArgs false
set_option linter.unusedVariables false

theorem goes_virt {X : Nat → Prop} {h : Heap} {β : Map} {w : World} (H : HOK X h β w) {K : Nat} (hK : h K = none) {sz : Nat} (hp : 1 ≤ sz) : Goes X w h β w (over [(K, .arr sz [] true)] h) (upd β K []) :=
  Goes.step H K _ _ (Nat.le_refl _) (fun _ _ _ => rfl) rfl rfl rfl (fun b n hm => by simp at hm) (fun _ _ _ => rfl) (fun e he => by rw [hK] at he; cases he) (fun E => ⟨hp, by simp, fun h => absurd rfl h, fun i y hy => by simp at hy,
    fun b n r hr => by rw [upd_same] at hr; simp at hr, fun _ _ => undef, fun i y j v hy _ => by simp at hy, fun i j hi _ => by simp at hi, fun b n hm => by rw [upd_same] at hm; simp at hm⟩)
theorem noDead_over {d : List (Nat × Ent)} {h : Heap} (hd : noDead d = true) (nd : ∀ k, h k ≠ some .dead) : ∀ k, over d h k ≠ some .dead := fun k => by
  unfold over
  split
  · rename_i e he
    intro h4
    cases h4
    exact noDead_at hd he
  · exact nd k
section
variable {P : Program} {K0 : List Nat} {F : Fr K0} {m : Nat} {tm : List (Nat × AV)} {h : List (Nat × Ent)}
theorem RelS.virt {a : Act} {w : World} (H : RelS F m ⟨tm, h⟩ a w) (t K sz : Nat) (hv : look tm t = .s (.slice none 0 0)) (hK : (lookE h K).isNone = true) (hp : Nat.ble 1 sz = true) : RelS F m ⟨(t, .ref K 0 0) :: tm, (K, .arr sz [] true) :: h⟩ a w := by
  obtain ⟨⟨X, β, hX, HH, Ht, KK, hJ, hD⟩, nd, gs, hl⟩ := H
  have hk : lookE h K = none := by simpa using hK
  have G := goes_virt HH hk (Nat.le_of_ble_eq_true hp)
  have nd' : ∀ k, over [(K, .arr sz [] true)] (lookE h) k ≠ some .dead := noDead_over rfl nd
  have R : Rel F m (look ((t, .ref K 0 0) :: tm)) (over [(K, .arr sz [] true)] (lookE h)) a w := by
    refine ⟨⟨X, _, hX, G.hok, fun j => ?_, KK.goes G nd' (G.lives HH nd'), fun i hi => ?_, hD.goes HH G⟩, nd', gs, hl⟩
    · rw [look_cons]
      split
      · rename_i hj
        subst hj
        have := Ht j
        rw [hv] at this
        rw [this.s_inv]
        exact .ref0 K 0 sz [] true none (over_same _ _ _) (Nat.le_refl _)
      · exact (Ht j).evo G.evo
    · rw [look_cons] at hi
      split at hi
      · cases hi
      · exact F.go G (hJ i hi)
  unfold RelS
  dsimp only
  rw [show lookE ((K, .arr sz [] true) :: h) = over [(K, .arr sz [] true)] (lookE h) from lookE_append [(K, .arr sz [] true)] h]
  exact R
theorem RelS.virtB {a : Act} {w : World} (H : RelS F m ⟨tm, h⟩ a w) (k i K sz : Nat) {cs : List AV} (hk : lookE h k = some (.box cs)) (hv : cs[i]? = some (.s (.slice none 0 0))) (hK : (lookE h K).isNone = true) (hp : Nat.ble 1 sz = true) : RelS F m ⟨tm, (k, .box (cs.set i (.ref K 0 0))) :: (K, .arr sz [] true) :: h⟩ a w := by
  obtain ⟨⟨X, β, hX, HH, Ht, KK, hJ, hD⟩, nd, gs, hl⟩ := H
  have hkn : lookE h K = none := by simpa using hK
  have G := goes_virt HH hkn (Nat.le_of_ble_eq_true hp)
  have nd' : ∀ k, over [(K, .arr sz [] true)] (lookE h) k ≠ some .dead := noDead_over rfl nd
  have hne : k ≠ K := fun e => by rw [e, hkn] at hk; cases hk
  have hk2 : over [(K, .arr sz [] true)] (lookE h) k = some (.box cs) := by rw [← lookE_append, List.singleton_append, lookE_cons, if_neg hne]; exact hk
  have H2 := G.hok
  have hβ : upd β K [] k = β k := by unfold upd; rw [if_neg hne]
  have G2 : Goes X w _ (upd β K []) w (over [(k, .box (cs.set i (.ref K 0 0)))] (over [(K, .arr sz [] true)] (lookE h))) (upd (upd β K []) k (upd β K [] k)) :=
    Goes.step H2 k (.box (cs.set i (.ref K 0 0))) (upd β K [] k) (Nat.le_refl _) (fun _ _ _ => rfl) rfl rfl rfl (fun b n hm => .inl ⟨n, hm⟩) (fun _ _ _ => rfl) (fun e he => by rw [hk2] at he; cases he; exact .inr ⟨⟨_, rfl⟩, fun b n hm => hm⟩) (fun E => by
      obtain ⟨b, c, el, h1, h2, h3, h4, h5⟩ := H2.ent k _ hk2
      refine ⟨b, c, el, by rw [upd_same]; exact h1, h2, by simpa using h3, h4, fun j v hj => ?_⟩
      rw [List.getElem?_set] at hj
      split at hj
      · rename_i hij
        subst hij
        split at hj
        · injection hj with hj
          subst hj
          have h6 := h5 i _ hv
          rw [h6.s_inv]
          refine .ref0 K 0 sz [] true none ?_ (Nat.le_refl _)
          rw [show over [(k, Ent.box (cs.set i (.ref K 0 0)))] (over [(K, .arr sz [] true)] (lookE h)) K = _ from by rw [← lookE_append, ← lookE_append, List.singleton_append, List.singleton_append, lookE_cons, if_neg (fun e => hne e.symm), lookE_cons, if_pos rfl]]
        · cases hj
      · exact (h5 j v hj).evo E)
  have nd2 := noDead_over (d := [(k, .box (cs.set i (.ref K 0 0)))]) rfl nd'
  have R : Rel F m (look tm) (over [(k, .box (cs.set i (.ref K 0 0)))] (over [(K, .arr sz [] true)] (lookE h))) a w :=
    ⟨⟨X, _, hX, G2.hok, fun j => ((Ht j).evo G.evo).evo G2.evo, (KK.goes G nd' (G.lives HH nd')).goes G2 nd2 (G2.lives H2 nd2), fun i hi => F.go G2 (F.go G (hJ i hi)), (hD.goes HH G).goes H2 G2⟩, nd2, gs, hl⟩
  unfold RelS
  dsimp only
  rw [show lookE ((k, .box (cs.set i (.ref K 0 0))) :: (K, .arr sz [] true) :: h) = over [(k, .box (cs.set i (.ref K 0 0)))] (over [(K, .arr sz [] true)] (lookE h)) from (lookE_append [(k, .box (cs.set i (.ref K 0 0)))] _).trans (congrArg (over _) (lookE_append [(K, .arr sz [] true)] h))]
  exact R
/-- nil in a slot, seen as an empty array of one's own under the new key K. -/
theorem sim_virt {c : Code} {Q : Exit → St → Prop} (t K sz : Nat) (hv : look tm t = .s (.slice none 0 0)) (hK : (lookE h K).isNone = true) (hp : Nat.ble 1 sz = true) (hk : Sim P F m c ⟨(t, .ref K 0 0) :: tm, (K, .arr sz [] true) :: h⟩ Q) : Sim P F m c ⟨tm, h⟩ Q := ⟨fun a w H => hk.run a w (H.virt t K sz hv hK hp)⟩
/-- nil in a cell of a box. -/
theorem sim_virtB {c : Code} {Q : Exit → St → Prop} (k i K sz : Nat) {cs cs' : List AV} (hb : lookE h k = some (.box cs)) (hv : cs[i]? = some (.s (.slice none 0 0))) (hK : (lookE h K).isNone = true) (hp : Nat.ble 1 sz = true) (hc : cs.set i (.ref K 0 0) = cs') (hk : Sim P F m c ⟨tm, (k, .box cs') :: (K, .arr sz [] true) :: h⟩ Q) :
    Sim P F m c ⟨tm, h⟩ Q := ⟨fun a w H => hk.run a w (hc ▸ H.virtB k i K sz hb hv hK hp)⟩
end
section
variable {P : Program} {TT : List TI} (hP : TOK P TT) {tm : List (Nat × AV)} {h : List (Nat × Ent)}
include hP in
theorem stp_indexAddr_r0 {T e : Nat} {x ix : Operand} {ti te : TI} {key len sz : Nat} {xs : List AV} {sl : Fl} {k : IntKind} {i : Int} (hx : opv (look tm) x = .ref key 0 len) (hi : opv (look tm) ix = .s (.int k i)) (hk : lookE h key = some (.arr sz xs sl)) (hT : TT[T]? = some ti) (hd : ti.d = .slice e) (he : TT[e]? = some te)
    (h0 : 0 ≤ i) (hl : i < len) (hs : Nat.beq sz te.size = true) : Stp P ⟨tm, h⟩ (.indexAddr T x ix) (.ptr key i.toNat 0) [] [key] [] := by
  have := stp_indexAddr_ref (st := ⟨tm, h⟩) hP hx hi hk hT hd he h0 hl hs
  rwa [Nat.zero_add] at this
end
section
variable {P : Program} {K0 : List Nat} {F : Fr K0} {m : Nat} {ops : Array Oper} {rest : List Oper} {Q : List FP → St → Prop} {dr : Bool} {fs : List FP}
variable {ty t : Nat} {pos : String} {after : Array Edge} {st : St}
theorem is_app {s x : Operand} {T T' : Nat} (hk : OpsX P F m ops dr (⟨some t, .call ⟨.builtin .append, #[s, x], #[T, T']⟩, ty, pos, after, none⟩ :: rest) st fs Q) : OpsX P F m ops dr (⟨some t, .call ⟨.builtin .append, #[s, x], #[T, T']⟩, ty, pos, after, none⟩ :: rest) st fs Q := hk
theorem is_fn (n : Nat) {as : Array Operand} {ts : Array Nat} (hk : OpsX P F m ops dr (⟨some t, .call ⟨.value (.func n), as, ts⟩, ty, pos, after, none⟩ :: rest) st fs Q) : OpsX P F m ops dr (⟨some t, .call ⟨.value (.func n), as, ts⟩, ty, pos, after, none⟩ :: rest) st fs Q := hk
theorem is_fn0 (n : Nat) {as : Array Operand} {ts : Array Nat} (hk : OpsX P F m ops dr (⟨none, .call ⟨.value (.func n), as, ts⟩, ty, pos, after, none⟩ :: rest) st fs Q) : OpsX P F m ops dr (⟨none, .call ⟨.value (.func n), as, ts⟩, ty, pos, after, none⟩ :: rest) st fs Q := hk
theorem is_conv {S D : Nat} {x : Operand} (hk : OpsX P F m ops dr (⟨some t, .convert S D x, ty, pos, after, none⟩ :: rest) st fs Q) : OpsX P F m ops dr (⟨some t, .convert S D x, ty, pos, after, none⟩ :: rest) st fs Q := hk
theorem is_un {op : UnOp} {x : Operand} {T : Nat} (hk : OpsX P F m ops dr (⟨some t, .unOp op T x, ty, pos, after, none⟩ :: rest) st fs Q) : OpsX P F m ops dr (⟨some t, .unOp op T x, ty, pos, after, none⟩ :: rest) st fs Q := hk
end
theorem stp_conv_in {P : Program} {TT : List TI} {tm : List (Nat × AV)} {h : List (Nat × Ent)} {src dst : Nat} {x : Operand} {k k' : IntKind} {n : Int} {ts td : TI} (hP : TOK P TT) (hs : TT[src]? = some ts) (hd : TT[dst]? = some td) (hk : td.d = .int k') (hx : opv (look tm) x = .s (.int k n)) (hr : InR k' n) :
    Stp P ⟨tm, h⟩ (.convert src dst x) (.s (.int k' n)) [] [] [] := by
  have := stp_conv (st := ⟨tm, h⟩) hP hs hd hk hx
  rwa [wrap_in hr] at this
end Av
end Go.Proofs.Ytianonghhmiooaa
/- Abstract values: loops that are counted, loops over lists; what stays as it is in them is read off the state. -/
namespace Go.Proofs.Ytianonghhmiooaa
namespace Av
set_option linter.unusedSimpArgs false
set_option linter.unusedVariables false

def frcP (v : AV) (k : AV → Prop) : Prop := match v with
  | .s v => k (.s v)
  | .ptr j i o => k (.ptr j i o)
  | .agg cs => k (.agg cs)
  | .sl b xs => k (.sl b xs)
  | .ref j o n => k (.ref j o n)
  | .fp xs i o => k (.fp xs i o)
  | .fn f cs => k (.fn f cs)
  | .tup vs => k (.tup vs)
  | .bot => k .bot
  | .gh n => k (.gh n)
theorem frcP_eq (v : AV) (k : AV → Prop) : frcP v k = k v := by cases v <;> rfl
def frcLP : List AV → (List AV → Prop) → Prop
  | [], k => k []
  | x :: r, k => frcP x fun x => frcLP r fun r => k (x :: r)
theorem frcLP_eq : ∀ (l : List AV) (k : List AV → Prop), frcLP l k = k l
  | [], _ => rfl
  | x :: r, k => by rw [frcLP, frcP_eq, frcLP_eq r]
/-- The slots ts as they are when the keys K are kept. -/
def slotsC (K : List Nat) (h : Heap) (tm : List (Nat × AV)) : List Nat → (List (Nat × AV) → Prop) → Prop
  | [], k => k []
  | t :: ts, k => frcP (frzV K h (look tm t)) fun v => slotsC K h tm ts fun r => k ((t, v) :: r)
theorem slotsC_eq (K : List Nat) (h : Heap) (tm : List (Nat × AV)) : ∀ (ts : List Nat) (k : List (Nat × AV) → Prop), slotsC K h tm ts k = k (ts.map fun t => (t, frzV K h (look tm t)))
  | [], _ => rfl
  | t :: ts, k => by rw [slotsC, frcP_eq, slotsC_eq K h tm ts]; rfl
/-- The entries of the keys Ks as they are when the keys K are kept. -/
def heapC (K : List Nat) (h : Heap) : List Nat → (List (Nat × Ent) → Prop) → Prop
  | [], k => k []
  | j :: Ks, k => match h j with
    | none => heapC K h Ks k
    | some (.box cs) => frcLP (frzL K h cs) fun cs => heapC K h Ks fun r => k ((j, .box cs) :: r)
    | some (.arr sz xs st) => bif st.nest then frcLP (frzL K h xs) fun xs => (bif nokeys xs then heapC K h Ks fun r => k ((j, .arr sz xs ⟨st.stale, false⟩) :: r) else heapC K h Ks fun r => k ((j, .arr sz xs ⟨st.stale, true⟩) :: r)) else heapC K h Ks fun r => k ((j, .arr sz xs st) :: r)
    | some .dead => heapC K h Ks fun r => k ((j, .dead) :: r)
theorem heapC_eq (K : List Nat) (h : Heap) : ∀ (Ks : List Nat) (k : List (Nat × Ent) → Prop), heapC K h Ks k = k (Ks.filterMap fun j => (h j).map fun e => (j, frzE K h e))
  | [], _ => rfl
  | j :: Ks, k => by
    rw [heapC, List.filterMap_cons]
    cases h j with
    | none => exact heapC_eq K h Ks k
    | some e =>
      cases e with
      | box cs => dsimp only [Option.map_some]; rw [frcLP_eq, heapC_eq K h Ks]; rfl
      | arr sz xs st =>
        dsimp only [Option.map_some]
        cases hn : st.nest with
        | false =>
          have e : frzE K h (.arr sz xs st) = .arr sz xs st := by simp only [frzE, hn, cond_false]
          rw [e]; simp only [cond_false]; rw [heapC_eq K h Ks]
        | true =>
          have e : frzE K h (.arr sz xs st) = .arr sz (frzL K h xs) ⟨st.stale, !nokeys (frzL K h xs)⟩ := by simp only [frzE, hn, cond_true]
          rw [e]; simp only [cond_true]
          rw [frcLP_eq]
          cases hk : nokeys (frzL K h xs) with
          | true => simp only [cond_true, Bool.not_true]; rw [heapC_eq K h Ks]
          | false => simp only [cond_false, Bool.not_false]; rw [heapC_eq K h Ks]
      | dead => dsimp only [Option.map_some]; rw [heapC_eq K h Ks]; rfl

section
variable {P : Program} {K0 : List Nat} {F : Fr K0} {m : Nat} {Q : Exit → St → Prop} {st : St} {c : Code}
/-- The end of a round. -/
def rndQ (Q : Exit → St → Prop) (I : St → Prop) : Exit → St → Prop
  | .normal, s => I s
  | e, s => Q e s
/-- A loop with a counter: an invariant. -/
theorem sim_cntP (N : Nat) (K Ks ts ds : List Nat) (hK : K0.all (K.contains ·) = true) (I : Nat → List (Nat × AV) → List (Nat × Ent) → St → Prop)
    (h : slotsC K (lookE st.h) st.tm ts fun T => heapC K (lookE st.h) Ks fun U => I 0 T U (restr K ds st) ∧ (∀ i s, i < N → I i T U s → Sim P F m c s (rndQ Q fun s => I (i + 1) T U (restr K ds s))) ∧
      ∀ s, I N T U s → Sim P F m c s (rndQ Q fun _ => False)) : Sim P F m (.loop c) st Q := by
  rw [slotsC_eq, heapC_eq] at h
  generalize (ts.map _) = T at h
  generalize (Ks.filterMap _) = U at h
  obtain ⟨h0, h1, h2⟩ := h
  refine sim_loop_r (fun n s => ∃ i, n + i = N ∧ I i T U s) N K ds hK ⟨0, rfl, h0⟩ fun n s ⟨i, hi, hs⟩ => ?_
  by_cases hlt : i < N
  · refine (h1 i s hlt hs).mono fun e s' hq => ?_
    cases e with
    | normal => exact ⟨n - 1, by omega, i + 1, by omega, hq⟩
    | _ => exact hq
  · obtain rfl : i = N := by omega
    refine (h2 s hs).mono fun e s' hq => ?_
    cases e with
    | normal => exact hq.elim
    | _ => exact hq
/-- A loop with a counter. -/
theorem sim_cnt (N : Nat) (K Ks ts ds : List Nat) (hK : K0.all (K.contains ·) = true) (S : Nat → List (Nat × AV) → List (Nat × Ent) → St)
    (h : slotsC K (lookE st.h) st.tm ts fun T => heapC K (lookE st.h) Ks fun U => restr K ds st = S 0 T U ∧ (∀ i, i < N → Sim P F m c (S i T U) (rndQ Q fun s => restr K ds s = S (i + 1) T U)) ∧
      Sim P F m c (S N T U) (rndQ Q fun _ => False)) : Sim P F m (.loop c) st Q := by
  refine sim_cntP N K Ks ts ds hK (fun i T U s => s = S i T U) ?_
  rw [slotsC_eq, heapC_eq] at h ⊢
  obtain ⟨h0, h1, h2⟩ := h
  exact ⟨h0, fun i s hi hs => hs ▸ h1 i hi, fun s hs => hs ▸ h2⟩
/-- A loop with a measure. -/
theorem sim_whl (N : Nat) (K Ks ts ds : List Nat) (hK : K0.all (K.contains ·) = true) (I : Nat → List (Nat × AV) → List (Nat × Ent) → St → Prop)
    (h : slotsC K (lookE st.h) st.tm ts fun T => heapC K (lookE st.h) Ks fun U => I N T U (restr K ds st) ∧ ∀ n s, I n T U s → Sim P F m c s (rndQ Q fun s => ∃ n', n' < n ∧ I n' T U (restr K ds s))) : Sim P F m (.loop c) st Q := by
  rw [slotsC_eq, heapC_eq] at h
  generalize (ts.map _) = T at h
  generalize (Ks.filterMap _) = U at h
  obtain ⟨h0, h1⟩ := h
  refine sim_loop_r (fun n s => I n T U s) N K ds hK h0 fun n s hs => (h1 n s hs).mono fun e s' hq => ?_
  cases e with
  | normal => exact hq
  | _ => exact hq
/-- A loop over a list. -/
theorem sim_rng {α : Type} (l : List α) (K Ks ts ds : List Nat) (hK : K0.all (K.contains ·) = true) (S : Nat → List α → List (Nat × AV) → List (Nat × Ent) → St)
    (h : slotsC K (lookE st.h) st.tm ts fun T => heapC K (lookE st.h) Ks fun U => restr K ds st = S 0 [] T U ∧
      (∀ i pre x post, l = pre ++ x :: post → pre.length = i → Sim P F m c (S i pre T U) (rndQ Q fun s => restr K ds s = S (i + 1) (pre ++ [x]) T U)) ∧
      Sim P F m c (S l.length l T U) (rndQ Q fun _ => False)) : Sim P F m (.loop c) st Q := by
  refine sim_cnt l.length K Ks ts ds hK (fun i T U => S i (l.take i) T U) ?_
  rw [slotsC_eq, heapC_eq] at h ⊢
  obtain ⟨h0, h1, h2⟩ := h
  refine ⟨by simpa using h0, fun i hi => ?_, by simpa using h2⟩
  have := h1 i (l.take i) l[i] (l.drop (i + 1)) (by rw [← List.drop_eq_getElem_cons hi, List.take_append_drop]) (by simp; omega)
  rw [List.take_append_getElem hi] at this
  exact this
/-- A loop over a list: an invariant. -/
theorem sim_rngP {α : Type} (l : List α) (K Ks ts ds : List Nat) (hK : K0.all (K.contains ·) = true) (I : Nat → List α → List (Nat × AV) → List (Nat × Ent) → St → Prop)
    (h : slotsC K (lookE st.h) st.tm ts fun T => heapC K (lookE st.h) Ks fun U => I 0 [] T U (restr K ds st) ∧
      (∀ i pre x post s, l = pre ++ x :: post → pre.length = i → I i pre T U s → Sim P F m c s (rndQ Q fun s => I (i + 1) (pre ++ [x]) T U (restr K ds s))) ∧
      ∀ s, I l.length l T U s → Sim P F m c s (rndQ Q fun _ => False)) : Sim P F m (.loop c) st Q := by
  refine sim_cntP l.length K Ks ts ds hK (fun i T U s => I i (l.take i) T U s) ?_
  rw [slotsC_eq, heapC_eq] at h ⊢
  obtain ⟨h0, h1, h2⟩ := h
  refine ⟨by simpa using h0, fun i s hi hs => ?_, fun s hs => h2 s (by simpa using hs)⟩
  have := h1 i (l.take i) l[i] (l.drop (i + 1)) s (by rw [← List.drop_eq_getElem_cons hi, List.take_append_drop]) (by simp; omega) hs
  rw [List.take_append_getElem hi] at this
  exact this
end
section
variable {α : Type} {l pre post : List α} {x : α} {i : Nat}
theorem rng_lt (h : l = pre ++ x :: post) (hi : pre.length = i) : i < l.length := by subst h; simp; omega
theorem rng_at {β : Type} (f : α → β) (h : l = pre ++ x :: post) (hi : pre.length = i) : (l.map f)[i]? = some (f x) := by subst h; subst hi; simp
theorem rng_mem (h : l = pre ++ x :: post) : x ∈ l := by subst h; simp
theorem map_len {β : Type} (f : α → β) (l : List α) : (l.map f).length = l.length := by simp
theorem map_hd {n : Nat} (f : α → AV) (l : List α) (h : ∀ x, (f x).cells.length = n) : ∀ y, (l.map f)[0]? = some y → y.cells.length = n := fun y hy => by
  rw [List.getElem?_map, Option.map_eq_some_iff] at hy
  obtain ⟨x, _, rfl⟩ := hy
  exact h x
theorem idx_at {β : Type} (f : α → β) (l : List α) (i : Nat) (hi : i < l.length) : (l.map f)[i]? = some (f l[i]) := by simp [hi]
end
end Av
end Go.Proofs.Ytianonghhmiooaa
/- Abstract values: literals that no one changes, appends to what is empty, elements stored, nil or not. -/
namespace Go.Proofs.Ytianonghhmiooaa
namespace Av
set_option linter.unusedSimpArgs false
set_option linter.unusedVariables false

/-- The elements of a literal. -/
def litF (TT : List TI) (tm : List (Nat × AV)) : Op → Option (List AV)
  | .buildSlice T len ps => match TT[T]? with
    | some ti => match ti.d with
      | .slice e => match TT[e]? with
        | some te => bif rangeIs 0 (ps.toList.map (·.1)) && (Nat.beq ps.toList.length len && (Nat.ble 1 te.size && (Nat.ble (len * te.size) 65536 && Nat.beq te.zero.length te.size))) then
            frcL (ps.toList.map fun p => opv (look tm) p.2) fun xs => bif xs.all (fun x => Nat.beq x.cells.length te.size && (x.ok && x.nokey)) then some xs else none else none
        | none => none
      | _ => none
    | none => none
  | _ => none
section
variable {P : Program} {TT : List TI} (hP : TOK P TT) {tm : List (Nat × AV)} {h : List (Nat × Ent)}
include hP in
theorem litF_sound {op : Op} {xs : List AV} (he : litF TT tm op = some xs) : Stp P ⟨tm, h⟩ op (.sl true xs) [] [] [] := by
  unfold litF at he
  split at he
  · rename_i T len ps
    split at he
    · rename_i ti hT
      split at he
      · rename_i e hd
        split at he
        · rename_i te hte
          rw [frcL_eq] at he
          cases hc : (rangeIs 0 (ps.toList.map (·.1)) && (Nat.beq ps.toList.length len && (Nat.ble 1 te.size && (Nat.ble (len * te.size) 65536 && Nat.beq te.zero.length te.size)))) with
          | false => rw [hc] at he; cases he
          | true =>
            rw [hc] at he
            simp only [cond_true] at he
            generalize hxs : (ps.toList.map fun p => opv (look tm) p.2) = ys at he
            cases hw : ys.all (fun x => Nat.beq x.cells.length te.size && (x.ok && x.nokey)) with
            | false => simp [hw] at he
            | true =>
              simp only [hw, cond_true, Option.some.injEq] at he
              subst he
              simp only [Bool.and_eq_true] at hc
              obtain ⟨c1, c2, c3, c4, c5⟩ := hc
              refine stp_buildSliceF hP hT hd hte c3 ?_ (by rw [← hxs]; simpa using c2) hw c4 c5
              rw [← hxs]
              apply List.ext_getElem?
              intro j
              simp only [prts, List.getElem?_map, List.getElem?_zipIdx, Nat.zero_add]
              cases hj : ps.toList[j]? with
              | none => simp
              | some p =>
                have := rangeIs_eq _ 0 c1 j p.1 (by simp [hj])
                simp [this]
        · cases he
      · cases he
    · cases he
  · cases he
end
/-- A frozen slice may be nil. -/
theorem Stp.wkS {P : Program} {st : St} {op : Op} {xs : List AV} {d : List (Nat × Ent)} {r nw : List Nat} (hs : Stp P st op (.sl true xs) d r nw) : Stp P st op (.sl false xs) d r nw :=
  ⟨fun X tm h h1 h2 h3 o a w β ho HH Ht => by
    have := hs.run X tm h h1 h2 h3 o a w β ho HH Ht
    unfold OpDone at this ⊢
    split at this
    · obtain ⟨β', G, hv⟩ := this; exact ⟨β', G, hv.wk⟩
    · obtain ⟨β', G, hv⟩ := this; exact ⟨β', G, hv.wk⟩
    · exact this.mono fun e w' ⟨c, he, β', G, hv⟩ => ⟨c, he, β', G, hv.wk⟩
    · exact this.elim⟩
/-- An element with some of its cells set, laid open. -/
def putF (y : AV) (off : Nat) (cs : List AV) : Option AV := match y with
  | .agg ds => frcL (setL ds off cs) fun l => some (.agg l)
  | _ => match cs with
    | [v] => frc v some
    | _ => none
theorem putF_eq {y : AV} {off : Nat} {cs : List AV} {v : AV} (h : putF y off cs = some v) : putc y off cs = v := by
  unfold putF at h
  unfold putc
  cases y <;> first
    | (dsimp only at h ⊢; rw [frcL_eq] at h; exact Option.some.inj h)
    | (dsimp only at h ⊢
       split at h
       · rw [frc_eq] at h; exact Option.some.inj h
       · cases h)
section
variable {P : Program} {TT : List TI} {K0 : List Nat} {F : Fr K0} {m : Nat} {ops : Array Oper} {rest : List Oper} {Q : List FP → St → Prop} {tm : List (Nat × AV)} {h : List (Nat × Ent)} {dr : Bool} {fs : List FP}
variable {ty : Nat} {pos : String} {after : Array Edge} {t : Nat}
theorem is_bsl {T len : Nat} {ps : Array (Nat × Operand)} {st : St} (hk : OpsX P F m ops dr (⟨some t, .buildSlice T len ps, ty, pos, after, none⟩ :: rest) st fs Q) : OpsX P F m ops dr (⟨some t, .buildSlice T len ps, ty, pos, after, none⟩ :: rest) st fs Q := hk
theorem is_mks {T : Nat} {x y : Operand} {st : St} (hk : OpsX P F m ops dr (⟨some t, .makeSlice T x y, ty, pos, after, none⟩ :: rest) st fs Q) : OpsX P F m ops dr (⟨some t, .makeSlice T x y, ty, pos, after, none⟩ :: rest) st fs Q := hk
theorem is_nck {x : Operand} {st : St} (hk : OpsX P F m ops dr (⟨some t, .nilCheck x, ty, pos, after, none⟩ :: rest) st fs Q) : OpsX P F m ops dr (⟨some t, .nilCheck x, ty, pos, after, none⟩ :: rest) st fs Q := hk
theorem is_cv {x : Nat} {as : Array Operand} {ts : Array Nat} {st : St} (hk : OpsX P F m ops dr (⟨some t, .call ⟨.value (.tmp x), as, ts⟩, ty, pos, after, none⟩ :: rest) st fs Q) : OpsX P F m ops dr (⟨some t, .call ⟨.value (.tmp x), as, ts⟩, ty, pos, after, none⟩ :: rest) st fs Q := hk
theorem x_lit (hP : TOK P TT) {op : Op} {xs : List AV} (he : litF TT tm op = some xs) (hm : Nat.blt t m = true) (hk : OpsX P F m ops dr rest ⟨(t, .sl false xs) :: tm, h⟩ (⟨true, [], []⟩ :: fs) Q) :
    OpsX P F m ops dr (⟨some t, op, ty, pos, after, none⟩ :: rest) ⟨tm, h⟩ fs Q := x_q (litF_sound hP he).wkS hm hk
theorem x_appnilF (hP : TOK P TT) {T e : Nat} {s x : Operand} {ti te : TI} {xv : AV} {ys : List AV} (hs : opv (look tm) s = .s (.slice none 0 0)) (hx : opv (look tm) x = xv) (hT : TT[T]? = some ti) (hd : ti.d = .slice e) (he : TT[e]? = some te)
    (hys : els (lookE h) xv = some ys) (hsz : ∀ y, ys[0]? = some y → y.cells.length = te.size) (hp : Nat.ble 1 te.size = true) (hb : Nat.ble te.bytes 65536 = true) (hz : Nat.beq te.zero.length te.size = true) (hn : ys.length ≤ 1073741824) (hm : Nat.blt t m = true)
    (hk : OpsX P F m ops dr rest ⟨(t, .sl false ys) :: tm, h⟩ (⟨true, [], elk xv⟩ :: fs) Q) : OpsX P F m ops dr (⟨some t, .call ⟨.builtin .append, #[s, x], #[T, T]⟩, ty, pos, after, none⟩ :: rest) ⟨tm, h⟩ fs Q :=
  x_q (stp_append_nilF hP hs hx hT hd he hys hsz hp hb hz hn) hm hk
/-- append to nil: an array of one's own under the key kn. -/
theorem x_appnilK (kn : Nat) (hP : TOK P TT) {T e : Nat} {s x : Operand} {ti te : TI} {xv : AV} {ys : List AV} (hs : opv (look tm) s = .s (.slice none 0 0)) (hx : opv (look tm) x = xv) (hT : TT[T]? = some ti) (hd : ti.d = .slice e) (he : TT[e]? = some te)
    (hys : els (lookE h) xv = some ys) (hsz : ∀ y, ys[0]? = some y → y.cells.length = te.size) (hp : Nat.ble 1 te.size = true) (hb : Nat.ble te.bytes 65536 = true) (hz : Nat.beq te.zero.length te.size = true) (hn : ys.length ≤ 1073741824) (hm : Nat.blt t m = true) (hnn : (lookE h kn).isNone = true)
    {sz : Nat} (hse : te.size = sz) (hk : OpsX P F m ops dr rest ⟨(t, .ref kn 0 ys.length) :: tm, (kn, .arr sz ys false) :: h⟩ (⟨true, [kn, kn], elk xv⟩ :: fs) Q) : OpsX P F m ops dr (⟨some t, .call ⟨.builtin .append, #[s, x], #[T, T]⟩, ty, pos, after, none⟩ :: rest) ⟨tm, h⟩ fs Q := by
  subst hse; exact x_w (nw := [kn]) (stp_append_nil hP kn hs hx hT hd he hys hsz hp hb hz hn) hm (all1 hnn) rfl hk
/-- append to an array of one's own in which nothing is yet. -/
theorem x_appref0 (hP : TOK P TT) {T e : Nat} {s x : Operand} {ti te : TI} {k sz : Nat} {sb : Bool} {xv : AV} {ys : List AV} (hs : opv (look tm) s = .ref k 0 0) (hk : lookE h k = some (.arr sz [] ⟨sb, false⟩)) (hx : opv (look tm) x = xv) (hT : TT[T]? = some ti) (hd : ti.d = .slice e) (he : TT[e]? = some te)
    (hys : els (lookE h) xv = some ys) (hsz : ∀ y, ys[0]? = some y → y.cells.length = sz) (hss : Nat.beq sz te.size = true) (hb : Nat.ble te.bytes 65536 = true) (hz : Nat.beq te.zero.length te.size = true) (hn : ys.length ≤ 1073741824) (hm : Nat.blt t m = true)
    (hq : OpsX P F m ops dr rest ⟨(t, .ref k 0 ys.length) :: tm, (k, .arr sz ys false) :: h⟩ (⟨true, [k], k :: elk xv⟩ :: fs) Q) : OpsX P F m ops dr (⟨some t, .call ⟨.builtin .append, #[s, x], #[T, T]⟩, ty, pos, after, none⟩ :: rest) ⟨tm, h⟩ fs Q :=
  x_w (nw := []) (stp_append_refS (xs := []) false false hP hs hk hx hT hd he (fun _ => rfl) hys hsz hss hb hz (by simpa using hn) (fun _ => rfl)) hm rfl rfl hq
theorem x_appref0N (hP : TOK P TT) {T e : Nat} {s x : Operand} {ti te : TI} {k sz : Nat} {sl : Fl} {xv : AV} {ys : List AV} (hs : opv (look tm) s = .ref k 0 0) (hk : lookE h k = some (.arr sz [] sl)) (hx : opv (look tm) x = xv) (hT : TT[T]? = some ti) (hd : ti.d = .slice e) (he : TT[e]? = some te)
    (hys : elsG true (lookE h) xv = some ys) (hsz : ∀ y, ys[0]? = some y → y.cells.length = sz) (hss : Nat.beq sz te.size = true) (hb : Nat.ble te.bytes 65536 = true) (hz : Nat.beq te.zero.length te.size = true) (hn : ys.length ≤ 1073741824) (hm : Nat.blt t m = true)
    (hq : OpsX P F m ops dr rest ⟨(t, .ref k 0 ys.length) :: tm, (k, .arr sz ys ⟨false, true⟩) :: h⟩ (⟨true, [k], k :: elk xv⟩ :: fs) Q) : OpsX P F m ops dr (⟨some t, .call ⟨.builtin .append, #[s, x], #[T, T]⟩, ty, pos, after, none⟩ :: rest) ⟨tm, h⟩ fs Q :=
  x_w (nw := []) (stp_append_refS (xs := []) false true hP hs hk hx hT hd he (fun h => by cases h) hys hsz hss hb hz (by simpa using hn) (fun _ => rfl)) hm rfl rfl hq
/-- A part of an element of an array of one's own is stored. -/
theorem x_sto1 (hP : TOK P TT) {T : Nat} {p x : Operand} {k i off sz : Nat} {xs : List AV} {y v y' : AV} {ti : TI} {nest : Bool} (hp : opv (look tm) p = .ptr k i off) (hx : opv (look tm) x = v) (hk : lookE h k = some (.arr sz xs ⟨false, nest⟩)) (hy : xs[i]? = some y) (hT : TT[T]? = some ti)
    (h1 : v.ok = true) (h2 : Nat.beq v.cells.length ti.size = true) (h3 : Nat.ble (off + ti.size) y.cells.length = true) (h4 : (nest || v.nokey) = true) (h5 : Nat.ble 1 ti.size = true) (h6 : v.cells.all (fun v => !v.isAgg) = true) (he : putF y off v.cells = some y')
    (hq : OpsX P F m ops dr rest ⟨tm, (k, .arr sz (xs.set i y') ⟨false, nest⟩) :: h⟩ (⟨true, [k], [k]⟩ :: fs) Q) : OpsX P F m ops dr (⟨none, .store T p x, ty, pos, after, none⟩ :: rest) ⟨tm, h⟩ fs Q := by
  have hs := stp_store_arr (st := ⟨tm, h⟩) hP hp hx hk hy hT h1 h2 h3 h4 h5 h6
  rw [putF_eq he] at hs
  exact x_s (nw := []) hs rfl rfl hq
/-- A whole element is stored. -/
theorem x_stoa (hP : TOK P TT) {T : Nat} {p x : Operand} {k i sz : Nat} {xs ds cs : List AV} {ti : TI} {nest : Bool} (hp : opv (look tm) p = .ptr k i 0) (hx : opv (look tm) x = .agg cs) (hk : lookE h k = some (.arr sz xs ⟨false, nest⟩)) (hy : xs[i]? = some (.agg ds)) (hT : TT[T]? = some ti)
    (h2 : Nat.beq cs.length ti.size = true) (h3 : Nat.beq ti.size ds.length = true) (h4 : (nest || (AV.agg cs).nokey) = true) (h5 : Nat.ble 1 ti.size = true) (h6 : cs.all (fun v => !v.isAgg) = true)
    (hq : OpsX P F m ops dr rest ⟨tm, (k, .arr sz (xs.set i (.agg cs)) ⟨false, nest⟩) :: h⟩ (⟨true, [k], [k]⟩ :: fs) Q) : OpsX P F m ops dr (⟨none, .store T p x, ty, pos, after, none⟩ :: rest) ⟨tm, h⟩ fs Q := by
  have e2 := Nat.eq_of_beq_eq_true h2
  have e3 := Nat.eq_of_beq_eq_true h3
  have hs := stp_store_arr (st := ⟨tm, h⟩) hP hp hx hk hy hT rfl (by simpa [AV.cells] using h2) (Nat.ble_eq_true_of_le (by simp [AV.cells]; omega)) h4 h5 h6
  have : putc (.agg ds) 0 (AV.agg cs).cells = .agg cs := by
    unfold putc AV.cells
    dsimp only
    congr 1
    apply List.ext_getElem?
    intro j
    rw [setL_at _ _ _ _ (by omega)]
    split
    · rfl
    · rw [List.getElem?_eq_none (by omega), List.getElem?_eq_none (by omega)]
  rw [this] at hs
  exact x_s (nw := []) hs rfl rfl hq
theorem RelS.nsplit {a : Act} {w : World} (H : RelS F m ⟨tm, h⟩ a w) {t : Nat} {xs : List AV} (hv : look tm t = .sl false xs) : (∃ cap, xs = [] ∧ RelS F m ⟨(t, .s (.slice none 0 cap)) :: tm, h⟩ a w) ∨ RelS F m ⟨(t, .sl true xs) :: tm, h⟩ a w := by
  obtain ⟨⟨X, β, hX, HH, Ht, KK, hJ, hD⟩, nd, gs, hl⟩ := H
  have key : ∀ v, (∀ i, v ≠ .gh i) → RepV w (Dom X β) (lookE h) β v (a.eval (.tmp t)) → RelS F m ⟨(t, v) :: tm, h⟩ a w := fun v hg hv => by
    refine ⟨⟨X, β, hX, HH, fun j => ?_, KK, fun i hi => ?_, hD⟩, nd, gs, hl⟩
    · rw [look_cons]
      split
      · rename_i hj; subst hj; exact hv
      · exact Ht j
    · rw [look_cons] at hi
      split at hi
      · exact absurd hi (hg i)
      · exact hJ i hi
  have h0 := Ht t
  dsimp only at h0
  rw [hv] at h0
  generalize hc : a.eval (.tmp t) = c at *
  cases h0 with
  | fz _ _ hf =>
    cases hf with
    | nil b cap =>
      cases b with
      | none => exact .inl ⟨cap, rfl, key _ (fun _ h => by cases h) (.fz _ _ (.s _))⟩
      | some b => exact .inr (key _ (fun _ h => by cases h) (.fz _ _ (.nil1 b cap)))
    | sl _ _ b o sz cap f hx hL hcc hh => exact .inr (key _ (fun _ h => by cases h) (.fz _ _ (.sl true _ b o sz cap f hx hL hcc hh)))
theorem sim_nsplit {c : Code} {Q : Exit → St → Prop} (t : Nat) {xs : List AV} (hv : look tm t = .sl false xs) (h1 : ∀ cap, xs = [] → Sim P F m c ⟨(t, .s (.slice none 0 cap)) :: tm, h⟩ Q) (h2 : Sim P F m c ⟨(t, .sl true xs) :: tm, h⟩ Q) : Sim P F m c ⟨tm, h⟩ Q :=
  ⟨fun a w H => by
    rcases H.nsplit hv with ⟨cap, hx, H1⟩ | H2
    · exact (h1 cap hx).run a w H1
    · exact h2.run a w H2⟩
theorem x_nsplit {l : List Oper} (t : Nat) {xs : List AV} (hv : look tm t = .sl false xs) (h1 : ∀ cap, xs = [] → OpsX P F m ops false l ⟨(t, .s (.slice none 0 cap)) :: tm, h⟩ fs Q) (h2 : OpsX P F m ops false l ⟨(t, .sl true xs) :: tm, h⟩ fs Q) : OpsX P F m ops false l ⟨tm, h⟩ fs Q :=
  ⟨fun a w H => by
    rcases H.nsplit hv with ⟨cap, hx, H1⟩ | H2
    · exact (h1 cap hx).run a w H1
    · exact h2.run a w H2⟩
end
section
variable {P : Program} {K0 : List Nat} {F : Fr K0} {m : Nat} {tm : List (Nat × AV)} {h : List (Nat × Ent)}
theorem goes_virtF {X : Nat → Prop} {h : Heap} {β : Map} {w : World} (H : HOK X h β w) {K : Nat} (hK : h K = none) {sz : Nat} (hp : 1 ≤ sz) : Goes X w h β w (over [(K, .arr sz [] false)] h) (upd β K []) :=
  Goes.step H K _ _ (Nat.le_refl _) (fun _ _ _ => rfl) rfl rfl rfl (fun b n hm => by simp at hm) (fun _ _ _ => rfl) (fun e he => by rw [hK] at he; cases he) (fun E => ⟨hp, by simp, fun h => absurd rfl h, fun i y hy => by simp at hy,
    fun b n r hr => by rw [upd_same] at hr; simp at hr, fun _ _ => undef, fun i y j v hy _ => by simp at hy, fun i j hi _ => by simp at hi, fun b n hm => by rw [upd_same] at hm; simp at hm⟩)
theorem RelS.virtF {a : Act} {w : World} (H : RelS F m ⟨tm, h⟩ a w) (t K sz : Nat) {cap : Nat} (hv : look tm t = .s (.slice none 0 0)) (hK : (lookE h K).isNone = true) (hp : Nat.ble 1 sz = true) : RelS F m ⟨(t, .ref K 0 0) :: tm, (K, .arr sz [] false) :: h⟩ a w := by
  obtain ⟨⟨X, β, hX, HH, Ht, KK, hJ, hD⟩, nd, gs, hl⟩ := H
  have hk : lookE h K = none := by simpa using hK
  have G := goes_virtF HH hk (Nat.le_of_ble_eq_true hp)
  have nd' : ∀ k, over [(K, .arr sz [] false)] (lookE h) k ≠ some .dead := noDead_over rfl nd
  have R : Rel F m (look ((t, .ref K 0 0) :: tm)) (over [(K, .arr sz [] false)] (lookE h)) a w := by
    refine ⟨⟨X, _, hX, G.hok, fun j => ?_, KK.goes G nd' (G.lives HH nd'), fun i hi => ?_, hD.goes HH G⟩, nd', gs, hl⟩
    · rw [look_cons]
      split
      · rename_i hj
        subst hj
        have := Ht j
        rw [hv] at this
        rw [this.s_inv]
        exact .ref0 K 0 sz [] false none (over_same _ _ _) (Nat.le_refl _)
      · exact (Ht j).evo G.evo
    · rw [look_cons] at hi
      split at hi
      · cases hi
      · exact F.go G (hJ i hi)
  unfold RelS
  dsimp only
  rw [show lookE ((K, .arr sz [] false) :: h) = over [(K, .arr sz [] false)] (lookE h) from lookE_append [(K, .arr sz [] false)] h]
  exact R
/-- nil in a slot, seen as an empty array of one's own under the new key K, in which elements can be stored. -/
theorem sim_virtF {c : Code} {Q : Exit → St → Prop} (t K sz : Nat) (hv : look tm t = .s (.slice none 0 0)) (hK : (lookE h K).isNone = true) (hp : Nat.ble 1 sz = true) (hk : Sim P F m c ⟨(t, .ref K 0 0) :: tm, (K, .arr sz [] false) :: h⟩ Q) : Sim P F m c ⟨tm, h⟩ Q :=
  ⟨fun a w H => hk.run a w (H.virtF (cap := 0) t K sz hv hK hp)⟩
end
end Av
end Go.Proofs.Ytianonghhmiooaa
