/- Abstract values: one set of rules for both kinds of regions. -/
import Derived.Test.YtjbldhhgooihfaaAvl
namespace Go.Proofs.Ytjbldhhgooihfaa
namespace Av
set_option linter.unusedSimpArgs false
set_option linter.unusedVariables false

/-- The table, out of one closed equation. -/
theorem tok_of_map {P : Program} {TT : List TI} (h : (List.range TT.length).map (fun t => tiOf P t) = TT.map some) : TOK P TT := fun t ti ht => by
  have hl := (List.getElem?_eq_some_iff.1 ht).1
  have := congrArg (·[t]?) h
  simp only [List.getElem?_map, ht, Option.map_some, List.getElem?_range hl] at this
  simpa using this

/-- Operations of a region, in the order of the text (false) or in any order that its edges allow (true). -/
def OpsX0 (P : Program) {K0 : List Nat} (F : Fr K0) (m : Nat) (ops : Array Oper) : Bool → List Oper → St → List FP → (List FP → St → Prop) → Prop
  | false, l, st, _, Q => Ops P F m ops l st (Q [])
  | true, l, st, fs, Q => ∃ es st', Tr P m ops l st es st' ∧ Q ((es.map Evt.fp).reverse ++ fs) st'
structure OpsX (P : Program) {K0 : List Nat} (F : Fr K0) (m : Nat) (ops : Array Oper) (dr : Bool) (l : List Oper) (st : St) (fs : List FP) (Q : List FP → St → Prop) : Prop where
  run : OpsX0 P F m ops dr l st fs Q
section
variable {P : Program} {K0 : List Nat} {F : Fr K0} {m : Nat} {ops : Array Oper} {rest : List Oper} {Q : List FP → St → Prop} {tm : List (Nat × AV)} {h : List (Nat × Ent)} {dr : Bool} {fs : List FP}
theorem x_nil {st : St} {Q' : St → Prop} (hq : Q' st) : OpsX P F m ops false [] st fs (fun _ s => Q' s) := ⟨ops_nil hq⟩
theorem x_nilD {l : List Oper} {st : St} {Q' : St → Prop} (hc : regOK l (clos l) fs.reverse = true) (hq : Q' st) : OpsX P F m ops true [] st fs (fun fs s => regOK l (clos l) fs.reverse = true ∧ Q' s) := ⟨⟨[], st, rfl, hc, hq⟩⟩
theorem x_cons {o : Oper} {st st' : St} {e : Evt} (hon : e.on = true) (hg : o.guard = none) (hs : Stp P st o.op e.v e.d e.r e.nw) (hn : ∀ k, k ∈ e.nw → lookE st.h k = none) (hd : noDead e.d = true) (hm : ∀ t, o.dst = some t → t < m)
    (he : st' = st.app o.dst e.v e.d) (hk : OpsX P F m ops dr rest st' (e.fp :: fs) Q) : OpsX P F m ops dr (o :: rest) st fs Q := by
  subst he
  cases dr with
  | false => exact ⟨ops_step hg hs hn hd hm (fun t => look_app _ _ _ _ _) (funext fun k => lookE_app _ _ _ _ _) hk.run⟩
  | true =>
    obtain ⟨es, st2, h1, h2⟩ := hk.run
    refine ⟨⟨e :: es, st2, ⟨⟨hd, hm, hn, (fun _ => hs), (fun h => by rw [hon] at h; cases h), by rw [hg]; exact hon⟩, h1⟩, ?_⟩⟩
    simpa using h2
section
variable {op : Op} {ty : Nat} {pos : String} {after : Array Edge} {t : Nat} {v : AV} {r nw : List Nat}
theorem x_q (hs : Stp P ⟨tm, h⟩ op v [] r []) (hm : Nat.blt t m = true) (hk : OpsX P F m ops dr rest ⟨(t, v) :: tm, h⟩ (⟨true, [], r⟩ :: fs) Q) : OpsX P F m ops dr (⟨some t, op, ty, pos, after, none⟩ :: rest) ⟨tm, h⟩ fs Q :=
  x_cons (e := ⟨true, v, [], r, []⟩) rfl rfl hs (by simp) rfl (fun j hj => by cases hj; exact Nat.le_of_ble_eq_true hm) rfl hk
theorem x_w {k : Nat} {e : Ent} (hs : Stp P ⟨tm, h⟩ op v [(k, e)] r nw) (hm : Nat.blt t m = true) (hn : nw.all (fun j => (lookE h j).isNone) = true) (hd : noDead [(k, e)] = true) (hk : OpsX P F m ops dr rest ⟨(t, v) :: tm, (k, e) :: h⟩ (⟨true, k :: nw, r⟩ :: fs) Q) :
    OpsX P F m ops dr (⟨some t, op, ty, pos, after, none⟩ :: rest) ⟨tm, h⟩ fs Q :=
  x_cons (e := ⟨true, v, [(k, e)], r, nw⟩) rfl rfl hs (fun j hj => by have := List.all_eq_true.1 hn j hj; simpa using this) hd (fun j hj => by cases hj; exact Nat.le_of_ble_eq_true hm) rfl hk
theorem x_s {k : Nat} {e : Ent} (hs : Stp P ⟨tm, h⟩ op v [(k, e)] r nw) (hn : nw.all (fun j => (lookE h j).isNone) = true) (hd : noDead [(k, e)] = true) (hk : OpsX P F m ops dr rest ⟨tm, (k, e) :: h⟩ (⟨true, k :: nw, r⟩ :: fs) Q) : OpsX P F m ops dr (⟨none, op, ty, pos, after, none⟩ :: rest) ⟨tm, h⟩ fs Q :=
  x_cons (e := ⟨true, v, [(k, e)], r, nw⟩) rfl rfl hs (fun j hj => by have := List.all_eq_true.1 hn j hj; simpa using this) hd (fun j hj => by cases hj) rfl hk
theorem x_d {d : List (Nat × Ent)} (hs : Stp P ⟨tm, h⟩ op v d r nw) (hm : Nat.blt t m = true) (hn : nw.all (fun j => (lookE h j).isNone) = true) (hd : noDead d = true) (hk : OpsX P F m ops dr rest ⟨(t, v) :: tm, d ++ h⟩ (⟨true, keys d ++ nw, r⟩ :: fs) Q) :
    OpsX P F m ops dr (⟨some t, op, ty, pos, after, none⟩ :: rest) ⟨tm, h⟩ fs Q :=
  x_cons (e := ⟨true, v, d, r, nw⟩) rfl rfl hs (fun j hj => by have := List.all_eq_true.1 hn j hj; simpa using this) hd (fun j hj => by cases hj; exact Nat.le_of_ble_eq_true hm) rfl hk
theorem x_d0 {d : List (Nat × Ent)} (hs : Stp P ⟨tm, h⟩ op v d r nw) (hn : nw.all (fun j => (lookE h j).isNone) = true) (hd : noDead d = true) (hk : OpsX P F m ops dr rest ⟨tm, d ++ h⟩ (⟨true, keys d ++ nw, r⟩ :: fs) Q) :
    OpsX P F m ops dr (⟨none, op, ty, pos, after, none⟩ :: rest) ⟨tm, h⟩ fs Q :=
  x_cons (e := ⟨true, v, d, r, nw⟩) rfl rfl hs (fun j hj => by have := List.all_eq_true.1 hn j hj; simpa using this) hd (fun j hj => by cases hj) rfl hk
end
theorem Step1.on {P : Program} {m : Nat} {ops : Array Oper} {d : Option Nat} {op : Op} {ty : Nat} {pos : String} {after : Array Edge} {j t : Nat} {b : Bool} {st : St} {e : Evt} (ht : gslot ops j = some t) (hv : look st.tm t = .s (.bool b)) (hs : Step1 P m ops ⟨d, op, ty, pos, after, none⟩ st e) :
    Step1 P m ops ⟨d, op, ty, pos, after, some (j, b)⟩ st e := by
  obtain ⟨h1, h2, h3, h4, h5, h6⟩ := hs
  exact ⟨h1, h2, h3, h4, h5, t, .bool b, ht, hv, by rw [show e.on = true from h6]; simp [gw]⟩
theorem x_on {d : Option Nat} {op : Op} {ty : Nat} {pos : String} {after : Array Edge} {j t : Nat} {b : Bool} {st : St} (ht : gslot ops j = some t) (hv : look st.tm t = .s (.bool b)) (hk : OpsX P F m ops dr (⟨d, op, ty, pos, after, none⟩ :: rest) st fs Q) :
    OpsX P F m ops dr (⟨d, op, ty, pos, after, some (j, b)⟩ :: rest) st fs Q := by
  cases dr with
  | false => exact ⟨ops_on ht hv hk.run⟩
  | true =>
    obtain ⟨es, st2, h1, h2⟩ := hk.run
    cases es with
    | nil => exact h1.elim
    | cons e es => exact ⟨⟨e :: es, st2, ⟨h1.1.on ht hv, h1.2⟩, h2⟩⟩
theorem x_off {d : Nat} {op : Op} {ty : Nat} {pos : String} {after : Array Edge} {j t : Nat} {b : Bool} {c : Value} (ht : gslot ops j = some t) (hv : look tm t = .s c) (hc : gw c b = false) (hm : Nat.blt d m = true) (hk : OpsX P F m ops dr rest ⟨(d, .s undef) :: tm, h⟩ (⟨false, [], []⟩ :: fs) Q) :
    OpsX P F m ops dr (⟨some d, op, ty, pos, after, some (j, b)⟩ :: rest) ⟨tm, h⟩ fs Q := by
  cases dr with
  | false => exact ⟨ops_off ht hv hc hm hk.run⟩
  | true =>
    obtain ⟨es, st2, h1, h2⟩ := hk.run
    refine ⟨⟨⟨false, .s undef, [], [], []⟩ :: es, st2, ⟨⟨rfl, (fun j hj => by cases hj; exact Nat.le_of_ble_eq_true hm), by simp, (fun h => by cases h), (fun _ => ⟨rfl, rfl⟩), t, c, ht, hv, hc.symm⟩, h1⟩, ?_⟩⟩
    rw [List.map_cons, List.reverse_cons, List.append_assoc]
    exact h2
theorem x_split {st : St} {l : List Oper} {t : Nat} {c : Bool} (hv : look st.tm t = .s (.bool c)) (h1 : c = true → OpsX P F m ops false l ⟨(t, .s (.bool true)) :: st.tm, st.h⟩ fs Q) (h2 : c = false → OpsX P F m ops false l ⟨(t, .s (.bool false)) :: st.tm, st.h⟩ fs Q) : OpsX P F m ops false l st fs Q := ⟨ops_split hv (fun h => (h1 h).run) (fun h => (h2 h).run)⟩
theorem x_tell {st : St} {l : List Oper} {t : Nat} {c : Bool} (c' : Bool) (hv : look st.tm t = .s (.bool c)) (hc : c = c') (hk : OpsX P F m ops false l ⟨(t, .s (.bool c')) :: st.tm, st.h⟩ fs Q) : OpsX P F m ops false l st fs Q := ⟨ops_tell hv hc hk.run⟩
theorem x_gsplit {d : Option Nat} {op : Op} {ty : Nat} {pos : String} {after : Array Edge} {j t : Nat} {b c : Bool} (ht : gslot ops j = some t) (hv : look tm t = .s (.bool c)) (h1 : c = true → OpsX P F m ops false (⟨d, op, ty, pos, after, some (j, b)⟩ :: rest) ⟨(t, .s (.bool true)) :: tm, h⟩ fs Q) (h2 : c = false → OpsX P F m ops false (⟨d, op, ty, pos, after, some (j, b)⟩ :: rest) ⟨(t, .s (.bool false)) :: tm, h⟩ fs Q) :
    OpsX P F m ops false (⟨d, op, ty, pos, after, some (j, b)⟩ :: rest) ⟨tm, h⟩ fs Q := by
  have := ht
  exact x_split (st := ⟨tm, h⟩) hv h1 h2
section
variable {ty t : Nat} {pos : String} {after : Array Edge} {st : St} {g : Option (Nat × Bool)} {d : Option Nat}
theorem is_call {c : Operand} {as : Array Operand} {ts : Array Nat} (hk : OpsX P F m ops dr (⟨some t, (.call ⟨.value c, as, ts⟩), ty, pos, after, none⟩ :: rest) st fs Q) : OpsX P F m ops dr (⟨some t, (.call ⟨.value c, as, ts⟩), ty, pos, after, none⟩ :: rest) st fs Q := hk
theorem is_bin {op : BinOp} {tx t2 : Nat} {x y : Operand} (hk : OpsX P F m ops dr (⟨some t, (.binOp op tx x y t2), ty, pos, after, none⟩ :: rest) st fs Q) : OpsX P F m ops dr (⟨some t, (.binOp op tx x y t2), ty, pos, after, none⟩ :: rest) st fs Q := hk
theorem is_idx {tx : Nat} {x y : Operand} (hk : OpsX P F m ops dr (⟨some t, (.indexAddr tx x y), ty, pos, after, none⟩ :: rest) st fs Q) : OpsX P F m ops dr (⟨some t, (.indexAddr tx x y), ty, pos, after, none⟩ :: rest) st fs Q := hk
theorem is_load {tx : Nat} {x : Operand} (hk : OpsX P F m ops dr (⟨some t, (.load tx x), ty, pos, after, none⟩ :: rest) st fs Q) : OpsX P F m ops dr (⟨some t, (.load tx x), ty, pos, after, none⟩ :: rest) st fs Q := hk
theorem is_fad {tx n : Nat} {x : Operand} (hk : OpsX P F m ops dr (⟨some t, (.fieldAddr tx x n), ty, pos, after, none⟩ :: rest) st fs Q) : OpsX P F m ops dr (⟨some t, (.fieldAddr tx x n), ty, pos, after, none⟩ :: rest) st fs Q := hk
theorem is_sto {tx : Nat} {x y : Operand} (hk : OpsX P F m ops dr (⟨none, (.store tx x y), ty, pos, after, none⟩ :: rest) st fs Q) : OpsX P F m ops dr (⟨none, (.store tx x y), ty, pos, after, none⟩ :: rest) st fs Q := hk
theorem is_grd {op : Op} {j : Nat} {b : Bool} (hk : OpsX P F m ops dr (⟨d, op, ty, pos, after, some (j, b)⟩ :: rest) st fs Q) : OpsX P F m ops dr (⟨d, op, ty, pos, after, some (j, b)⟩ :: rest) st fs Q := hk
theorem is_ops {l : List Oper} (hk : OpsX P F m ops dr l st fs Q) : OpsX P F m ops dr l st fs Q := hk
end
theorem x_region {Q : Exit → St → Prop} {id : Nat} {l : List Oper} {st : St} (hk : OpsX P F m l.toArray false l st [] (fun _ s => Q .normal s)) : Sim P F m (.region id l.toArray false) st Q := sim_region hk.run
theorem x_draw {Q : Exit → St → Prop} {id : Nat} {l : List Oper} {st : St} (hm : P.follows .mixedOrders = true) (hk : OpsX P F m l.toArray true l st [] (fun fs s => regOK l (clos l) fs.reverse = true ∧ Q .normal s)) : Sim P F m (.region id l.toArray true) st Q := by
  obtain ⟨es, st2, h1, h2, h3⟩ := hk.run
  exact sim_draw hm h1 (by simpa using h2) h3
end
end Av
end Go.Proofs.Ytjbldhhgooihfaa
