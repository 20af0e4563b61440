/- Abstract values: what an operation makes of an abstract state; operations that leave memory alone. -/
import Derived.Test.YtjbldhhgooihfaaAva
import Derived.IntWalk
namespace Go.Proofs.Ytjbldhhgooihfaa
namespace Av
set_option linter.unusedSimpArgs false
set_option linter.unusedVariables false

/-- What is used of a type. -/
inductive TD where
  | str (fs : List (Nat × Nat))
  | slice (e : Nat)
  | arr (n e : Nat)
  | int (k : IntKind)
  | bool
  | string
  | ptr (e : Nat)
  | func
  | other
structure TI where
  d : TD
  size : Nat
  bytes : Nat
  zero : List Value
def TD.agg : TD → Bool
  | .str _ | .arr _ _ => true
  | _ => false
def tdOf : TypeDesc → TD
  | .struct fs => .str (fs.toList.map fun f => (f.offset, f.type))
  | .slice e => .slice e
  | .array n e => .arr n e
  | .int k => .int k
  | .bool => .bool
  | .string => .string
  | .pointer e => .ptr e
  | .func .. => .func
  | _ => .other
def tiOf (P : Program) (t : Nat) : Option TI :=
  match P.info? t, P.underlying t with
  | some i, some u => i.zero.map fun z => ⟨tdOf u, i.size, i.bytes, z.cells.toList⟩
  | _, _ => none
/-- The table TT says of the program's types what is so. -/
def TOK (P : Program) (TT : List TI) : Prop := ∀ (t : Nat) ti, TT[t]? = some ti → tiOf P t = some ti
theorem tok_of_all {P : Program} : ∀ (TT : List TI) (n : Nat), (∀ (t : Nat) ti, TT[t]? = some ti → tiOf P (n + t) = some ti) ↔ (match TT with | [] => True | x :: r => tiOf P n = some x ∧ ∀ (t : Nat) ti, r[t]? = some ti → tiOf P (n + 1 + t) = some ti)
  | [], n => by simp
  | x :: r, n => by
    constructor
    · intro h
      refine ⟨h 0 x rfl, fun t ti ht => ?_⟩
      have := h (t + 1) ti ht
      rwa [show n + 1 + t = n + (t + 1) by omega]
    · rintro ⟨h0, h1⟩ t ti ht
      cases t with
      | zero => simp at ht; subst ht; exact h0
      | succ t => rw [show n + (t + 1) = n + 1 + t by omega]; exact h1 t ti ht

theorem tiOf_some {P : Program} {t : Nat} {ti : TI} (h : tiOf P t = some ti) : ∃ i u z, P.info? t = some i ∧ P.underlying t = some u ∧ i.zero = some z ∧ ti.d = tdOf u ∧ ti.size = i.size ∧ ti.bytes = i.bytes ∧ ti.zero = z.cells.toList := by
  unfold tiOf at h
  split at h
  · rename_i i u hi hu
    cases hz : i.zero with
    | none => simp [hz] at h
    | some z =>
      simp [hz] at h
      exact ⟨i, u, z, hi, hu, hz, by rw [← h], by rw [← h], by rw [← h], by rw [← h]⟩
  · cases h
section runs
variable {P : Program} {t : Nat} {ti : TI} (h : tiOf P t = some ti) (w : World)
include h
theorem run_info : ∃ i z, (typeInfo t).run P w = .ok i w ∧ i.size = ti.size ∧ i.bytes = ti.bytes ∧ i.zero = some z ∧ z.cells.toList = ti.zero := by
  obtain ⟨i, u, z, hi, _, hz, _, hs, hb, hzz⟩ := tiOf_some h
  exact ⟨i, z, by simp [typeInfo, hi], hs.symm, hb.symm, hz, hzz.symm⟩
theorem run_size : (sizeOf t).run P w = .ok ti.size w := by
  obtain ⟨i, z, hr, hs, _⟩ := run_info h w
  simp [sizeOf, hr, hs]
theorem run_zero : ∃ z, (zeroValue t).run P w = .ok z w ∧ z.cells.toList = ti.zero := by
  obtain ⟨i, z, hr, _, _, hz, hzz⟩ := run_info h w
  exact ⟨z, by simp [zeroValue, hr, hz], hzz⟩
theorem run_under : ∃ u, (underlying t).run P w = .ok u w ∧ tdOf u = ti.d := by
  obtain ⟨i, u, z, _, hu, _, hd, _⟩ := tiOf_some h
  exact ⟨u, by simp [underlying, hu], hd.symm⟩
theorem run_agg : (isAgg t).run P w = .ok ti.d.agg w := by
  obtain ⟨u, hr, hd⟩ := run_under h w
  rw [← hd]
  simp only [isAgg, Sem.run_bind, hr, Result.andThen_ok]
  cases u <;> rfl
end runs
theorem under_of {P : Program} {t : Nat} (w : World) {u : TypeDesc} (hu : P.underlying t = some u) : (underlying t).run P w = .ok u w := by simp [underlying, hu]
theorem td_slice {u : TypeDesc} {e : Nat} (h : tdOf u = .slice e) : u = .slice e := by cases u <;> simp [tdOf] at h; rw [h]
theorem td_arr {u : TypeDesc} {n e : Nat} (h : tdOf u = .arr n e) : u = .array n e := by cases u <;> simp [tdOf] at h; rw [h.1, h.2]
theorem td_int {u : TypeDesc} {k : IntKind} (h : tdOf u = .int k) : u = .int k := by cases u <;> simp [tdOf] at h; rw [h]
theorem td_bool {u : TypeDesc} (h : tdOf u = .bool) : u = .bool := by cases u <;> simp [tdOf] at h; rfl
theorem td_string {u : TypeDesc} (h : tdOf u = .string) : u = .string := by cases u <;> simp [tdOf] at h; rfl
theorem td_str {u : TypeDesc} {fs : List (Nat × Nat)} (h : tdOf u = .str fs) : ∃ f, u = .struct f ∧ f.toList.map (fun f => (f.offset, f.type)) = fs := by
  cases u with
  | struct f => exact ⟨f, rfl, by simpa [tdOf] using h⟩
  | _ => simp [tdOf] at h

/-- An abstract state: what the slots hold, what is owned. -/
structure St where
  tm : List (Nat × AV)
  h : List (Nat × Ent)
def look : List (Nat × AV) → Nat → AV
  | [], _ => .bot
  | (k, v) :: r, t => bif Nat.beq t k then v else look r t
def lookE : List (Nat × Ent) → Nat → Option Ent
  | [], _ => none
  | (k, e) :: r, t => bif Nat.beq t k then some e else lookE r t
def over (d : List (Nat × Ent)) (h : Heap) : Heap := fun k => match lookE d k with
  | some e => some e
  | none => h k
def opv (tm : Nat → AV) : Operand → AV
  | .tmp t => tm t
  | .const v => .s v
  | .func f => .fn f []
  | .global _ => .bot
def tmpsOf (op : Op) : List Nat := op.operands.toList.filterMap fun | .tmp t => some t | _ => none

/-- An operation comes to a value. -/
def OpDone (P : Program) (N : Value → World → Prop) : Result Next → Prop
  | .ok (.value c) w' => N c w'
  | .ok .skip w' => N undef w'
  | .ok (.enter f args) w' => Calls P f args w' fun e w'' => ∃ c, e = .returned c ∧ N c w''
  | _ => False
def OpSim (P : Program) (X : Nat → Prop) (tm : Nat → AV) (h : Heap) (op : Op) (v : AV) (h' : Heap) : Prop :=
  ∀ (o : Oper) (a : Act) (w : World) (β : Map), o.op = op → HOK X h β w → (∀ t, RepV w (Dom X β) h β (tm t) (a.eval (.tmp t))) →
    OpDone P (fun c w' => ∃ β', Goes X w h β w' h' β' ∧ RepV w' (Dom X β') h' β' v c) ((execOp a.eval o).run P w)
/-- The operation, in each state that agrees with st in the slots that it reads and in the keys r, and in which the keys nw are free, comes to v and writes d. -/
structure Stp (P : Program) (st : St) (op : Op) (v : AV) (d : List (Nat × Ent)) (r nw : List Nat) : Prop where
  run : ∀ (X : Nat → Prop) (tm : Nat → AV) (h : Heap), (∀ t, t ∈ tmpsOf op → tm t = look st.tm t) → (∀ k, k ∈ r → h k = lookE st.h k) → (∀ k, k ∈ nw → h k = none) → OpSim P X tm h op v (over d h)

section
variable {w : World} {D : Nat → Prop} {h : Heap} {β : Map}
theorem opv_rep {tm : Nat → AV} {a : Act} (H : ∀ t, RepV w D h β (tm t) (a.eval (.tmp t))) (x : Operand) : RepV w D h β (opv tm x) (a.eval x) := by
  cases x with
  | tmp t => exact H t
  | const v => exact .fz _ _ (.s v)
  | global g => exact .fz _ _ (.bot _)
  | func f => exact .fn f [] #[] rfl (fun i v hv => by simp at hv)
theorem opv_agree {op : Op} {tm tm' : Nat → AV} (H : ∀ t, t ∈ tmpsOf op → tm t = tm' t) {x : Operand} (hx : x ∈ op.operands) : opv tm x = opv tm' x := by
  cases x with
  | tmp t => exact H t (by simp only [tmpsOf, List.mem_filterMap]; exact ⟨.tmp t, by simpa using hx, rfl⟩)
  | _ => rfl
theorem RepV.s_inv {x c : Value} (hv : RepV w D h β (.s x) c) : c = x := by
  cases hv with
  | fz _ _ hf => cases hf; rfl
theorem arg {op : Op} {tm : Nat → AV} {st : St} {a : Act} (H : ∀ t, RepV w D h β (tm t) (a.eval (.tmp t))) (hg : ∀ t, t ∈ tmpsOf op → tm t = look st.tm t) {x : Operand} (hx : x ∈ op.operands) {v : AV}
    (hv : opv (look st.tm) x = v) : RepV w D h β v (a.eval x) := by
  rw [← hv, ← opv_agree hg hx]
  exact opv_rep H x
theorem arg_s {op : Op} {tm : Nat → AV} {st : St} {a : Act} (H : ∀ t, RepV w D h β (tm t) (a.eval (.tmp t))) (hg : ∀ t, t ∈ tmpsOf op → tm t = look st.tm t) {x : Operand} (hx : x ∈ op.operands) {v : Value}
    (hv : opv (look st.tm) x = .s v) : a.eval x = v := (arg H hg hx hv).s_inv
end
theorem over_nil (h : Heap) : over [] h = h := rfl

/-- An operation that leaves memory alone. -/
theorem stp_val {P : Program} {st : St} {op : Op} {v : AV} {r : List Nat}
    (H : ∀ (o : Oper) (X : Nat → Prop) (tm : Nat → AV) (h : Heap) (w : World) (β : Map) (a : Act), o.op = op → (∀ t, t ∈ tmpsOf op → tm t = look st.tm t) → (∀ k, k ∈ r → h k = lookE st.h k) → HOK X h β w →
      (∀ t, RepV w (Dom X β) h β (tm t) (a.eval (.tmp t))) → ∃ c, (execOp a.eval o).run P w = .ok (.value c) w ∧ RepV w (Dom X β) h β v c) : Stp P st op v [] r [] := by
  refine ⟨?_⟩
  intro X tm h hg hr _ o a w β ho HH Ht
  obtain ⟨c, hc, hv⟩ := H o X tm h w β a ho hg hr HH Ht
  rw [hc, over_nil]
  exact ⟨β, Goes.refl HH, hv⟩

section ops
variable {P : Program} {TT : List TI} {st : St}

theorem stp_move {x : Operand} {v : AV} (hv : opv (look st.tm) x = v) : Stp P st (.move x) v [] [] [] :=
  stp_val fun o X tm h w β a ho hg _ _ Ht => by
    obtain ⟨dst, op', type, pos, after, guard⟩ := o
    dsimp only at ho; subst ho
    exact ⟨a.eval x, rfl, arg Ht hg (by simp [Op.operands]) hv⟩
theorem stp_assign {x : Operand} {v : AV} (hv : opv (look st.tm) x = v) : Stp P st (.assign x) v [] [] [] :=
  stp_val fun o X tm h w β a ho hg _ _ Ht => by
    obtain ⟨dst, op', type, pos, after, guard⟩ := o
    dsimp only at ho; subst ho
    exact ⟨a.eval x, rfl, arg Ht hg (by simp [Op.operands]) hv⟩
theorem stp_pick {c x y : Operand} {t : Bool} {v : AV} (hc : opv (look st.tm) c = .s (.bool t)) (hv : (bif t then opv (look st.tm) x else opv (look st.tm) y) = v) : Stp P st (.pick c x y) v [] [] [] :=
  stp_val fun o X tm h w β a ho hg _ _ Ht => by
    obtain ⟨dst, op', type, pos, after, guard⟩ := o
    dsimp only at ho; subst ho
    have h1 := arg_s Ht hg (x := c) (by simp [Op.operands]) hc
    refine ⟨if t then a.eval x else a.eval y, by simp [execOp, h1, asBool], ?_⟩
    cases t
    · exact arg Ht hg (by simp [Op.operands]) hv
    · exact arg Ht hg (by simp [Op.operands]) hv
theorem stp_extract {x : Operand} {vs : List AV} {i : Nat} {v : AV} (hx : opv (look st.tm) x = .tup vs) (hv : vs[i]? = some v) : Stp P st (.extract x i) v [] [] [] :=
  stp_val fun o X tm h w β a ho hg _ _ Ht => by
    obtain ⟨dst, op', type, pos, after, guard⟩ := o
    dsimp only at ho; subst ho
    have h1 := arg Ht hg (x := x) (by simp [Op.operands]) hx
    have hi := (List.getElem?_eq_some_iff.1 hv).1
    generalize he : a.eval x = cx at h1
    cases h1 with
    | fz _ _ hf => cases hf
    | tup _ c hl hh =>
      obtain ⟨u, hc⟩ : ∃ u, c[i]? = some u := ⟨c[i], by simp [show i < c.size by omega]⟩
      have hu : c.getD i undef = u := by simp [Array.getD_eq_getD_getElem?, hc]
      exact ⟨u, by simp [execOp, Instr.extract, he, hc], hu ▸ hh i v hv⟩

/-! ### Numbers -/
/-- A kind of integer holds a number. -/
def InR : IntKind → Int → Prop
  | .i64, n => -9223372036854775808 ≤ n ∧ n ≤ 9223372036854775807
  | .u8, n => 0 ≤ n ∧ n ≤ 255
  | .i32, n => -2147483648 ≤ n ∧ n ≤ 2147483647
  | .u32, n => 0 ≤ n ∧ n ≤ 4294967295
  | .u64, n => 0 ≤ n ∧ n ≤ 18446744073709551615
  | .i8, n => -128 ≤ n ∧ n ≤ 127
  | .i16, n => -32768 ≤ n ∧ n ≤ 32767
  | .u16, n => 0 ≤ n ∧ n ≤ 65535
theorem wrap_in {k : IntKind} {n : Int} (h : InR k n) : k.wrap n = n := by
  cases k <;> first
    | exact IntWalk.i64_in n h
    | exact IntWalk.u8_in n h
    | exact IntWalk.i32_in n h
    | exact IntWalk.u32_in n h
    | exact IntWalk.u64_in n h
    | exact IntWalk.i8_in n h
    | exact IntWalk.i16_in n h
    | exact IntWalk.u16_in n h
/-- Two integers of one kind. -/
theorem stp_int2 {op : BinOp} {tx ty : Nat} {x y : Operand} {k : IntKind} {m n : Int} {v : Value} (hx : opv (look st.tm) x = .s (.int k m)) (hy : opv (look st.tm) y = .s (.int k n))
    (H : ∀ w, (binOp op tx (.int k m) (.int k n)).run P w = .ok v w) : Stp P st (.binOp op tx x y ty) (.s v) [] [] [] :=
  stp_val fun o X tm h w β a ho hg _ _ Ht => by
    obtain ⟨dst, op', type, pos, after, guard⟩ := o
    dsimp only at ho; subst ho
    have h1 := arg_s Ht hg (x := x) (by simp [Op.operands]) hx
    have h2 := arg_s Ht hg (x := y) (by simp [Op.operands]) hy
    refine ⟨v, ?_, .fz _ _ (.s v)⟩
    have hgd : (eqGuard op tx x y (.int k m) (.int k n)).run P w = .ok () w := by
      unfold eqGuard; cases op <;> rfl
    simp only [execOp, h1, h2, Sem.run_bind, hgd, Result.andThen_ok, H, Sem.run_pure]
section
variable {tx ty : Nat} {x y : Operand} {k : IntKind} {m n : Int} (hx : opv (look st.tm) x = .s (.int k m)) (hy : opv (look st.tm) y = .s (.int k n))
include hx hy
theorem stp_add (hr : InR k (m + n)) : Stp P st (.binOp .add tx x y ty) (.s (.int k (m + n))) [] [] [] := stp_int2 hx hy fun w => by simp [binOp, Op.intArith, wrap_in hr]
theorem stp_sub (hr : InR k (m - n)) : Stp P st (.binOp .sub tx x y ty) (.s (.int k (m - n))) [] [] [] := stp_int2 hx hy fun w => by simp [binOp, Op.intArith, wrap_in hr]
theorem stp_mul (hr : InR k (m * n)) : Stp P st (.binOp .mul tx x y ty) (.s (.int k (m * n))) [] [] [] := stp_int2 hx hy fun w => by simp [binOp, Op.intArith, wrap_in hr]
theorem stp_addw : Stp P st (.binOp .add tx x y ty) (.s (.int k (k.wrap (m + n)))) [] [] [] := stp_int2 hx hy fun w => by simp [binOp, Op.intArith]
theorem stp_subw : Stp P st (.binOp .sub tx x y ty) (.s (.int k (k.wrap (m - n)))) [] [] [] := stp_int2 hx hy fun w => by simp [binOp, Op.intArith]
theorem stp_mulw : Stp P st (.binOp .mul tx x y ty) (.s (.int k (k.wrap (m * n)))) [] [] [] := stp_int2 hx hy fun w => by simp [binOp, Op.intArith]
theorem stp_quo (hr : InR k (m.tdiv n)) (h0 : n ≠ 0) : Stp P st (.binOp .quo tx x y ty) (.s (.int k (m.tdiv n))) [] [] [] := stp_int2 hx hy fun w => by simp [binOp, Op.intDiv, h0, wrap_in hr]
theorem stp_rem (h0 : n ≠ 0) : Stp P st (.binOp .rem tx x y ty) (.s (.int k (m.tmod n))) [] [] [] := stp_int2 hx hy fun w => by simp [binOp, Op.intDiv, h0]
theorem stp_and : Stp P st (.binOp .and tx x y ty) (.s (.int k (k.wrap (BitVec.ofInt k.bits m &&& BitVec.ofInt k.bits n).toNat))) [] [] [] := stp_int2 hx hy fun w => by simp only [binOp, Op.intBits]; simp
theorem stp_or : Stp P st (.binOp .or tx x y ty) (.s (.int k (k.wrap (BitVec.ofInt k.bits m ||| BitVec.ofInt k.bits n).toNat))) [] [] [] := stp_int2 hx hy fun w => by simp only [binOp, Op.intBits]; simp
theorem stp_xor : Stp P st (.binOp .xor tx x y ty) (.s (.int k (k.wrap (BitVec.ofInt k.bits m ^^^ BitVec.ofInt k.bits n).toNat))) [] [] [] := stp_int2 hx hy fun w => by simp only [binOp, Op.intBits]; simp
theorem stp_andNot : Stp P st (.binOp .andNot tx x y ty) (.s (.int k (k.wrap (BitVec.ofInt k.bits m &&& ~~~BitVec.ofInt k.bits n).toNat))) [] [] [] := stp_int2 hx hy fun w => by simp only [binOp, Op.intBits]; simp
theorem stp_eql : Stp P st (.binOp .eql tx x y ty) (.s (.bool (m == n))) [] [] [] := stp_int2 hx hy fun w => by simp [binOp, Op.intCmp]
theorem stp_neq : Stp P st (.binOp .neq tx x y ty) (.s (.bool (m != n))) [] [] [] := stp_int2 hx hy fun w => by simp [binOp, Op.intCmp]
theorem stp_lss : Stp P st (.binOp .lss tx x y ty) (.s (.bool (decide (m < n)))) [] [] [] := stp_int2 hx hy fun w => by simp [binOp, Op.intCmp]
theorem stp_leq : Stp P st (.binOp .leq tx x y ty) (.s (.bool (decide (m ≤ n)))) [] [] [] := stp_int2 hx hy fun w => by simp [binOp, Op.intCmp]
theorem stp_gtr : Stp P st (.binOp .gtr tx x y ty) (.s (.bool (decide (n < m)))) [] [] [] := stp_int2 hx hy fun w => by simp [binOp, Op.intCmp]
theorem stp_geq : Stp P st (.binOp .geq tx x y ty) (.s (.bool (decide (n ≤ m)))) [] [] [] := stp_int2 hx hy fun w => by simp [binOp, Op.intCmp]
end
theorem stp_shift {op : BinOp} {tx ty : Nat} {x y : Operand} {k k' : IntKind} {m n : Int} {v : Int} (hop : op = .shl ∧ v = k.wrap (m * 2 ^ (min n.toNat k.bits)) ∨ op = .shr ∧ v = m.fdiv (2 ^ (min n.toNat k.bits)))
    (hx : opv (look st.tm) x = .s (.int k m)) (hy : opv (look st.tm) y = .s (.int k' n)) (h0 : 0 ≤ n) : Stp P st (.binOp op tx x y ty) (.s (.int k v)) [] [] [] :=
  stp_val fun o X tm h w β a ho hg _ _ Ht => by
    obtain ⟨dst, op', type, pos, after, guard⟩ := o
    dsimp only at ho; subst ho
    have h1 := arg_s Ht hg (x := x) (by simp [Op.operands]) hx
    have h2 := arg_s Ht hg (x := y) (by simp [Op.operands]) hy
    have h3 : ¬ n < 0 := by omega
    refine ⟨.int k v, ?_, .fz _ _ (.s _)⟩
    rcases hop with ⟨rfl, rfl⟩ | ⟨rfl, rfl⟩ <;> simp [execOp, h1, h2, eqGuard, binOp, Op.shift, h3]
theorem stp_not {tx : Nat} {x : Operand} {b : Bool} (hx : opv (look st.tm) x = .s (.bool b)) : Stp P st (.unOp .not tx x) (.s (.bool !b)) [] [] [] :=
  stp_val fun o X tm h w β a ho hg _ _ Ht => by
    obtain ⟨dst, op', type, pos, after, guard⟩ := o
    dsimp only at ho; subst ho
    have h1 := arg_s Ht hg (x := x) (by simp [Op.operands]) hx
    exact ⟨_, by simp [execOp, h1, Op.unary], .fz _ _ (.s _)⟩
theorem stp_neg {tx : Nat} {x : Operand} {k : IntKind} {n : Int} (hx : opv (look st.tm) x = .s (.int k n)) (hr : InR k (-n)) : Stp P st (.unOp .neg tx x) (.s (.int k (-n))) [] [] [] :=
  stp_val fun o X tm h w β a ho hg _ _ Ht => by
    obtain ⟨dst, op', type, pos, after, guard⟩ := o
    dsimp only at ho; subst ho
    have h1 := arg_s Ht hg (x := x) (by simp [Op.operands]) hx
    exact ⟨.int k (-n), by simp [execOp, h1, Op.unary, Op.intArith, wrap_in hr], .fz _ _ (.s _)⟩
theorem stp_conv {src dst : Nat} {x : Operand} {k k' : IntKind} {n : Int} {ts td : TI} (hP : TOK P TT) (hs : TT[src]? = some ts) (hd : TT[dst]? = some td) (hk : td.d = .int k') (hx : opv (look st.tm) x = .s (.int k n)) :
    Stp P st (.convert src dst x) (.s (.int k' (k'.wrap n))) [] [] [] :=
  stp_val fun o X tm h w β a ho hg _ _ Ht => by
    obtain ⟨dst', op', type, pos, after, guard⟩ := o
    dsimp only at ho; subst ho
    have h1 := arg_s Ht hg (x := x) (by simp [Op.operands]) hx
    obtain ⟨u, hu, _⟩ := run_under (hP _ _ hs) w
    obtain ⟨u', hu', hd'⟩ := run_under (hP _ _ hd) w
    obtain rfl := td_int (hd'.trans hk)
    exact ⟨.int k' (k'.wrap n), by simp [execOp, convert, h1, hu, hu', Conv.intToInt], .fz _ _ (.s _)⟩
/-- Two bools. -/
theorem stp_bool2 {op : BinOp} {tx ty : Nat} {x y : Operand} {p q : Bool} {v : Bool} {ti : TI} (hP : TOK P TT) (ht : TT[tx]? = some ti) (hd : ti.d = .bool) (hx : opv (look st.tm) x = .s (.bool p)) (hy : opv (look st.tm) y = .s (.bool q))
    (hop : op = .eql ∧ v = (p == q) ∨ op = .neq ∧ v = (p != q)) : Stp P st (.binOp op tx x y ty) (.s (.bool v)) [] [] [] :=
  stp_val fun o X tm h w β a ho hg _ _ Ht => by
    obtain ⟨dst, op', type, pos, after, guard⟩ := o
    dsimp only at ho; subst ho
    have h1 := arg_s Ht hg (x := x) (by simp [Op.operands]) hx
    have h2 := arg_s Ht hg (x := y) (by simp [Op.operands]) hy
    obtain ⟨u, hu, hd'⟩ := run_under (hP _ _ ht) w
    obtain rfl := td_bool (hd'.trans hd)
    have he : (Op.equal tx (.bool p) (.bool q)).run P w = .ok (p == q) w := by
      show (Op.equalIn (9999 + 1) tx (.bool p) (.bool q)).run P w = _
      unfold Op.equalIn
      simp [hu]
    refine ⟨.bool v, ?_, .fz _ _ (.s _)⟩
    rcases hop with ⟨rfl, rfl⟩ | ⟨rfl, rfl⟩ <;> simp [execOp, h1, h2, eqGuard, binOp, he, bne]
theorem stp_makeFunc {f : Nat} {cap : Array Operand} : Stp P st (.makeFunc (.func f) #[] cap) (.fn f (cap.toList.map (opv (look st.tm)))) [] [] [] :=
  stp_val fun o X tm h w β a ho hg _ _ Ht => by
    obtain ⟨dst, op', type, pos, after, guard⟩ := o
    dsimp only at ho; subst ho
    refine ⟨.func (.func f) #[] (cap.map a.eval), by simp [execOp, Instr.makeFunc], .fn _ _ _ (by simp) fun i v hv => ?_⟩
    simp only [List.getElem?_map, Option.map_eq_some_iff] at hv
    obtain ⟨x, hx, rfl⟩ := hv
    have : (cap.map a.eval).getD i undef = a.eval x := by
      have : cap[i]? = some x := by simpa using hx
      simp [Array.getD_eq_getD_getElem?, this]
    rw [this]
    refine arg Ht hg ?_ rfl
    have : x ∈ cap := by
      have := List.mem_of_getElem? hx
      simpa using this
    simp [Op.operands, this]
end ops
end Av
end Go.Proofs.Ytjbldhhgooihfaa
