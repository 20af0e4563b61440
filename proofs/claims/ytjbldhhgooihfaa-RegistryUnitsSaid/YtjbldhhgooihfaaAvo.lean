/- Abstract values: an operation that can be reckoned is reckoned. -/
import Derived.Test.YtjbldhhgooihfaaAvn
namespace Go.Proofs.Ytjbldhhgooihfaa
namespace Av
set_option linter.unusedSimpArgs false
set_option linter.unusedVariables false

/-- The value, its head laid open. -/
def frc {β : Type} (v : AV) (K : AV → Option β) : Option β := match v with
  | .s v => K (.s v)
  | .ptr k i o => K (.ptr k i o)
  | .agg cs => K (.agg cs)
  | .sl b xs => K (.sl b xs)
  | .ref k o n => K (.ref k o n)
  | .fp xs i o => K (.fp xs i o)
  | .fn f cs => K (.fn f cs)
  | .tup vs => K (.tup vs)
  | .bot => K .bot
  | .gh n => K (.gh n)
theorem frc_eq {β : Type} (v : AV) (K : AV → Option β) : frc v K = K v := by cases v <;> rfl
/-- The list, its elements' heads laid open. -/
def frcL {β : Type} : List AV → (List AV → Option β) → Option β
  | [], K => K []
  | x :: r, K => frc x fun x => frcL r fun r => K (x :: r)
theorem frcL_eq {β : Type} : ∀ (l : List AV) (K : List AV → Option β), frcL l K = K l
  | [], _ => rfl
  | x :: r, K => by rw [frcL, frc_eq, frcL_eq r]
abbrev Res := AV × List (Nat × Ent) × List Nat × List Nat
/-- A load out of a row of cells. -/
def ldR (ti : TI) (row : List AV) (off : Nat) (r : List Nat) : Option Res :=
  bif ti.d.agg then (bif Nat.ble (off + ti.size) row.length then frcL ((row.drop off).take ti.size) fun l => some (.agg l, [], r, []) else none)
  else match row[off]? with
    | some v => frc v fun v => some (v, [], r, [])
    | none => none
def isCmp : BinOp → Bool
  | .eql | .neq | .lss | .leq | .gtr | .geq => true
  | _ => false
def rangeIs : Nat → List Nat → Bool
  | _, [] => true
  | n, x :: r => Nat.beq x n && rangeIs (n + 1) r

def exec (TT : List TI) (tm : List (Nat × AV)) (h : List (Nat × Ent)) (t : Nat) : Op → Option Res
  | .move x => frc (opv (look tm) x) fun v => some (v, [], [], [])
  | .assign x => frc (opv (look tm) x) fun v => some (v, [], [], [])
  | .pick c x y => match opv (look tm) c with
    | .s (.bool b) => bif b then frc (opv (look tm) x) fun v => some (v, [], [], []) else frc (opv (look tm) y) fun v => some (v, [], [], [])
    | _ => none
  | .extract x i => match opv (look tm) x with
    | .tup vs => match vs[i]? with
      | some v => frc v fun v => some (v, [], [], [])
      | none => none
    | _ => none
  | .box _ x => match opv (look tm) x with
    | .agg cs => some (.ptr t 0 0, [(t, .box cs)], [], [t])
    | v => bif v.one then frc v fun v => some (.ptr t 0 0, [(t, .box [v])], [], [t]) else none
  | .alloc T => match TT[T]? with
    | some ti => bif ti.zero.all (·.oneCell') then frcL (ti.zero.map AV.s) fun l => some (.ptr t 0 0, [(t, .box l)], [], [t]) else none
    | none => none
  | .load T x => match opv (look tm) x, TT[T]? with
    | .ptr k 0 off, some ti => match lookE h k with
      | some (.box cs) => ldR ti cs off [k]
      | some (.arr _ xs _) => match xs[0]? with
        | some y => ldR ti y.cells off [k]
        | none => none
      | _ => none
    | .ptr k (i + 1) off, some ti => match lookE h k with
      | some (.arr _ xs _) => match xs[i + 1]? with
        | some y => ldR ti y.cells off [k]
        | none => none
      | _ => none
    | .fp xs i off, some ti => match xs[i]? with
      | some y => ldR ti y.cells off []
      | none => none
    | _, _ => none
  | .store T p x => match opv (look tm) p, TT[T]? with
    | .ptr k 0 off, some ti => match lookE h k with
      | some (.box cs) => frc (opv (look tm) x) fun v => bif v.ok && (Nat.beq v.cells.length ti.size && Nat.ble (off + ti.size) cs.length) then frcL (setL cs off v.cells) fun l => some (.bot, [(k, .box l)], [k], []) else none
      | _ => none
    | _, _ => none
  | .fieldAddr T x f => match opv (look tm) x, TT[T]? with
    | .ptr k 0 off, some ti => match lookE h k, ti.d with
      | some (.box _), .str fs => match fs[f]? with
        | some (o, ft) => match TT[ft]? with
          | some tf => bif Nat.ble 1 tf.size then some (.ptr k 0 (off + o), [], [k], []) else none
          | none => none
        | none => none
      | _, _ => none
    | _, _ => none
  | .field T x f => match opv (look tm) x, TT[T]? with
    | .agg cs, some ti => match ti.d with
      | .str fs => match fs[f]? with
        | some (o, ft) => match TT[ft]? with
          | some tf => ldR tf cs o []
          | none => none
        | none => none
      | _ => none
    | _, _ => none
  | .nilCheck x => match opv (look tm) x with
    | .ptr k 0 off => match lookE h k with
      | some (.box _) => some (.ptr k 0 off, [], [k], [])
      | _ => none
    | _ => none
  | .unOp .not _ x => match opv (look tm) x with
    | .s (.bool b) => some (.s (.bool !b), [], [], [])
    | _ => none
  | .makeFunc (.func f) ⟨[]⟩ cap => frcL (cap.toList.map (opv (look tm))) fun l => some (.fn f l, [], [], [])
  | .build T ps => match TT[T]? with
    | some ti => match ti.d with
      | .str fs => bif ti.zero.all (·.oneCell') then (match plOf TT fs with
        | some pl => match fillA (pl[·]?) (ti.zero.map .s) (prts ⟨tm, h⟩ ps) with
          | some cs => frcL cs fun l => some (.agg l, [], [], [])
          | none => none
        | none => none) else none
      | .arr _ e => bif ti.zero.all (·.oneCell') then (match TT[e]? with
        | some te => match fillA (fun i => some (i * te.size, te.size)) (ti.zero.map .s) (prts ⟨tm, h⟩ ps) with
          | some cs => frcL cs fun l => some (.agg l, [], [], [])
          | none => none
        | none => none) else none
      | _ => none
    | none => none
  | .buildSlice T len ps => match TT[T]? with
    | some ti => match ti.d with
      | .slice e => match TT[e]? with
        | some te => bif rangeIs 0 (ps.toList.map (·.1)) && (Nat.beq ps.toList.length len && (Nat.ble 1 te.size && (Nat.ble (len * te.size) 65536 && Nat.beq te.zero.length te.size))) then
            frcL (ps.toList.map fun p => opv (look tm) p.2) fun xs => bif xs.all (fun x => Nat.beq x.cells.length te.size && (x.ok && x.nokey)) then some (.ref t 0 len, [(t, .arr te.size xs false)], [], [t]) else none else none
        | none => none
      | _ => none
    | none => none
  | .call ⟨.builtin .len, ⟨[x]⟩, ⟨[T]⟩⟩ => match TT[T]? with
    | some ti => match ti.d with
      | .slice _ => match opv (look tm) x with
        | .sl _ xs => some (.s (.int .i64 xs.length), [], [], [])
        | .ref k _ len => match lookE h k with
          | some (.arr _ _ _) => some (.s (.int .i64 len), [], [k], [])
          | _ => none
        | .s (.slice _ n _) => some (.s (.int .i64 n), [], [], [])
        | _ => none
      | _ => none
    | none => none
  | .call ⟨.builtin .max, ⟨[x, y]⟩, ⟨[_, _]⟩⟩ => match opv (look tm) x, opv (look tm) y with
    | .s (.int .i64 m), .s (.int .i64 n) => some (.s (.int .i64 (max m n)), [], [], [])
    | _, _ => none
  | .call ⟨.builtin .min, ⟨[x, y]⟩, ⟨[_, _]⟩⟩ => match opv (look tm) x, opv (look tm) y with
    | .s (.int .i64 m), .s (.int .i64 n) => some (.s (.int .i64 (min m n)), [], [], [])
    | _, _ => none
  | _ => none

section
variable {P : Program} {TT : List TI} (hP : TOK P TT) {tm : List (Nat × AV)} {h : List (Nat × Ent)} {t : Nat}
theorem ldR_eq {ti : TI} {row : List AV} {off : Nat} {r : List Nat} {v : AV} {d : List (Nat × Ent)} {r' nw : List Nat} (he : ldR ti row off r = some (v, d, r', nw)) : ldv ti.d.agg ti.size row off = some v ∧ d = [] ∧ r' = r ∧ nw = [] := by
  unfold ldR at he
  unfold ldv
  cases hb : ti.d.agg with
  | true =>
    simp only [hb, cond_true, frcL_eq] at he
    cases hc : Nat.ble (off + ti.size) row.length with
    | true => simp only [hc, cond_true, Option.some.injEq, Prod.mk.injEq] at he; simp [he.1, he.2.1, he.2.2.1, he.2.2.2]
    | false => simp [hc] at he
  | false =>
    simp only [hb, cond_false] at he
    cases hr : row[off]? with
    | none => simp [hr] at he
    | some u => simp only [hr, frc_eq, Option.some.injEq, Prod.mk.injEq] at he; simp [he.1, he.2.1, he.2.2.1, he.2.2.2]
theorem rangeIs_eq : ∀ (l : List Nat) (n : Nat), rangeIs n l = true → ∀ (j : Nat) x, l[j]? = some x → x = n + j
  | [], _, _, _, _, h => by simp at h
  | y :: r, n, hr, 0, x, h => by simp at h; subst h; simp [rangeIs] at hr; omega
  | y :: r, n, hr, j + 1, x, h => by
    simp only [rangeIs, Bool.and_eq_true] at hr
    have := rangeIs_eq r (n + 1) hr.2 j x (by simpa using h)
    omega
include hP in
theorem exec_sound : ∀ {op : Op} {v : AV} {d : List (Nat × Ent)} {r nw : List Nat}, exec TT tm h t op = some (v, d, r, nw) → Stp P ⟨tm, h⟩ op v d r nw := by
  intro op v d r nw he
  unfold exec at he
  split at he
  · simp only [frc_eq, Option.some.injEq, Prod.mk.injEq] at he
    obtain ⟨rfl, rfl, rfl, rfl⟩ := he
    exact stp_move rfl
  · simp only [frc_eq, Option.some.injEq, Prod.mk.injEq] at he
    obtain ⟨rfl, rfl, rfl, rfl⟩ := he
    exact stp_assign rfl
  · split at he
    · rename_i b hb
      cases b <;> simp only [cond_true, cond_false, frc_eq, Option.some.injEq, Prod.mk.injEq] at he <;> obtain ⟨rfl, rfl, rfl, rfl⟩ := he <;> exact stp_pick hb rfl
    · cases he
  · split at he
    · rename_i hx
      split at he
      · rename_i hv
        simp only [frc_eq, Option.some.injEq, Prod.mk.injEq] at he
        obtain ⟨rfl, rfl, rfl, rfl⟩ := he
        exact stp_extract hx hv
      · cases he
    · cases he
  · rename_i T x
    generalize hx : opv (look tm) x = u at he
    by_cases ha : u.isAgg = true
    · cases u <;> simp [AV.isAgg] at ha
      simp only [Option.some.injEq, Prod.mk.injEq] at he
      obtain ⟨rfl, rfl, rfl, rfl⟩ := he
      exact stp_box (v := .agg _) t hx rfl
    · have he2 : (bif u.one then some (AV.ptr t 0 0, [(t, Ent.box [u])], ([] : List Nat), [t]) else none) = some (v, d, r, nw) := by
        cases u <;> first | exact he | (simp [AV.isAgg] at ha)
      cases ho : u.one with
      | false => rw [ho] at he2; cases he2
      | true =>
        rw [ho] at he2
        simp only [cond_true, Option.some.injEq, Prod.mk.injEq] at he2
        obtain ⟨rfl, rfl, rfl, rfl⟩ := he2
        have ok : u.ok = true := by cases u <;> first | rfl | exact ho
        have e : u.cells = [u] := by cases u <;> first | rfl | (simp [AV.one] at ho)
        have := stp_box (P := P) (T := T) (st := ⟨tm, h⟩) t hx ok
        rwa [e] at this
  · split at he
    · rename_i ti hT
      cases hz : ti.zero.all (·.oneCell') with
      | false => simp [hz] at he
      | true =>
        simp only [hz, cond_true, frcL_eq, Option.some.injEq, Prod.mk.injEq] at he
        obtain ⟨rfl, rfl, rfl, rfl⟩ := he
        exact stp_alloc hP t hT hz
    · cases he
  · split at he
    · rename_i k off ti hx hT
      split at he
      · rename_i cs hk
        obtain ⟨q1, rfl, rfl, rfl⟩ := ldR_eq he
        exact stp_load_box hP hx hk hT q1
      · rename_i xs _ hk
        split at he
        · rename_i y hy
          obtain ⟨q1, rfl, rfl, rfl⟩ := ldR_eq he
          exact stp_load_arr hP hx hk hy hT q1
        · cases he
      · cases he
    · rename_i k i off ti hx hT
      split at he
      · rename_i xs _ hk
        split at he
        · rename_i y hy
          obtain ⟨q1, rfl, rfl, rfl⟩ := ldR_eq he
          exact stp_load_arr hP hx hk hy hT q1
        · cases he
      · cases he
    · rename_i xs i off ti hx hT
      split at he
      · rename_i y hy
        obtain ⟨q1, rfl, rfl, rfl⟩ := ldR_eq he
        exact stp_load_fp hP hx hy hT q1
      · cases he
    · cases he
  · rename_i T p x
    split at he
    · rename_i k off ti hp hT
      split at he
      · rename_i cs hk
        rw [frc_eq] at he
        cases hc : ((opv (look tm) x).ok && (Nat.beq (opv (look tm) x).cells.length ti.size && Nat.ble (off + ti.size) cs.length)) with
        | false => rw [hc] at he; cases he
        | true =>
          rw [hc] at he
          simp only [cond_true, frcL_eq, Option.some.injEq, Prod.mk.injEq] at he
          obtain ⟨rfl, rfl, rfl, rfl⟩ := he
          simp only [Bool.and_eq_true] at hc
          exact stp_store_box hP hp rfl hk hT hc.1 hc.2.1 hc.2.2
      · cases he
    · cases he
  · split at he
    · rename_i k off ti hx hT
      split at he
      · rename_i cs fs hk hd
        split at he
        · rename_i o ft hf
          split at he
          · rename_i tf hft
            cases hz : Nat.ble 1 tf.size with
            | false => simp [hz] at he
            | true =>
              simp only [hz, cond_true, Option.some.injEq, Prod.mk.injEq] at he
              obtain ⟨rfl, rfl, rfl, rfl⟩ := he
              exact stp_fieldAddr_box hP hx hk hT hd hf hft hz
          · cases he
        · cases he
      · cases he
    · cases he
  · split at he
    · rename_i cs ti hx hT
      split at he
      · rename_i fs hd
        split at he
        · rename_i o ft hf
          split at he
          · rename_i tf hft
            obtain ⟨q1, rfl, rfl, rfl⟩ := ldR_eq he
            exact stp_field hP hx hT hd hf hft q1
          · cases he
        · cases he
      · cases he
    · cases he
  · split at he
    · rename_i hx
      split at he
      · rename_i hk
        simp only [Option.some.injEq, Prod.mk.injEq] at he
        obtain ⟨rfl, rfl, rfl, rfl⟩ := he
        exact stp_nilCheck_box hx hk
      · cases he
    · cases he
  · split at he
    · rename_i hx
      simp only [Option.some.injEq, Prod.mk.injEq] at he
      obtain ⟨rfl, rfl, rfl, rfl⟩ := he
      exact stp_not hx
    · cases he
  · simp only [frcL_eq, Option.some.injEq, Prod.mk.injEq] at he
    obtain ⟨rfl, rfl, rfl, rfl⟩ := he
    exact stp_makeFunc
  · split at he
    · rename_i ti hT
      split at he
      · rename_i fs hd
        cases hz : ti.zero.all (·.oneCell') with
        | false => simp [hz] at he
        | true =>
          simp only [hz, cond_true] at he
          split at he
          · rename_i pl hpl
            split at he
            · rename_i cs hf
              simp only [frcL_eq, Option.some.injEq, Prod.mk.injEq] at he
              obtain ⟨rfl, rfl, rfl, rfl⟩ := he
              exact stp_build hP hT hd hz hpl hf
            · cases he
          · cases he
      · rename_i e hd
        cases hz : ti.zero.all (·.oneCell') with
        | false => simp [hz] at he
        | true =>
          simp only [hz, cond_true] at he
          split at he
          · rename_i te hte
            split at he
            · rename_i cs hf
              simp only [frcL_eq, Option.some.injEq, Prod.mk.injEq] at he
              obtain ⟨rfl, rfl, rfl, rfl⟩ := he
              exact stp_build_arr hP hT hd hte hz hf
            · cases he
          · cases he
      · cases he
    · cases he
  · split at he
    · rename_i ti hT
      split at he
      · rename_i e hd
        split at he
        · rename_i T len ps _ _ _ te hte
          rw [frcL_eq] at he
          cases hc : (rangeIs 0 (ps.toList.map (·.1)) && (Nat.beq ps.toList.length len && (Nat.ble 1 te.size && (Nat.ble (len * te.size) 65536 && Nat.beq te.zero.length te.size)))) with
          | false => rw [hc] at he; cases he
          | true =>
            rw [hc] at he
            simp only [cond_true] at he
            generalize hxs : (ps.toList.map fun p => opv (look tm) p.2) = xs at he
            cases hw : xs.all (fun x => Nat.beq x.cells.length te.size && (x.ok && x.nokey)) with
            | false => simp [hw] at he
            | true =>
              simp only [hw, cond_true, Option.some.injEq, Prod.mk.injEq] at he
              obtain ⟨rfl, rfl, rfl, rfl⟩ := he
              simp only [Bool.and_eq_true] at hc
              obtain ⟨c1, c2, c3, c4, c5⟩ := hc
              refine stp_buildSlice hP t hT hd hte c3 ?_ (by rw [← hxs]; simpa using c2) hw c4 c5
              rw [← hxs]
              apply List.ext_getElem?
              intro j
              simp only [prts, List.getElem?_map, List.getElem?_zipIdx, Nat.zero_add]
              cases hj : ps.toList[j]? with
              | none => simp
              | some p =>
                have := rangeIs_eq _ 0 c1 j p.1 (by simp [hj])
                simp [this]
        · cases he
      · cases he
    · cases he
  · split at he
    · rename_i ti hT
      split at he
      · rename_i hd
        split at he
        · rename_i hx
          simp only [Option.some.injEq, Prod.mk.injEq] at he
          obtain ⟨rfl, rfl, rfl, rfl⟩ := he
          exact stp_len_sl hP hx hT hd
        · rename_i hx
          split at he
          · rename_i hk
            simp only [Option.some.injEq, Prod.mk.injEq] at he
            obtain ⟨rfl, rfl, rfl, rfl⟩ := he
            exact stp_len_ref hP hx hk hT hd
          · cases he
        · rename_i hx
          simp only [Option.some.injEq, Prod.mk.injEq] at he
          obtain ⟨rfl, rfl, rfl, rfl⟩ := he
          exact stp_len_nil hP hx hT hd
        · cases he
      · cases he
    · cases he
  · split at he
    · rename_i hx hy
      simp only [Option.some.injEq, Prod.mk.injEq] at he
      obtain ⟨rfl, rfl, rfl, rfl⟩ := he
      exact stp_max hx hy
    · cases he
  · split at he
    · rename_i hx hy
      simp only [Option.some.injEq, Prod.mk.injEq] at he
      obtain ⟨rfl, rfl, rfl, rfl⟩ := he
      exact stp_min hx hy
    · cases he
  · cases he
end

/-- Two integers compared. -/
def cmpP : BinOp → Int → Int → Prop
  | .eql, a, b => a = b
  | .neq, a, b => a ≠ b
  | .lss, a, b => a < b
  | .leq, a, b => a ≤ b
  | .gtr, a, b => b < a
  | .geq, a, b => b ≤ a
  | _, _, _ => False
def cmpB : BinOp → Int → Int → Bool
  | .eql, a, b => a == b
  | .neq, a, b => a != b
  | .lss, a, b => decide (a < b)
  | .leq, a, b => decide (a ≤ b)
  | .gtr, a, b => decide (b < a)
  | .geq, a, b => decide (b ≤ a)
  | _, _, _ => false
def ariV : BinOp → Int → Int → Int
  | .add, a, b => a + b
  | .sub, a, b => a - b
  | .mul, a, b => a * b
  | _, a, _ => a
section
variable {P : Program} {TT : List TI} {K0 : List Nat} {F : Fr K0} {m : Nat} {ops : Array Oper} {rest : List Oper} {Q : List FP → St → Prop} {tm : List (Nat × AV)} {h : List (Nat × Ent)} {dr : Bool} {fs : List FP}
variable {ty : Nat} {pos : String} {after : Array Edge} {t : Nat}
/-- The step that can be reckoned. -/
theorem x_auto (hP : TOK P TT) {op : Op} {v : AV} {r : List Nat} (he : exec TT tm h t op = some (v, [], r, [])) (hm : Nat.blt t m = true) (hk : OpsX P F m ops dr rest ⟨(t, v) :: tm, h⟩ (⟨true, [], r⟩ :: fs) Q) :
    OpsX P F m ops dr (⟨some t, op, ty, pos, after, none⟩ :: rest) ⟨tm, h⟩ fs Q := x_q (exec_sound hP he) hm hk
theorem x_autow (hP : TOK P TT) {op : Op} {v : AV} {k : Nat} {e : Ent} {r nw : List Nat} (he : exec TT tm h t op = some (v, [(k, e)], r, nw)) (hm : Nat.blt t m = true) (hn : nw.all (fun j => (lookE h j).isNone) = true) (hd : noDead [(k, e)] = true)
    (hk : OpsX P F m ops dr rest ⟨(t, v) :: tm, (k, e) :: h⟩ (⟨true, k :: nw, r⟩ :: fs) Q) : OpsX P F m ops dr (⟨some t, op, ty, pos, after, none⟩ :: rest) ⟨tm, h⟩ fs Q := x_w (exec_sound hP he) hm hn hd hk
theorem x_autos (hP : TOK P TT) {op : Op} {v : AV} {k : Nat} {e : Ent} {r nw : List Nat} (he : exec TT tm h 0 op = some (v, [(k, e)], r, nw)) (hn : nw.all (fun j => (lookE h j).isNone) = true) (hd : noDead [(k, e)] = true)
    (hk : OpsX P F m ops dr rest ⟨tm, (k, e) :: h⟩ (⟨true, k :: nw, r⟩ :: fs) Q) : OpsX P F m ops dr (⟨none, op, ty, pos, after, none⟩ :: rest) ⟨tm, h⟩ fs Q := x_s (exec_sound hP he) hn hd hk
section
variable {op : BinOp} {tx t2 : Nat} {x y : Operand} {k : IntKind} {a b : Int} (hop : isCmp op = true) (hx : opv (look tm) x = .s (.int k a)) (hy : opv (look tm) y = .s (.int k b))
include hop hx hy
theorem stp_cmp : Stp P ⟨tm, h⟩ (.binOp op tx x y t2) (.s (.bool (cmpB op a b))) [] [] [] := by
  cases op <;> first
    | exact stp_eql hx hy
    | exact stp_neq hx hy
    | exact stp_lss hx hy
    | exact stp_leq hx hy
    | exact stp_gtr hx hy
    | exact stp_geq hx hy
    | (simp [isCmp] at hop)
theorem stp_cmp_t (hh : cmpP op a b) : Stp P ⟨tm, h⟩ (.binOp op tx x y t2) (.s (.bool true)) [] [] [] := by
  cases op <;> first
    | exact stp_eq_t hx hy hh
    | exact stp_ne_t hx hy hh
    | exact stp_lt_t hx hy hh
    | exact stp_le_t hx hy hh
    | exact stp_gt_t hx hy hh
    | exact stp_ge_t hx hy hh
    | (simp [isCmp] at hop)
theorem stp_cmp_f (hh : ¬ cmpP op a b) : Stp P ⟨tm, h⟩ (.binOp op tx x y t2) (.s (.bool false)) [] [] [] := by
  cases op <;> first
    | exact stp_eq_f hx hy hh
    | exact stp_ne_f hx hy (by simpa [cmpP] using hh)
    | exact stp_lt_f hx hy hh
    | exact stp_le_f hx hy hh
    | exact stp_gt_f hx hy hh
    | exact stp_ge_f hx hy hh
    | (simp [isCmp] at hop)
end
end
end Av
end Go.Proofs.Ytjbldhhgooihfaa
