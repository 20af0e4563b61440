/- Abstract values: bytes as strings, parts of slices, bits. -/
import Derived.Test.YtjbldhhgooihfaaAvz
import Derived.Laws.BytesArg
import Derived.Laws.Strings
import Derived.Laws.StructEq
namespace Go.Proofs.Ytjbldhhgooihfaa
namespace Av
set_option linter.unusedSimpArgs false
set_option linter.unusedVariables false

def byA (n : Int) : AV := .s (.int .u8 n)
/-- Are the bytes the same? -/
def eqY (a b : List Int) : Bool := (strOfNums a).toList == (strOfNums b).toList
/-- Bytes. -/
def BY (l : List Int) : Prop := ∀ x ∈ l, 0 ≤ x ∧ x < 256
theorem strOfNums_inj {a b : List Int} (ha : BY a) (hb : BY b) (h : (a.map fun n => UInt8.ofNat n.toNat) = b.map fun n => UInt8.ofNat n.toNat) : a = b := by
  induction a generalizing b with
  | nil => cases b with
    | nil => rfl
    | cons y b => simp at h
  | cons x a ih => cases b with
    | nil => simp at h
    | cons y b =>
      simp only [List.map_cons, List.cons.injEq] at h
      have hx := ha x (by simp)
      have hy := hb y (by simp)
      have h1 := congrArg UInt8.toNat h.1
      simp only [UInt8.toNat_ofNat'] at h1
      have : x = y := by omega
      rw [this, ih (fun z hz => ha z (by simp [hz])) (fun z hz => hb z (by simp [hz])) h.2]
theorem toList_str (a : List Int) : (strOfNums a).toList = a.map fun n => UInt8.ofNat n.toNat := by
  rw [ByteArray.toList_eq]
  rfl
theorem eqY_eq (a b : List Int) : eqY a b = decide ((a.map fun n => UInt8.ofNat n.toNat) = b.map fun n => UInt8.ofNat n.toNat) := by
  unfold eqY
  rw [toList_str, toList_str]
  rw [Bool.eq_iff_iff]
  simp
theorem eqY_refl (a : List Int) : eqY a a = true := by rw [eqY_eq]; simp
theorem eqY_comm (a b : List Int) : eqY a b = eqY b a := by rw [eqY_eq, eqY_eq]; simp [eq_comm]
theorem eqY_iff {a b : List Int} (ha : BY a) (hb : BY b) : eqY a b = decide (a = b) := by
  rw [eqY_eq]
  by_cases h : a = b
  · simp [h]
  · rw [decide_eq_false h, decide_eq_false]
    exact fun hh => h (strOfNums_inj ha hb hh)
def andI (m n : Int) : Int := IntKind.i64.wrap (BitVec.ofInt IntKind.i64.bits m &&& BitVec.ofInt IntKind.i64.bits n).toNat
def orI (m n : Int) : Int := IntKind.i64.wrap (BitVec.ofInt IntKind.i64.bits m ||| BitVec.ofInt IntKind.i64.bits n).toNat
def bicI (m n : Int) : Int := IntKind.i64.wrap (BitVec.ofInt IntKind.i64.bits m &&& ~~~BitVec.ofInt IntKind.i64.bits n).toNat
section
variable {P : Program} {TT : List TI} {tm : List (Nat × AV)} {h : List (Nat × Ent)} {tx ty : Nat} {x y : Operand}
theorem stp_andI {m n : Int} (hx : opv (look tm) x = .s (.int .i64 m)) (hy : opv (look tm) y = .s (.int .i64 n)) : Stp P ⟨tm, h⟩ (.binOp .and tx x y ty) (.s (.int .i64 (andI m n))) [] [] [] := stp_and hx hy
theorem stp_orI {m n : Int} (hx : opv (look tm) x = .s (.int .i64 m)) (hy : opv (look tm) y = .s (.int .i64 n)) : Stp P ⟨tm, h⟩ (.binOp .or tx x y ty) (.s (.int .i64 (orI m n))) [] [] [] := stp_or hx hy
theorem stp_bicI {m n : Int} (hx : opv (look tm) x = .s (.int .i64 m)) (hy : opv (look tm) y = .s (.int .i64 n)) : Stp P ⟨tm, h⟩ (.binOp .andNot tx x y ty) (.s (.int .i64 (bicI m n))) [] [] [] := stp_andNot hx hy
theorem stp_strEq {a b : List Int} (hx : opv (look tm) x = .s (.string (strOfNums a))) (hy : opv (look tm) y = .s (.string (strOfNums b))) : Stp P ⟨tm, h⟩ (.binOp .eql tx x y ty) (.s (.bool (eqY a b))) [] [] [] := stp_string2 hx hy (.inl ⟨rfl, rfl⟩)
theorem stp_strNe {a b : List Int} (hx : opv (look tm) x = .s (.string (strOfNums a))) (hy : opv (look tm) y = .s (.string (strOfNums b))) : Stp P ⟨tm, h⟩ (.binOp .neq tx x y ty) (.s (.bool (!eqY a b))) [] [] [] := stp_string2 hx hy (.inr ⟨rfl, rfl⟩)
/-- Bytes to a string. -/
theorem stp_convStr (hP : TOK P TT) {src dst e : Nat} {ts te td : TI} {nn : Bool} {xs : List AV} {l : List Int} (hs : TT[src]? = some ts) (hsd : ts.d = .slice e) (he : TT[e]? = some te) (hek : te.d = .int .u8) (hd : TT[dst]? = some td) (hdd : td.d = .string)
    (hx : opv (look tm) x = .sl nn xs) (hl : xs = l.map byA) : Stp P ⟨tm, h⟩ (.convert src dst x) (.s (.string (strOfNums l))) [] [] [] :=
  stp_val fun o X tm h w β a ho hg _ HH Ht => by
    obtain ⟨dst', op', type, pos, after, guard⟩ := o
    dsimp only at ho; subst ho
    have h1 := arg Ht hg (x := x) (by simp [Op.operands]) hx
    obtain ⟨_, u1, _, _, hu1, _, hd1, _⟩ := tiOf_some (hP _ _ hs)
    obtain ⟨_, u2, _, _, hu2, _, hd2, _⟩ := tiOf_some (hP _ _ he)
    obtain ⟨_, u3, _, _, hu3, _, hd3, _⟩ := tiOf_some (hP _ _ hd)
    obtain rfl := td_slice (hd1.symm.trans hsd)
    obtain rfl := td_int (hd2.symm.trans hek)
    obtain rfl := td_string (hd3.symm.trans hdd)
    subst hl
    refine ⟨.string (strOfNums l), ?_, .fz _ _ (.s _)⟩
    have key : (convert src dst (a.eval x)).run P w = .ok (.string (strOfNums l)) w := by
      generalize a.eval x = cx at h1
      cases h1 with
      | fz _ _ hf =>
        generalize hxs : l.map byA = xs at hf
        cases hf with
        | nil b cap =>
          obtain rfl : l = [] := by cases l with
            | nil => rfl
            | cons z l => simp at hxs
          cases b with
          | none => exact run_convert_bytes_nil w src e hu1 hu2 0 cap dst hu3
          | some b =>
            rw [run_convert_bytes_string w src dst e _ 0 cap hu1 hu2 hu3]
            simp [Conv.bytesToString, loadCells]
            rfl
        | nil1 b cap =>
          obtain rfl : l = [] := by cases l with
            | nil => rfl
            | cons z l => simp at hxs
          rw [run_convert_bytes_string w src dst e _ 0 cap hu1 hu2 hu3]
          simp [Conv.bytesToString, loadCells]
          rfl
        | sl _ _ b o sz cap f hx hL hcc hh =>
          subst hxs
          have hat : ∀ i, i < l.length → (l.map byA)[i]? = some (byA (l.getD i 0)) := fun i hi => by simp [List.getD, hi]
          have hsz : sz = 1 := by
            cases l with
            | nil => exact absurd rfl hx
            | cons z l => exact (hL.wide 0 (byA z) rfl).symm
          subst hsz
          have := run_convert_bytes_arg (P := P) w src e hu1 hu2 b o (l.map byA).length cap l (by simp) (fun i hi => by
            have hi' : i < l.length := by simpa using hi
            have h2 := hL.cell i 0 (by simpa using hi') (by omega)
            have h3 := (hh i _ 0 (byA (l.getD i 0)) (hat i hi') rfl)
            rw [show o + i = o + i * 1 + 0 by omega, h2]
            unfold byA at h3
            generalize f i 0 = c at h3
            cases h3
            rfl) dst hu3
          exact this
    simp [execOp, key]
end
section
variable {P : Program} {TT : List TI} {K0 : List Nat} {F : Fr K0} {m : Nat} {ops : Array Oper} {rest : List Oper} {Q : List FP → St → Prop} {tm : List (Nat × AV)} {h : List (Nat × Ent)} {dr : Bool} {fs : List FP}
variable {ty : Nat} {pos : String} {after : Array Edge} {t : Nat}
theorem is_slc {T : Nat} {x : Operand} {lo hi mx : Option Operand} {st : St} (hk : OpsX P F m ops dr (⟨some t, .slice T x lo hi mx, ty, pos, after, none⟩ :: rest) st fs Q) : OpsX P F m ops dr (⟨some t, .slice T x lo hi mx, ty, pos, after, none⟩ :: rest) st fs Q := hk
theorem x_slcL (hP : TOK P TT) {T e : Nat} {x l : Operand} {ti te : TI} {nn : Bool} {xs ys : List AV} {k : IntKind} {i : Int} (hx : opv (look tm) x = .sl nn xs) (hl : opv (look tm) l = .s (.int k i)) (hT : TT[T]? = some ti) (hd : ti.d = .slice e) (he : TT[e]? = some te)
    (hsz : ∀ y, xs[0]? = some y → y.cells.length = te.size) (h0 : 0 ≤ i) (h1 : i ≤ xs.length) (hy : xs.drop i.toNat = ys) (hm : Nat.blt t m = true) (hk : OpsX P F m ops dr rest ⟨(t, .sl nn ys) :: tm, h⟩ (⟨true, [], []⟩ :: fs) Q) :
    OpsX P F m ops dr (⟨some t, .slice T x (some l) none none, ty, pos, after, none⟩ :: rest) ⟨tm, h⟩ fs Q := by
  have := stp_slice_sl (P := P) (st := ⟨tm, h⟩) (lo := some l) (hi := none) (l := i.toNat) (r := xs.length) hP hx hT hd he ⟨k, i, hl, by omega⟩ rfl (by omega) (Nat.le_refl _) hsz
  rw [show (xs.drop i.toNat).take (xs.length - i.toNat) = ys by rw [← hy]; exact List.take_of_length_le (by simp)] at this
  exact x_q this hm hk
theorem x_slcH (hP : TOK P TT) {T e : Nat} {x l : Operand} {ti te : TI} {nn : Bool} {xs ys : List AV} {k : IntKind} {i : Int} (hx : opv (look tm) x = .sl nn xs) (hl : opv (look tm) l = .s (.int k i)) (hT : TT[T]? = some ti) (hd : ti.d = .slice e) (he : TT[e]? = some te)
    (hsz : ∀ y, xs[0]? = some y → y.cells.length = te.size) (h0 : 0 ≤ i) (h1 : i ≤ xs.length) (hy : xs.take i.toNat = ys) (hm : Nat.blt t m = true) (hk : OpsX P F m ops dr rest ⟨(t, .sl nn ys) :: tm, h⟩ (⟨true, [], []⟩ :: fs) Q) :
    OpsX P F m ops dr (⟨some t, .slice T x none (some l) none, ty, pos, after, none⟩ :: rest) ⟨tm, h⟩ fs Q := by
  have := stp_slice_sl (P := P) (st := ⟨tm, h⟩) (lo := none) (hi := some l) (l := 0) (r := i.toNat) hP hx hT hd he rfl ⟨k, i, hl, by omega⟩ (by omega) (by omega) hsz
  rw [show (xs.drop 0).take (i.toNat - 0) = ys by rw [← hy]; rfl] at this
  exact x_q this hm hk
theorem x_slcLH (hP : TOK P TT) {T e : Nat} {x l l2 : Operand} {ti te : TI} {nn : Bool} {xs ys : List AV} {k k2 : IntKind} {i j : Int} (hx : opv (look tm) x = .sl nn xs) (hl : opv (look tm) l = .s (.int k i)) (hl2 : opv (look tm) l2 = .s (.int k2 j)) (hT : TT[T]? = some ti) (hd : ti.d = .slice e) (he : TT[e]? = some te)
    (hsz : ∀ y, xs[0]? = some y → y.cells.length = te.size) (h0 : 0 ≤ i) (h1 : i ≤ j) (h2 : j ≤ xs.length) (hy : (xs.drop i.toNat).take (j.toNat - i.toNat) = ys) (hm : Nat.blt t m = true) (hk : OpsX P F m ops dr rest ⟨(t, .sl nn ys) :: tm, h⟩ (⟨true, [], []⟩ :: fs) Q) :
    OpsX P F m ops dr (⟨some t, .slice T x (some l) (some l2) none, ty, pos, after, none⟩ :: rest) ⟨tm, h⟩ fs Q := by
  have := stp_slice_sl (P := P) (st := ⟨tm, h⟩) (lo := some l) (hi := some l2) (l := i.toNat) (r := j.toNat) hP hx hT hd he ⟨k, i, hl, by omega⟩ ⟨k2, j, hl2, by omega⟩ (by omega) (by omega) hsz
  rw [hy] at this
  exact x_q this hm hk
end
/-! ### Structs of numbers, the same or not -/
def iI (n : Int) : AV := .s (.int .i64 n)
def intFs (TT : List TI) : Nat → List (Nat × Nat) → Bool
  | _, [] => true
  | o, (p, t) :: r => Nat.beq p o && ((match TT[t]? with
    | some ti => (match ti.d with
      | .int .i64 => true
      | _ => false)
    | none => false) && intFs TT (o + 1) r)
theorem run_part1 {P : Program} {TT : List TI} (hP : TOK P TT) {t : Nat} {ti : TI} (ht : TT[t]? = some ti) (hk : ti.d = .int .i64) (w : World) {cs : Array Value} {off : Nat} {v : Value} (hv : cs[off]? = some v) : (part t cs off).run P w = .ok v w := by
  unfold part
  simp [run_agg (hP _ _ ht) w, hk, TD.agg, hv]
theorem run_eqFields {P : Program} {TT : List TI} (hP : TOK P TT) (d : Nat) (w : World) (xs ys : Array Value) : ∀ (fs : List Field) (o : Nat) (ms ns : List Int), intFs TT o (fs.map fun f => (f.offset, f.type)) = true → (fs.all fun f => f.name != "_") = true → ms.length = fs.length → ns.length = fs.length →
    (∀ i, i < ms.length → xs[o + i]? = some (.int .i64 (ms.getD i 0))) → (∀ i, i < ns.length → ys[o + i]? = some (.int .i64 (ns.getD i 0))) → (Op.eqFields (d + 1) xs ys fs).run P w = .ok (ms == ns) w
  | [], o, ms, ns, _, _, h1, h2, _, _ => by
    obtain rfl := List.eq_nil_of_length_eq_zero h1
    obtain rfl := List.eq_nil_of_length_eq_zero h2
    rfl
  | f :: fs, o, [], ns, _, _, h1, _, _, _ => by simp at h1
  | f :: fs, o, m :: ms, [], _, _, _, h2, _, _ => by simp at h2
  | f :: fs, o, m :: ms, n :: ns, hf, hn, h1, h2, hx, hy => by
    simp only [List.map_cons, intFs, Bool.and_eq_true] at hf
    simp only [List.all_cons, Bool.and_eq_true, bne_iff_ne, ne_eq] at hn
    obtain ⟨e1, e2, e3⟩ := hf
    have e1 := Nat.eq_of_beq_eq_true e1
    split at e2
    · rename_i ti hti
      split at e2
      · rename_i hd
        obtain ⟨_, u, _, _, hu, _, hdd, _⟩ := tiOf_some (hP _ _ hti)
        obtain rfl := td_int (hdd.symm.trans hd)
        have a1 := run_part1 (off := f.offset) hP hti hd w (cs := xs) (v := .int .i64 m) (by rw [e1]; have := hx 0 (by simp); simpa using this)
        have a2 := run_part1 (off := f.offset) hP hti hd w (cs := ys) (v := .int .i64 n) (by rw [e1]; have := hy 0 (by simp); simpa using this)
        have ih := run_eqFields hP d w xs ys fs (o + 1) ms ns e3 (by simpa using hn.2) (by simpa using h1) (by simpa using h2) (fun i hi => by have := hx (i + 1) (by simpa using hi); rw [show o + 1 + i = o + (i + 1) by omega]; simpa using this) (fun i hi => by have := hy (i + 1) (by simpa using hi); rw [show o + 1 + i = o + (i + 1) by omega]; simpa using this)
        have hne : f.name ≠ "_" := hn.1
        simp only [Op.eqFields, hne, ne_eq, not_false_eq_true, if_true, Sem.run_bind, a1, a2, Result.andThen_ok, run_equalIn_int w d f.type .i64 .i64 m n hu]
        by_cases hmn : m = n
        · subst hmn
          simp [ih]
        · simp [hmn]
      · cases e2
    · cases e2
theorem stp_eqS {P : Program} {TT : List TI} (hP : TOK P TT) {tm : List (Nat × AV)} {h : List (Nat × Ent)} {ty : Nat} {x y : Operand} {T : Nat} {ti : TI} {fl : List (Nat × Nat)} {ms ns : List Int} {op : BinOp} {v : Bool} (hx : opv (look tm) x = .agg (ms.map iI)) (hy : opv (look tm) y = .agg (ns.map iI)) (hT : TT[T]? = some ti) (hd : ti.d = .str fl) (hfl : intFs TT 0 fl = true)
    (hlm : Nat.beq ms.length fl.length = true) (hln : Nat.beq ns.length fl.length = true) (hst : P.stoodInHeld T = false) (hg : P.eqGuardType P.depth T = false) (hnm : ((P.fieldsOf T).toList.all fun f => f.name != "_") = true) (hop : op = .eql ∧ v = (ms == ns) ∨ op = .neq ∧ v = !(ms == ns)) :
    Stp P ⟨tm, h⟩ (.binOp op T x y ty) (.s (.bool v)) [] [] [] :=
  stp_val fun o X tm' hh w β a ho hgg _ HH Ht => by
    obtain ⟨dst', op', type, pos, after, guard⟩ := o
    dsimp only at ho; subst ho
    have h1 := arg Ht hgg (x := x) (by simp [Op.operands]) hx
    have h2 := arg Ht hgg (x := y) (by simp [Op.operands]) hy
    obtain ⟨_, u, _, _, hu, _, hdd, _⟩ := tiOf_some (hP _ _ hT)
    obtain ⟨f, rfl, hfe⟩ := td_str (hdd.symm.trans hd)
    have hfo : P.fieldsOf T = f := by unfold Program.fieldsOf; rw [hu]
    have hlm := Nat.eq_of_beq_eq_true hlm
    have hln := Nat.eq_of_beq_eq_true hln
    have hflen : fl.length = f.toList.length := by rw [← hfe]; simp
    have cells : ∀ (l : List Int) (c : Value), RepV w (Dom X β) hh β (.agg (l.map iI)) c → ∃ cs : Array Value, c = .agg cs ∧ ∀ i, i < l.length → cs[i]? = some (.int .i64 (l.getD i 0)) := fun l c hc => by
      have each : ∀ i, i < l.length → (l.map iI)[i]? = some (iI (l.getD i 0)) := fun i hi => by simp [List.getD, hi]
      cases hc with
      | fz _ _ hf =>
        cases hf with
        | agg _ cs hl _ hh2 =>
          refine ⟨cs, rfl, fun i hi => ?_⟩
          have := hh2 i _ (each i hi)
          have hi2 : i < cs.size := by rw [hl]; simpa using hi
          unfold iI at this
          have e : cs.getD i undef = cs[i] := by simp [Array.getD_eq_getD_getElem?, hi2]
          rw [e] at this
          rw [Array.getElem?_eq_getElem hi2]
          generalize cs[i] = c at this
          cases this
          rfl
      | agg _ cs hl _ hh2 =>
        refine ⟨cs, rfl, fun i hi => ?_⟩
        have := hh2 i _ (each i hi)
        have hi2 : i < cs.size := by rw [hl]; simpa using hi
        have e : cs.getD i undef = cs[i] := by simp [Array.getD_eq_getD_getElem?, hi2]
        rw [e] at this
        rw [Array.getElem?_eq_getElem hi2]
        unfold iI at this
        rw [this.s_inv]
    obtain ⟨cx, ex, hcx⟩ := cells ms _ h1
    obtain ⟨cy, ey, hcy⟩ := cells ns _ h2
    have hrun := run_eqFields hP 9998 w cx cy f.toList 0 ms ns (by rw [hfe]; exact hfl) (by rw [← hfo]; exact hnm) (by omega) (by omega) (fun i hi => by simpa using hcx i hi) (fun i hi => by simpa using hcy i hi)
    have heq : (Op.equalIn 10000 T (.agg cx) (.agg cy)).run P w = .ok (ms == ns) w := by
      rw [show (10000 : Nat) = 9999 + 1 from rfl, run_equalIn_agg w 9999 T cx cy (by rw [hfo]; exact hu) hst, hfo]
      exact hrun
    refine ⟨.bool v, ?_, .fz _ _ (.s _)⟩
    rcases hop with ⟨rfl, rfl⟩ | ⟨rfl, rfl⟩
    · simp [execOp, ex, ey, run_eqGuard_agg w _ T x y cx cy hg, run_eql_struct w T cx cy, heq]
    · simp [execOp, ex, ey, run_eqGuard_agg w _ T x y cx cy hg, run_neq_struct w T cx cy, heq]
end Av
end Go.Proofs.Ytjbldhhgooihfaa
