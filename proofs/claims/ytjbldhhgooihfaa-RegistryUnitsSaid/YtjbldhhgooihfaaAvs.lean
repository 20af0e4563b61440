/- Abstract values: literals that no one changes, appends to what is empty, elements stored, nil or not. -/
import Derived.Test.YtjbldhhgooihfaaAvr
namespace Go.Proofs.Ytjbldhhgooihfaa
namespace Av
set_option linter.unusedSimpArgs false
set_option linter.unusedVariables false

/-- The elements of a literal. -/
def litF (TT : List TI) (tm : List (Nat × AV)) : Op → Option (List AV)
  | .buildSlice T len ps => match TT[T]? with
    | some ti => match ti.d with
      | .slice e => match TT[e]? with
        | some te => bif rangeIs 0 (ps.toList.map (·.1)) && (Nat.beq ps.toList.length len && (Nat.ble 1 te.size && (Nat.ble (len * te.size) 65536 && Nat.beq te.zero.length te.size))) then
            frcL (ps.toList.map fun p => opv (look tm) p.2) fun xs => bif xs.all (fun x => Nat.beq x.cells.length te.size && (x.ok && x.nokey)) then some xs else none else none
        | none => none
      | _ => none
    | none => none
  | _ => none
section
variable {P : Program} {TT : List TI} (hP : TOK P TT) {tm : List (Nat × AV)} {h : List (Nat × Ent)}
include hP in
theorem litF_sound {op : Op} {xs : List AV} (he : litF TT tm op = some xs) : Stp P ⟨tm, h⟩ op (.sl true xs) [] [] [] := by
  unfold litF at he
  split at he
  · rename_i T len ps
    split at he
    · rename_i ti hT
      split at he
      · rename_i e hd
        split at he
        · rename_i te hte
          rw [frcL_eq] at he
          cases hc : (rangeIs 0 (ps.toList.map (·.1)) && (Nat.beq ps.toList.length len && (Nat.ble 1 te.size && (Nat.ble (len * te.size) 65536 && Nat.beq te.zero.length te.size)))) with
          | false => rw [hc] at he; cases he
          | true =>
            rw [hc] at he
            simp only [cond_true] at he
            generalize hxs : (ps.toList.map fun p => opv (look tm) p.2) = ys at he
            cases hw : ys.all (fun x => Nat.beq x.cells.length te.size && (x.ok && x.nokey)) with
            | false => simp [hw] at he
            | true =>
              simp only [hw, cond_true, Option.some.injEq] at he
              subst he
              simp only [Bool.and_eq_true] at hc
              obtain ⟨c1, c2, c3, c4, c5⟩ := hc
              refine stp_buildSliceF hP hT hd hte c3 ?_ (by rw [← hxs]; simpa using c2) hw c4 c5
              rw [← hxs]
              apply List.ext_getElem?
              intro j
              simp only [prts, List.getElem?_map, List.getElem?_zipIdx, Nat.zero_add]
              cases hj : ps.toList[j]? with
              | none => simp
              | some p =>
                have := rangeIs_eq _ 0 c1 j p.1 (by simp [hj])
                simp [this]
        · cases he
      · cases he
    · cases he
  · cases he
end
/-- A frozen slice may be nil. -/
theorem Stp.wkS {P : Program} {st : St} {op : Op} {xs : List AV} {d : List (Nat × Ent)} {r nw : List Nat} (hs : Stp P st op (.sl true xs) d r nw) : Stp P st op (.sl false xs) d r nw :=
  ⟨fun X tm h h1 h2 h3 o a w β ho HH Ht => by
    have := hs.run X tm h h1 h2 h3 o a w β ho HH Ht
    unfold OpDone at this ⊢
    split at this
    · obtain ⟨β', G, hv⟩ := this; exact ⟨β', G, hv.wk⟩
    · obtain ⟨β', G, hv⟩ := this; exact ⟨β', G, hv.wk⟩
    · exact this.mono fun e w' ⟨c, he, β', G, hv⟩ => ⟨c, he, β', G, hv.wk⟩
    · exact this.elim⟩
/-- An element with some of its cells set, laid open. -/
def putF (y : AV) (off : Nat) (cs : List AV) : Option AV := match y with
  | .agg ds => frcL (setL ds off cs) fun l => some (.agg l)
  | _ => match cs with
    | [v] => frc v some
    | _ => none
theorem putF_eq {y : AV} {off : Nat} {cs : List AV} {v : AV} (h : putF y off cs = some v) : putc y off cs = v := by
  unfold putF at h
  unfold putc
  cases y <;> first
    | (dsimp only at h ⊢; rw [frcL_eq] at h; exact Option.some.inj h)
    | (dsimp only at h ⊢
       split at h
       · rw [frc_eq] at h; exact Option.some.inj h
       · cases h)
section
variable {P : Program} {TT : List TI} {K0 : List Nat} {F : Fr K0} {m : Nat} {ops : Array Oper} {rest : List Oper} {Q : List FP → St → Prop} {tm : List (Nat × AV)} {h : List (Nat × Ent)} {dr : Bool} {fs : List FP}
variable {ty : Nat} {pos : String} {after : Array Edge} {t : Nat}
theorem is_bsl {T len : Nat} {ps : Array (Nat × Operand)} {st : St} (hk : OpsX P F m ops dr (⟨some t, .buildSlice T len ps, ty, pos, after, none⟩ :: rest) st fs Q) : OpsX P F m ops dr (⟨some t, .buildSlice T len ps, ty, pos, after, none⟩ :: rest) st fs Q := hk
theorem is_mks {T : Nat} {x y : Operand} {st : St} (hk : OpsX P F m ops dr (⟨some t, .makeSlice T x y, ty, pos, after, none⟩ :: rest) st fs Q) : OpsX P F m ops dr (⟨some t, .makeSlice T x y, ty, pos, after, none⟩ :: rest) st fs Q := hk
theorem is_cv {x : Nat} {as : Array Operand} {ts : Array Nat} {st : St} (hk : OpsX P F m ops dr (⟨some t, .call ⟨.value (.tmp x), as, ts⟩, ty, pos, after, none⟩ :: rest) st fs Q) : OpsX P F m ops dr (⟨some t, .call ⟨.value (.tmp x), as, ts⟩, ty, pos, after, none⟩ :: rest) st fs Q := hk
theorem x_lit (hP : TOK P TT) {op : Op} {xs : List AV} (he : litF TT tm op = some xs) (hm : Nat.blt t m = true) (hk : OpsX P F m ops dr rest ⟨(t, .sl false xs) :: tm, h⟩ (⟨true, [], []⟩ :: fs) Q) :
    OpsX P F m ops dr (⟨some t, op, ty, pos, after, none⟩ :: rest) ⟨tm, h⟩ fs Q := x_q (litF_sound hP he).wkS hm hk
theorem x_appnilF (hP : TOK P TT) {T e : Nat} {s x : Operand} {ti te : TI} {xv : AV} {ys : List AV} (hs : opv (look tm) s = .s (.slice none 0 0)) (hx : opv (look tm) x = xv) (hT : TT[T]? = some ti) (hd : ti.d = .slice e) (he : TT[e]? = some te)
    (hys : els (lookE h) xv = some ys) (hsz : ∀ y, ys[0]? = some y → y.cells.length = te.size) (hp : Nat.ble 1 te.size = true) (hb : Nat.ble te.bytes 65536 = true) (hz : Nat.beq te.zero.length te.size = true) (hn : ys.length ≤ 1073741824) (hm : Nat.blt t m = true)
    (hk : OpsX P F m ops dr rest ⟨(t, .sl false ys) :: tm, h⟩ (⟨true, [], elk xv⟩ :: fs) Q) : OpsX P F m ops dr (⟨some t, .call ⟨.builtin .append, #[s, x], #[T, T]⟩, ty, pos, after, none⟩ :: rest) ⟨tm, h⟩ fs Q :=
  x_q (stp_append_nilF hP hs hx hT hd he hys hsz hp hb hz hn) hm hk
/-- append to nil: an array of one's own under the key kn. -/
theorem x_appnilK (kn : Nat) (hP : TOK P TT) {T e : Nat} {s x : Operand} {ti te : TI} {xv : AV} {ys : List AV} (hs : opv (look tm) s = .s (.slice none 0 0)) (hx : opv (look tm) x = xv) (hT : TT[T]? = some ti) (hd : ti.d = .slice e) (he : TT[e]? = some te)
    (hys : els (lookE h) xv = some ys) (hsz : ∀ y, ys[0]? = some y → y.cells.length = te.size) (hp : Nat.ble 1 te.size = true) (hb : Nat.ble te.bytes 65536 = true) (hz : Nat.beq te.zero.length te.size = true) (hn : ys.length ≤ 1073741824) (hm : Nat.blt t m = true) (hnn : (lookE h kn).isNone = true)
    {sz : Nat} (hse : te.size = sz) (hk : OpsX P F m ops dr rest ⟨(t, .ref kn 0 ys.length) :: tm, (kn, .arr sz ys false) :: h⟩ (⟨true, [kn, kn], elk xv⟩ :: fs) Q) : OpsX P F m ops dr (⟨some t, .call ⟨.builtin .append, #[s, x], #[T, T]⟩, ty, pos, after, none⟩ :: rest) ⟨tm, h⟩ fs Q := by
  subst hse; exact x_w (nw := [kn]) (stp_append_nil hP kn hs hx hT hd he hys hsz hp hb hz hn) hm (all1 hnn) rfl hk
/-- append to an array of one's own in which nothing is yet. -/
theorem x_appref0 (hP : TOK P TT) {T e : Nat} {s x : Operand} {ti te : TI} {k sz : Nat} {sl : Bool} {xv : AV} {ys : List AV} (hs : opv (look tm) s = .ref k 0 0) (hk : lookE h k = some (.arr sz [] sl)) (hx : opv (look tm) x = xv) (hT : TT[T]? = some ti) (hd : ti.d = .slice e) (he : TT[e]? = some te)
    (hys : els (lookE h) xv = some ys) (hsz : ∀ y, ys[0]? = some y → y.cells.length = sz) (hss : Nat.beq sz te.size = true) (hb : Nat.ble te.bytes 65536 = true) (hz : Nat.beq te.zero.length te.size = true) (hn : ys.length ≤ 1073741824) (hm : Nat.blt t m = true)
    (hq : OpsX P F m ops dr rest ⟨(t, .ref k 0 ys.length) :: tm, (k, .arr sz ys false) :: h⟩ (⟨true, [k], k :: elk xv⟩ :: fs) Q) : OpsX P F m ops dr (⟨some t, .call ⟨.builtin .append, #[s, x], #[T, T]⟩, ty, pos, after, none⟩ :: rest) ⟨tm, h⟩ fs Q :=
  x_w (nw := []) (stp_append_refS (xs := []) false hP hs hk hx hT hd he hys hsz hss hb hz (by simpa using hn) (fun _ => rfl)) hm rfl rfl hq
/-- A part of an element of an array of one's own is stored. -/
theorem x_sto1 (hP : TOK P TT) {T : Nat} {p x : Operand} {k i off sz : Nat} {xs : List AV} {y v y' : AV} {ti : TI} (hp : opv (look tm) p = .ptr k i off) (hx : opv (look tm) x = v) (hk : lookE h k = some (.arr sz xs false)) (hy : xs[i]? = some y) (hT : TT[T]? = some ti)
    (h1 : v.ok = true) (h2 : Nat.beq v.cells.length ti.size = true) (h3 : Nat.ble (off + ti.size) y.cells.length = true) (h4 : v.nokey = true) (h5 : Nat.ble 1 ti.size = true) (h6 : v.cells.all (fun v => !v.isAgg) = true) (he : putF y off v.cells = some y')
    (hq : OpsX P F m ops dr rest ⟨tm, (k, .arr sz (xs.set i y') false) :: h⟩ (⟨true, [k], [k]⟩ :: fs) Q) : OpsX P F m ops dr (⟨none, .store T p x, ty, pos, after, none⟩ :: rest) ⟨tm, h⟩ fs Q := by
  have hs := stp_store_arr (st := ⟨tm, h⟩) hP hp hx hk hy hT h1 h2 h3 h4 h5 h6
  rw [putF_eq he] at hs
  exact x_s (nw := []) hs rfl rfl hq
/-- A whole element is stored. -/
theorem x_stoa (hP : TOK P TT) {T : Nat} {p x : Operand} {k i sz : Nat} {xs ds cs : List AV} {ti : TI} (hp : opv (look tm) p = .ptr k i 0) (hx : opv (look tm) x = .agg cs) (hk : lookE h k = some (.arr sz xs false)) (hy : xs[i]? = some (.agg ds)) (hT : TT[T]? = some ti)
    (h2 : Nat.beq cs.length ti.size = true) (h3 : Nat.beq ti.size ds.length = true) (h4 : (AV.agg cs).nokey = true) (h5 : Nat.ble 1 ti.size = true) (h6 : cs.all (fun v => !v.isAgg) = true)
    (hq : OpsX P F m ops dr rest ⟨tm, (k, .arr sz (xs.set i (.agg cs)) false) :: h⟩ (⟨true, [k], [k]⟩ :: fs) Q) : OpsX P F m ops dr (⟨none, .store T p x, ty, pos, after, none⟩ :: rest) ⟨tm, h⟩ fs Q := by
  have e2 := Nat.eq_of_beq_eq_true h2
  have e3 := Nat.eq_of_beq_eq_true h3
  have hs := stp_store_arr (st := ⟨tm, h⟩) hP hp hx hk hy hT rfl (by simpa [AV.cells] using h2) (Nat.ble_eq_true_of_le (by simp [AV.cells]; omega)) h4 h5 h6
  have : putc (.agg ds) 0 (AV.agg cs).cells = .agg cs := by
    unfold putc AV.cells
    dsimp only
    congr 1
    apply List.ext_getElem?
    intro j
    rw [setL_at _ _ _ _ (by omega)]
    split
    · rfl
    · rw [List.getElem?_eq_none (by omega), List.getElem?_eq_none (by omega)]
  rw [this] at hs
  exact x_s (nw := []) hs rfl rfl hq
theorem RelS.nsplit {a : Act} {w : World} (H : RelS F m ⟨tm, h⟩ a w) {t : Nat} {xs : List AV} (hv : look tm t = .sl false xs) : (∃ cap, xs = [] ∧ RelS F m ⟨(t, .s (.slice none 0 cap)) :: tm, h⟩ a w) ∨ RelS F m ⟨(t, .sl true xs) :: tm, h⟩ a w := by
  obtain ⟨⟨X, β, hX, HH, Ht, KK, hJ, hD⟩, nd, gs, hl⟩ := H
  have key : ∀ v, (∀ i, v ≠ .gh i) → RepV w (Dom X β) (lookE h) β v (a.eval (.tmp t)) → RelS F m ⟨(t, v) :: tm, h⟩ a w := fun v hg hv => by
    refine ⟨⟨X, β, hX, HH, fun j => ?_, KK, fun i hi => ?_, hD⟩, nd, gs, hl⟩
    · rw [look_cons]
      split
      · rename_i hj; subst hj; exact hv
      · exact Ht j
    · rw [look_cons] at hi
      split at hi
      · exact absurd hi (hg i)
      · exact hJ i hi
  have h0 := Ht t
  dsimp only at h0
  rw [hv] at h0
  generalize hc : a.eval (.tmp t) = c at *
  cases h0 with
  | fz _ _ hf =>
    cases hf with
    | nil b cap =>
      cases b with
      | none => exact .inl ⟨cap, rfl, key _ (fun _ h => by cases h) (.fz _ _ (.s _))⟩
      | some b => exact .inr (key _ (fun _ h => by cases h) (.fz _ _ (.nil1 b cap)))
    | sl _ _ b o sz cap f hx hL hcc hh => exact .inr (key _ (fun _ h => by cases h) (.fz _ _ (.sl true _ b o sz cap f hx hL hcc hh)))
theorem sim_nsplit {c : Code} {Q : Exit → St → Prop} (t : Nat) {xs : List AV} (hv : look tm t = .sl false xs) (h1 : ∀ cap, xs = [] → Sim P F m c ⟨(t, .s (.slice none 0 cap)) :: tm, h⟩ Q) (h2 : Sim P F m c ⟨(t, .sl true xs) :: tm, h⟩ Q) : Sim P F m c ⟨tm, h⟩ Q :=
  ⟨fun a w H => by
    rcases H.nsplit hv with ⟨cap, hx, H1⟩ | H2
    · exact (h1 cap hx).run a w H1
    · exact h2.run a w H2⟩
theorem x_nsplit {l : List Oper} (t : Nat) {xs : List AV} (hv : look tm t = .sl false xs) (h1 : ∀ cap, xs = [] → OpsX P F m ops false l ⟨(t, .s (.slice none 0 cap)) :: tm, h⟩ fs Q) (h2 : OpsX P F m ops false l ⟨(t, .sl true xs) :: tm, h⟩ fs Q) : OpsX P F m ops false l ⟨tm, h⟩ fs Q :=
  ⟨fun a w H => by
    rcases H.nsplit hv with ⟨cap, hx, H1⟩ | H2
    · exact (h1 cap hx).run a w H1
    · exact h2.run a w H2⟩
end
section
variable {P : Program} {K0 : List Nat} {F : Fr K0} {m : Nat} {tm : List (Nat × AV)} {h : List (Nat × Ent)}
theorem goes_virtF {X : Nat → Prop} {h : Heap} {β : Map} {w : World} (H : HOK X h β w) {K : Nat} (hK : h K = none) {sz : Nat} (hp : 1 ≤ sz) : Goes X w h β w (over [(K, .arr sz [] false)] h) (upd β K []) :=
  Goes.step H K _ _ (Nat.le_refl _) (fun _ _ _ => rfl) rfl rfl rfl (fun b n hm => by simp at hm) (fun _ _ _ => rfl) (fun e he => by rw [hK] at he; cases he) (fun E => ⟨hp, by simp, fun h => absurd rfl h, fun i y hy => by simp at hy,
    fun b n r hr => by rw [upd_same] at hr; simp at hr, fun _ _ => undef, fun i y j v hy _ => by simp at hy, fun i j hi _ => by simp at hi, fun b n hm => by rw [upd_same] at hm; simp at hm⟩)
theorem RelS.virtF {a : Act} {w : World} (H : RelS F m ⟨tm, h⟩ a w) (t K sz : Nat) {cap : Nat} (hv : look tm t = .s (.slice none 0 0)) (hK : (lookE h K).isNone = true) (hp : Nat.ble 1 sz = true) : RelS F m ⟨(t, .ref K 0 0) :: tm, (K, .arr sz [] false) :: h⟩ a w := by
  obtain ⟨⟨X, β, hX, HH, Ht, KK, hJ, hD⟩, nd, gs, hl⟩ := H
  have hk : lookE h K = none := by simpa using hK
  have G := goes_virtF HH hk (Nat.le_of_ble_eq_true hp)
  have nd' : ∀ k, over [(K, .arr sz [] false)] (lookE h) k ≠ some .dead := noDead_over rfl nd
  have R : Rel F m (look ((t, .ref K 0 0) :: tm)) (over [(K, .arr sz [] false)] (lookE h)) a w := by
    refine ⟨⟨X, _, hX, G.hok, fun j => ?_, KK.goes G nd' (G.lives HH nd'), fun i hi => ?_, hD.goes HH G⟩, nd', gs, hl⟩
    · rw [look_cons]
      split
      · rename_i hj
        subst hj
        have := Ht j
        rw [hv] at this
        rw [this.s_inv]
        exact .ref0 K 0 sz [] false none (over_same _ _ _) (Nat.le_refl _)
      · exact (Ht j).evo G.evo
    · rw [look_cons] at hi
      split at hi
      · cases hi
      · exact F.go G (hJ i hi)
  unfold RelS
  dsimp only
  rw [show lookE ((K, .arr sz [] false) :: h) = over [(K, .arr sz [] false)] (lookE h) from lookE_append [(K, .arr sz [] false)] h]
  exact R
/-- nil in a slot, seen as an empty array of one's own under the new key K, in which elements can be stored. -/
theorem sim_virtF {c : Code} {Q : Exit → St → Prop} (t K sz : Nat) (hv : look tm t = .s (.slice none 0 0)) (hK : (lookE h K).isNone = true) (hp : Nat.ble 1 sz = true) (hk : Sim P F m c ⟨(t, .ref K 0 0) :: tm, (K, .arr sz [] false) :: h⟩ Q) : Sim P F m c ⟨tm, h⟩ Q :=
  ⟨fun a w H => hk.run a w (H.virtF (cap := 0) t K sz hv hK hp)⟩
end
end Av
end Go.Proofs.Ytjbldhhgooihfaa
