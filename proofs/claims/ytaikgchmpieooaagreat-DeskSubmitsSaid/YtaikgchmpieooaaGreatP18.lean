/- Part 18: contracts of the functions, and what they rest upon. -/
import Derived.Test.YtaikgchmpieooaaGreatP17
namespace Go.Proofs.YtaikgchmpieooaaGreat
namespace Av
set_option linter.unusedSimpArgs false
set_option linter.unusedVariables false
mutual
def Whole (k L : Nat) : AV → Prop
 | .ref j off len => j = k → off = 0 ∧ len = L
 | .ptr j _ _ => j ≠ k
 | .agg cs | .fn _ cs | .tup cs => WholeL k L cs
 | _ => True
def WholeL (k L : Nat) : List AV → Prop
 | [] => True
 | v :: r => Whole k L v ∧ WholeL k L r
end
def WholeT (k L : Nat) : List (Nat × AV) → Prop
 | [] => True
 | (_, v) :: r => Whole k L v ∧ WholeT k L r
def WholeH (k L : Nat) : List (Nat × Ent) → Prop
 | [] => True
 | (_, e) :: r => (match e with
  | .box cs => WholeL k L cs
  | .arr _ xs fl => fl.nest = false ∨ WholeL k L xs
  | .dead => True) ∧ WholeH k L r
theorem WholeL.at {k L : Nat} : ∀ {cs : List AV} {i : Nat} {v : AV}, WholeL k L cs → cs[i]? = some v → Whole k L v
 | [], _, _, _, h => by simp at h
 | x :: r, 0, v, hk, h => by simp at h; subst h; exact hk.1
 | x :: r, i + 1, v, hk, h => WholeL.at hk.2 (by simpa using h)
theorem WholeT.at {k L : Nat} : ∀ {tm : List (Nat × AV)}, WholeT k L tm → ∀ t, Whole k L (look tm t)
 | [], _, t => trivial
 | (j, v) :: r, h, t => by
  rw [look_cons]
  split
  ·exact h.1
  ·exact WholeT.at h.2 t
theorem WholeH.at {k L : Nat} : ∀ {h : List (Nat × Ent)} {j : Nat} {e : Ent}, WholeH k L h → lookE h j = some e → match e with
  | .box cs => WholeL k L cs
  | .arr _ xs fl => fl.nest = false ∨ WholeL k L xs
  | .dead => True
 | [], _, _, _, he => by simp [lookE] at he
 | (i, e0) :: r, j, e, h, he => by
  rw [lookE_cons] at he
  split at he
  ·cases he; exact h.1
  ·exact WholeH.at h.2 he
theorem Whole.cells {k L : Nat} {x : AV} (h : Whole k L x) : WholeL k L x.cells := by
 cases x <;> first
  | exact h
  | exact ⟨h, trivial⟩
theorem RepV.whole {w : World} {D D' : Nat → Prop} {h h' : Heap} {β β' : Map} (k L : Nat) (hD : ∀ b, D' b → D b) (hh : ∀ j, j ≠ k → h' j = h j) (hβ : ∀ j, j ≠ k → β' j = β j) (hw : ∀ c, RepV w D h β (.ref k 0 L) c → RepV w D' h' β' (.ref k 0 L) c) {v : AV} {c : Value} (hv : RepV w D h β v c) : Whole k L v → RepV w D' h' β' v c := by
 have key : ∀ {off len j c}, (j = k → off = 0 ∧ len = L) → RepV w D h β (.ref j off len) c → (j ≠ k → RepV w D' h' β' (.ref j off len) c) → RepV w D' h' β' (.ref j off len) c := fun {off len j c} h1 h2 h3 => by
  by_cases hj : j = k
  ·obtain ⟨rfl, rfl⟩ := h1 hj
   subst hj
   exact hw _ h2
  ·exact h3 hj
 induction hv with
 | fz v c hf => exact fun _ => .fz v c (hf.less hD)
 | agg cs c hl h1 hr ih => exact fun hk => .agg cs c hl h1 fun i v hv => ih i v hv (WholeL.at hk hv)
 | fn f caps c hl hr ih => exact fun hk => .fn f caps c hl fun i v hv => ih i v hv (WholeL.at hk hv)
 | tup vs c hl hr ih => exact fun hk => .tup vs c hl fun i v hv => ih i v hv (WholeL.at hk hv)
 | dref j off len c hk' h1 => exact fun hk => key hk (.dref j off len c hk' h1) fun hj => .dref j off len c (by rw [hh j hj]; exact hk') h1
 | dptr j i off c hk' h1 => exact fun hk => .dptr j i off c (by rw [hh j hk]; exact hk') h1
 | ref j off len sz xs st b n cap hk' hb hn hc hs => exact fun hk => key hk (.ref j off len sz xs st b n cap hk' hb hn hc hs) fun hj => .ref j off len sz xs st b n cap (by rw [hh j hj]; exact hk') (by rw [hβ j hj]; exact hb) hn hc hs
 | ref0 j off sz xs st a hk' hn => exact fun hk => key hk (.ref0 j off sz xs st a hk' hn) fun hj => .ref0 j off sz xs st a (by rw [hh j hj]; exact hk') hn
 | pbox j off cs b n hk' hb => exact fun hk => .pbox j off cs b n (by rw [hh j hk]; exact hk') (by rw [hβ j hk]; exact hb)
 | parr j i off sz xs st b n hk' hb hi ho => exact fun hk => .parr j i off sz xs st b n (by rw [hh j hk]; exact hk') (by rw [hβ j hk]; exact hb) hi ho
section
variable {P : Program} {K0 : List Nat} {F : Fr K0} {m : Nat} {tm : List (Nat × AV)} {h : List (Nat × Ent)}
theorem RelS.compactW {a : Act} {w : World} (R : RelS F m ⟨tm, h⟩ a w) (k : Nat) {sz : Nat} {xs : List AV} {sb : Bool} (hk : lookE h k = some (.arr sz xs ⟨sb, false⟩)) (hK0 : K0.contains k = false) (hwt : WholeT k xs.length tm) (hwh : WholeH k xs.length h) : RelS F m ⟨tm, (k, .arr sz xs false) :: h⟩ a w := by
 obtain ⟨⟨X, β, hX, H, Ht, KK, hJ, hD⟩, nd, gs, hl⟩ := R
 have hE := H.ent k _ hk
 obtain ⟨e1, e2, e3, e4, e5, f, e6, e7, e8⟩ := hE
 let β' : Map := fun j => if j = k then (β k).take 1 else β j
 have hsub : ∀ j b n, (b, n) ∈ β' j → (b, n) ∈ β j := fun j b n hm => by
  dsimp only [β'] at hm
  split at hm
  ·rename_i e; subst e; exact List.mem_of_mem_take hm
  ·exact hm
 have hDs : ∀ b, Dom X β' b → Dom X β b := fun b hd => hd.imp id fun ⟨j, n, hm⟩ => ⟨j, n, hsub j b n hm⟩
 have hh' : ∀ j, j ≠ k → lookE ((k, .arr sz xs false) :: h) j = lookE h j := fun j hj => by rw [lookE_cons, if_neg hj]
 have hhk : lookE ((k, .arr sz xs false) :: h) k = some (.arr sz xs false) := by rw [lookE_cons, if_pos rfl]
 have hβ' : ∀ j, j ≠ k → β' j = β j := fun j hj => by dsimp only [β']; rw [if_neg hj]
 have hβk : β' k = (β k).take 1 := by dsimp only [β']; rw [if_pos rfl]
 have whole : ∀ c, RepV w (Dom X β) (lookE h) β (.ref k 0 xs.length) c → RepV w (Dom X β') (lookE ((k, .arr sz xs false) :: h)) β' (.ref k 0 xs.length) c := fun c hc => by
  generalize hn : xs.length = n at hc
  cases hc with
  | fz _ _ hf => cases hf
  | dref _ _ _ _ hd _ => exact absurd hd (nd k)
  | ref _ _ _ sz' xs' st' b n' cap hk2 hb hn' hc' hs' =>
   rw [hk] at hk2
   cases hk2
   refine .ref k 0 n sz xs false b n' cap hhk ?_ hn' hc' hs'
   rw [hβk]
   cases hbk : β k with
   | nil => rw [hbk] at hb; simp at hb
   | cons p r =>
    rw [hbk] at hb
    obtain ⟨b0, n0⟩ := p
    obtain ⟨_, _, g3⟩ := e5 b0 n0 r hbk
    rcases List.mem_cons.1 hb with h1 | h1
    ·rw [h1]; simp
    ·exfalso
     have := g3 b n' h1
     omega
  | ref0 _ _ sz' xs' st' ad hk2 hn' => exact .ref0 k 0 sz xs false ad hhk (Nat.zero_le _)
 have lift : ∀ {v c}, Whole k xs.length v → RepV w (Dom X β) (lookE h) β v c → RepV w (Dom X β') (lookE ((k, .arr sz xs false) :: h)) β' v c := fun hw hv => hv.whole k xs.length hDs hh' hβ' whole hw
 have H' : HOK X (lookE ((k, .arr sz xs false) :: h)) β' w := by
  refine ⟨fun j e he => ?_, fun j hj => ?_, fun j j' b n n' h1 h2 => H.disj j j' b n n' (hsub _ _ _ h1) (hsub _ _ _ h2), fun j b n hm => H.free j b n (hsub _ _ _ hm), fun b hd => H.lt b (hDs b hd)⟩
  ·by_cases hj : j = k
   ·subst hj
    rw [hhk] at he
    cases he
    refine ⟨e1, e2, fun hx => ?_, e4, fun b n r hr => ?_, f, .ofF fun i x l v hx hv => (e6.toF rfl i x l v hx hv).less hDs, e7, fun b n hm => e8 b n (hsub _ _ _ hm)⟩
    ·rw [hβk]
     have := e3 hx
     cases hbk : β j with
     | nil => exact absurd hbk this
     | cons p r => simp
    ·rw [hβk] at hr
     cases hbk : β j with
     | nil => rw [hbk] at hr; simp at hr
     | cons p r' =>
      rw [hbk] at hr
      simp only [List.take_succ_cons, List.take_zero, List.cons.injEq] at hr
      obtain ⟨hp, hr⟩ := hr
      subst hr
      rw [hp] at hbk
      obtain ⟨g1, _, _⟩ := e5 b n r' hbk
      exact ⟨g1, fun _ b' n' hm => by simp at hm, fun b' n' hm => by simp at hm⟩
   ·rw [hh' j hj] at he
    have hE := H.ent j e he
    have hW := hwh.at he
    cases e with
    | dead => exact absurd he (nd j)
    | box cs =>
     obtain ⟨b, c, el, g1, g2, g3, g4, g5⟩ := hE
     exact ⟨b, c, el, by rw [hβ' j hj]; exact g1, g2, g3, g4, fun i v hv => lift (WholeL.at hW hv) (g5 i v hv)⟩
    | arr sz' xs' st' =>
     obtain ⟨g1, g2, g3, g4, g5, f', g6, g7, g8⟩ := hE
     refine ⟨g1, g2, by rw [hβ' j hj]; exact g3, g4, by rw [hβ' j hj]; exact g5, f', fun i x l v hx hv => ?_, g7, by rw [hβ' j hj]; exact g8⟩
     cases hn : st'.nest with
     | false => exact ⟨.fz _ _ ((g6.toF hn i x l v hx hv).less hDs), fun _ => (g6.toF hn i x l v hx hv).less hDs⟩
     | true =>
      have hW := hW.resolve_left (by rw [hn]; exact Bool.noConfusion)
      exact ⟨lift (WholeL.at (WholeL.at hW hx).cells hv) (g6.toV i x l v hx hv), fun h0 => by cases h0⟩
  ·rw [lookE_cons] at hj
   split at hj
   ·cases hj
   ·rename_i hne
    rw [hβ' j hne]
    exact H.off j hj
 have hkF : ∀ b n, (b, n) ∉ F.β0 k := fun b n hm => by
  have := F.hK k b n hm
  simp only [Bool.eq_false_iff] at hK0
  exact hK0 (by simpa using this)
 refine ⟨⟨X, β', hX, H', fun t => lift (hwt.at t) (Ht t), ⟨fun j e he => ?_, KK.size, KK.keep, fun j b n hm => KK.own j b n (hsub _ _ _ hm), fun j b n hm => ?_, KK.bs, KK.os, KK.tape, KK.output⟩, fun i hi => ?_, hD⟩, fun j => ?_, gs, hl⟩
 ·have hj : j ≠ k := fun e' => by
   subst e'
   have := F.hh j e he
   simp only [Bool.eq_false_iff] at hK0
   exact hK0 (by simpa using this)
  have := KK.knd j e he
  cases e with
  | dead => exact this
  | box cs => obtain ⟨cs', h2⟩ := this; exact ⟨cs', by dsimp only; rw [hh' j hj]; exact h2⟩
  | arr sz' xs' sl' => obtain ⟨xs2, sl2, h2, h3⟩ := this; exact ⟨xs2, sl2, by dsimp only; rw [hh' j hj]; exact h2, h3⟩
 ·have hj : j ≠ k := fun e' => by subst e'; exact hkF b n hm
  rw [hβ' j hj]
  exact KK.pas j b n hm
 ·refine F.Jst i _ X w w _ (hJ i hi) (Nat.le_refl _) (fun _ _ _ => rfl) (fun b hb => .inl ?_) (fun b hb => ?_) rfl rfl rfl
  ·obtain ⟨j, n, hm⟩ := hb; exact ⟨j, n, hsub j b n hm⟩
  ·obtain ⟨j, n, hm⟩ := hb; exact H.lt b (.inr ⟨j, n, hsub j b n hm⟩)
 ·dsimp only
  by_cases hj : j = k
  ·subst hj; rw [hhk]; intro hd; cases hd
  ·rw [hh' j hj]; exact nd j
theorem sim_whole {c : Code} {Q : Exit → St → Prop} (k : Nat) {sz : Nat} {xs : List AV} {sb : Bool} (hk : lookE h k = some (.arr sz xs ⟨sb, false⟩)) (hK0 : K0.contains k = false) (hwt : WholeT k xs.length tm) (hwh : WholeH k xs.length h) (hs : Sim P F m c ⟨tm, (k, .arr sz xs false) :: h⟩ Q) : Sim P F m c ⟨tm, h⟩ Q :=
 ⟨fun a w R => hs.run a w (R.compactW k hk hK0 hwt hwh)⟩
end
section
variable {P : Program} {TT : List TI} {K0 : List Nat} {F : Fr K0} {m : Nat} {ops : Array Oper} {dr : Bool} {rest : List Oper} {fs : List FP} {Q : List FP → St → Prop} {tm : List (Nat × AV)} {h : List (Nat × Ent)} {ty : Nat} {pos : String} {after : Array Edge} {t : Nat}
theorem x_bslN (k : Nat) (hP : TOK P TT) {T e len : Nat} {ps : Array (Nat × Operand)} {ti te : TI} {xs : List AV} (hT : TT[T]? = some ti) (hd : ti.d = .slice e) (he : TT[e]? = some te) (hp : Nat.ble 1 te.size = true) (hps : prts ⟨tm, h⟩ ps = (xs.zipIdx 0).map fun x => (x.2, x.1)) (hl : Nat.beq xs.length len = true)
  (hw : xs.all (fun x => Nat.beq x.cells.length te.size && x.ok) = true) (hb : Nat.ble (len * te.size) 65536 = true) (hzl : Nat.beq te.zero.length te.size = true) (hm : Nat.blt t m = true) (hnn : (lookE h k).isNone = true)
  {sz : Nat} (hse : te.size = sz) (hk : OpsX P F m ops dr rest ⟨(t, .ref k 0 len) :: tm, (k, .arr sz xs ⟨false, true⟩) :: h⟩ (⟨true, [k, k], []⟩ :: fs) Q) : OpsX P F m ops dr (⟨some t, .buildSlice T len ps, ty, pos, after, none⟩ :: rest) ⟨tm, h⟩ fs Q := by
 subst hse; exact x_w (nw := [k]) (stp_buildSliceN hP k hT hd he hp hps hl hw hb hzl) hm (all1 hnn) rfl hk
end
end Av
end Go.Proofs.YtaikgchmpieooaaGreat
