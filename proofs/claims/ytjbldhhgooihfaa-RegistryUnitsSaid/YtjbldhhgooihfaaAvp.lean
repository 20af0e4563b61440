/- Abstract values: nil as an array of one's own that is empty; more steps. -/
import Derived.Test.YtjbldhhgooihfaaAvo
namespace Go.Proofs.Ytjbldhhgooihfaa
namespace Av
set_option linter.unusedSimpArgs false
set_option linter.unusedVariables false

theorem goes_virt {X : Nat → Prop} {h : Heap} {β : Map} {w : World} (H : HOK X h β w) {K : Nat} (hK : h K = none) {sz : Nat} (hp : 1 ≤ sz) : Goes X w h β w (over [(K, .arr sz [] true)] h) (upd β K []) :=
  Goes.step H K _ _ (Nat.le_refl _) (fun _ _ _ => rfl) rfl rfl rfl (fun b n hm => by simp at hm) (fun _ _ _ => rfl) (fun e he => by rw [hK] at he; cases he) (fun E => ⟨hp, by simp, fun h => absurd rfl h, fun i y hy => by simp at hy,
    fun b n r hr => by rw [upd_same] at hr; simp at hr, fun _ _ => undef, fun i y j v hy _ => by simp at hy, fun i j hi _ => by simp at hi, fun b n hm => by rw [upd_same] at hm; simp at hm⟩)
theorem noDead_over {d : List (Nat × Ent)} {h : Heap} (hd : noDead d = true) (nd : ∀ k, h k ≠ some .dead) : ∀ k, over d h k ≠ some .dead := fun k => by
  unfold over
  split
  · rename_i e he
    intro h4
    cases h4
    exact noDead_at hd he
  · exact nd k
section
variable {P : Program} {K0 : List Nat} {F : Fr K0} {m : Nat} {tm : List (Nat × AV)} {h : List (Nat × Ent)}
theorem RelS.virt {a : Act} {w : World} (H : RelS F m ⟨tm, h⟩ a w) (t K sz : Nat) (hv : look tm t = .s (.slice none 0 0)) (hK : (lookE h K).isNone = true) (hp : Nat.ble 1 sz = true) : RelS F m ⟨(t, .ref K 0 0) :: tm, (K, .arr sz [] true) :: h⟩ a w := by
  obtain ⟨⟨X, β, hX, HH, Ht, KK, hJ, hD⟩, nd, gs, hl⟩ := H
  have hk : lookE h K = none := by simpa using hK
  have G := goes_virt HH hk (Nat.le_of_ble_eq_true hp)
  have nd' : ∀ k, over [(K, .arr sz [] true)] (lookE h) k ≠ some .dead := noDead_over rfl nd
  have R : Rel F m (look ((t, .ref K 0 0) :: tm)) (over [(K, .arr sz [] true)] (lookE h)) a w := by
    refine ⟨⟨X, _, hX, G.hok, fun j => ?_, KK.goes G nd' (G.lives HH nd'), fun i hi => ?_, hD.goes HH G⟩, nd', gs, hl⟩
    · rw [look_cons]
      split
      · rename_i hj
        subst hj
        have := Ht j
        rw [hv] at this
        rw [this.s_inv]
        exact .ref0 K 0 sz [] true none (over_same _ _ _) (Nat.le_refl _)
      · exact (Ht j).evo G.evo
    · rw [look_cons] at hi
      split at hi
      · cases hi
      · exact F.go G (hJ i hi)
  unfold RelS
  dsimp only
  rw [show lookE ((K, .arr sz [] true) :: h) = over [(K, .arr sz [] true)] (lookE h) from lookE_append [(K, .arr sz [] true)] h]
  exact R
theorem RelS.virtB {a : Act} {w : World} (H : RelS F m ⟨tm, h⟩ a w) (k i K sz : Nat) {cs : List AV} (hk : lookE h k = some (.box cs)) (hv : cs[i]? = some (.s (.slice none 0 0))) (hK : (lookE h K).isNone = true) (hp : Nat.ble 1 sz = true) : RelS F m ⟨tm, (k, .box (cs.set i (.ref K 0 0))) :: (K, .arr sz [] true) :: h⟩ a w := by
  obtain ⟨⟨X, β, hX, HH, Ht, KK, hJ, hD⟩, nd, gs, hl⟩ := H
  have hkn : lookE h K = none := by simpa using hK
  have G := goes_virt HH hkn (Nat.le_of_ble_eq_true hp)
  have nd' : ∀ k, over [(K, .arr sz [] true)] (lookE h) k ≠ some .dead := noDead_over rfl nd
  have hne : k ≠ K := fun e => by rw [e, hkn] at hk; cases hk
  have hk2 : over [(K, .arr sz [] true)] (lookE h) k = some (.box cs) := by rw [← lookE_append, List.singleton_append, lookE_cons, if_neg hne]; exact hk
  have H2 := G.hok
  have hβ : upd β K [] k = β k := by unfold upd; rw [if_neg hne]
  have G2 : Goes X w _ (upd β K []) w (over [(k, .box (cs.set i (.ref K 0 0)))] (over [(K, .arr sz [] true)] (lookE h))) (upd (upd β K []) k (upd β K [] k)) :=
    Goes.step H2 k (.box (cs.set i (.ref K 0 0))) (upd β K [] k) (Nat.le_refl _) (fun _ _ _ => rfl) rfl rfl rfl (fun b n hm => .inl ⟨n, hm⟩) (fun _ _ _ => rfl) (fun e he => by rw [hk2] at he; cases he; exact .inr ⟨⟨_, rfl⟩, fun b n hm => hm⟩) (fun E => by
      obtain ⟨b, c, el, h1, h2, h3, h4, h5⟩ := H2.ent k _ hk2
      refine ⟨b, c, el, by rw [upd_same]; exact h1, h2, by simpa using h3, h4, fun j v hj => ?_⟩
      rw [List.getElem?_set] at hj
      split at hj
      · rename_i hij
        subst hij
        split at hj
        · injection hj with hj
          subst hj
          have h6 := h5 i _ hv
          rw [h6.s_inv]
          refine .ref0 K 0 sz [] true none ?_ (Nat.le_refl _)
          rw [show over [(k, Ent.box (cs.set i (.ref K 0 0)))] (over [(K, .arr sz [] true)] (lookE h)) K = _ from by rw [← lookE_append, ← lookE_append, List.singleton_append, List.singleton_append, lookE_cons, if_neg (fun e => hne e.symm), lookE_cons, if_pos rfl]]
        · cases hj
      · exact (h5 j v hj).evo E)
  have nd2 := noDead_over (d := [(k, .box (cs.set i (.ref K 0 0)))]) rfl nd'
  have R : Rel F m (look tm) (over [(k, .box (cs.set i (.ref K 0 0)))] (over [(K, .arr sz [] true)] (lookE h))) a w :=
    ⟨⟨X, _, hX, G2.hok, fun j => ((Ht j).evo G.evo).evo G2.evo, (KK.goes G nd' (G.lives HH nd')).goes G2 nd2 (G2.lives H2 nd2), fun i hi => F.go G2 (F.go G (hJ i hi)), (hD.goes HH G).goes H2 G2⟩, nd2, gs, hl⟩
  unfold RelS
  dsimp only
  rw [show lookE ((k, .box (cs.set i (.ref K 0 0))) :: (K, .arr sz [] true) :: h) = over [(k, .box (cs.set i (.ref K 0 0)))] (over [(K, .arr sz [] true)] (lookE h)) from (lookE_append [(k, .box (cs.set i (.ref K 0 0)))] _).trans (congrArg (over _) (lookE_append [(K, .arr sz [] true)] h))]
  exact R
/-- nil in a slot, seen as an empty array of one's own under the new key K. -/
theorem sim_virt {c : Code} {Q : Exit → St → Prop} (t K sz : Nat) (hv : look tm t = .s (.slice none 0 0)) (hK : (lookE h K).isNone = true) (hp : Nat.ble 1 sz = true) (hk : Sim P F m c ⟨(t, .ref K 0 0) :: tm, (K, .arr sz [] true) :: h⟩ Q) : Sim P F m c ⟨tm, h⟩ Q := ⟨fun a w H => hk.run a w (H.virt t K sz hv hK hp)⟩
/-- nil in a cell of a box. -/
theorem sim_virtB {c : Code} {Q : Exit → St → Prop} (k i K sz : Nat) {cs cs' : List AV} (hb : lookE h k = some (.box cs)) (hv : cs[i]? = some (.s (.slice none 0 0))) (hK : (lookE h K).isNone = true) (hp : Nat.ble 1 sz = true) (hc : cs.set i (.ref K 0 0) = cs') (hk : Sim P F m c ⟨tm, (k, .box cs') :: (K, .arr sz [] true) :: h⟩ Q) :
    Sim P F m c ⟨tm, h⟩ Q := ⟨fun a w H => hk.run a w (hc ▸ H.virtB k i K sz hb hv hK hp)⟩
end
section
variable {P : Program} {TT : List TI} (hP : TOK P TT) {tm : List (Nat × AV)} {h : List (Nat × Ent)}
include hP in
theorem stp_indexAddr_r0 {T e : Nat} {x ix : Operand} {ti te : TI} {key len sz : Nat} {xs : List AV} {sl : Bool} {k : IntKind} {i : Int} (hx : opv (look tm) x = .ref key 0 len) (hi : opv (look tm) ix = .s (.int k i)) (hk : lookE h key = some (.arr sz xs sl)) (hT : TT[T]? = some ti) (hd : ti.d = .slice e) (he : TT[e]? = some te)
    (h0 : 0 ≤ i) (hl : i < len) (hs : Nat.beq sz te.size = true) : Stp P ⟨tm, h⟩ (.indexAddr T x ix) (.ptr key i.toNat 0) [] [key] [] := by
  have := stp_indexAddr_ref (st := ⟨tm, h⟩) hP hx hi hk hT hd he h0 hl hs
  rwa [Nat.zero_add] at this
end
section
variable {P : Program} {K0 : List Nat} {F : Fr K0} {m : Nat} {ops : Array Oper} {rest : List Oper} {Q : List FP → St → Prop} {dr : Bool} {fs : List FP}
variable {ty t : Nat} {pos : String} {after : Array Edge} {st : St}
theorem is_app {s x : Operand} {T T' : Nat} (hk : OpsX P F m ops dr (⟨some t, .call ⟨.builtin .append, #[s, x], #[T, T']⟩, ty, pos, after, none⟩ :: rest) st fs Q) : OpsX P F m ops dr (⟨some t, .call ⟨.builtin .append, #[s, x], #[T, T']⟩, ty, pos, after, none⟩ :: rest) st fs Q := hk
theorem is_fn (n : Nat) {as : Array Operand} {ts : Array Nat} (hk : OpsX P F m ops dr (⟨some t, .call ⟨.value (.func n), as, ts⟩, ty, pos, after, none⟩ :: rest) st fs Q) : OpsX P F m ops dr (⟨some t, .call ⟨.value (.func n), as, ts⟩, ty, pos, after, none⟩ :: rest) st fs Q := hk
theorem is_fn0 (n : Nat) {as : Array Operand} {ts : Array Nat} (hk : OpsX P F m ops dr (⟨none, .call ⟨.value (.func n), as, ts⟩, ty, pos, after, none⟩ :: rest) st fs Q) : OpsX P F m ops dr (⟨none, .call ⟨.value (.func n), as, ts⟩, ty, pos, after, none⟩ :: rest) st fs Q := hk
theorem is_conv {S D : Nat} {x : Operand} (hk : OpsX P F m ops dr (⟨some t, .convert S D x, ty, pos, after, none⟩ :: rest) st fs Q) : OpsX P F m ops dr (⟨some t, .convert S D x, ty, pos, after, none⟩ :: rest) st fs Q := hk
theorem is_un {op : UnOp} {x : Operand} {T : Nat} (hk : OpsX P F m ops dr (⟨some t, .unOp op T x, ty, pos, after, none⟩ :: rest) st fs Q) : OpsX P F m ops dr (⟨some t, .unOp op T x, ty, pos, after, none⟩ :: rest) st fs Q := hk
end
theorem stp_conv_in {P : Program} {TT : List TI} {tm : List (Nat × AV)} {h : List (Nat × Ent)} {src dst : Nat} {x : Operand} {k k' : IntKind} {n : Int} {ts td : TI} (hP : TOK P TT) (hs : TT[src]? = some ts) (hd : TT[dst]? = some td) (hk : td.d = .int k') (hx : opv (look tm) x = .s (.int k n)) (hr : InR k' n) :
    Stp P ⟨tm, h⟩ (.convert src dst x) (.s (.int k' n)) [] [] [] := by
  have := stp_conv (st := ⟨tm, h⟩) hP hs hd hk hx
  rwa [wrap_in hr] at this
end Av
end Go.Proofs.Ytjbldhhgooihfaa
