/- Abstract values: iterators: what calls of yield come to. -/
import Derived.Test.YtjbldhhgooihfaaAvs
import Derived.RangeFuncIn
import Derived.RangeFuncSeq
import Derived.RangeFuncLeaves
namespace Go.Proofs.Ytjbldhhgooihfaa
namespace Av
set_option linter.unusedSimpArgs false
set_option linter.unusedVariables false

/-- What a round makes of the world, as the iterator sees it: what others keep may turn, and they may keep new blocks. -/
structure Quiet (X X' : Nat → Prop) (W W' : World) : Prop where
  size : W.heap.size ≤ W'.heap.size
  fz : ∀ b, b < W.heap.size → ¬ X b → W'.heap[b]? = W.heap[b]? ∧ ¬ X' b
  sup : ∀ b, X b → X' b
  lt : ∀ b, X' b → b < W'.heap.size
  os : W'.os = W.os
  tape : W'.tape = W.tape
  output : W'.output = W.output
/-- What the loop promises: each call of yield with what comes next is a round; it says whether more is wanted. -/
def YOK {K0 : List Nat} (P : Program) (F : Fr K0) (l : Nat) (xs : List (List AV)) : Prop :=
  ∀ (i : Nat) (ys : List AV) (X O : Nat → Prop) (W : World) (cs : Array Value), xs[i]? = some ys → F.J i O X W → cs.size = ys.length → (∀ (j : Nat) v, ys[j]? = some v → RepF W (fun b => X b ∨ O b) v (cs.getD j undef)) →
    YieldAt Fence.wide 0 P l cs W fun e W' => (e = .returned (.bool true) ∧ ∃ X', Quiet X X' W W' ∧ F.J (i + 1) O X' W') ∨ (e = .returned (.bool false) ∧ ∃ X', Quiet X X' W W' ∧ F.J (xs.length + 1 + i) O X' W')
section
variable {X X' : Nat → Prop} {W W' : World} {h : Heap} {β : Map}
theorem Quiet.evo (H : HOK X h β W) (q : Quiet X X' W W') : Evo W (Dom X β) h β W' (Dom X' β) h β :=
  ⟨q.size, fun b hb hd => ⟨(q.fz b hb fun hx => hd (.inl hx)).1, fun h' => h'.elim (q.fz b hb fun hx => hd (.inl hx)).2 fun ho => hd (.inr ho)⟩, fun k b n hm => by
    unfold bsize World.shape?
    rw [(q.fz b (H.lt b (.inr ⟨k, n, hm⟩)) (H.free k b n hm)).1], keyRefl h β⟩
theorem Quiet.hok (H : HOK X h β W) (q : Quiet X X' W W') : HOK X' h β W' :=
  ⟨fun k e he => (H.ent k e he).evo (q.evo H) rfl fun b n hm => (q.fz b (H.lt b (.inr ⟨k, n, hm⟩)) (H.free k b n hm)).1, H.off, H.disj, fun k b n hm => (q.fz b (H.lt b (.inr ⟨k, n, hm⟩)) (H.free k b n hm)).2,
    fun b hd => hd.elim (q.lt b) fun ho => Nat.lt_of_lt_of_le (H.lt b (.inr ho)) q.size⟩
end
section
variable {P : Program} {K0 : List Nat} {F : Fr K0} {m : Nat} {ops : Array Oper} {rest : List Oper} {tm : List (Nat × AV)} {h : List (Nat × Ent)}
theorem Rel.quiet {X X' : Nat → Prop} {β : Map} {hh : Heap} {t : Nat → AV} {a : Act} {W W' : World} {j : Nat} (hit : F.it = true) (hV : ∀ b, F.X b → F.V b) (hX : XOK F X) (H : HOK X hh β W) (Ht : ∀ s, RepV W (Dom X β) hh β (t s) (a.eval (.tmp s))) (KK : Keep F hh β W) (hD : DOK X F a.defers W) (nd : ∀ k, hh k ≠ some .dead) (gs : m ≤ GS) (hl : a.tmps.size = m)
    (q : Quiet X X' W W') (hj : F.J j (Own β) X' W') (d : Nat) (hd : d < m) (b : Bool) : Rel F m (fun s => if s = GS then .gh j else if s = d then .s (.bool b) else t s) hh (a.put (some d) (.bool b)) W' := by
  have E := q.evo H
  refine ⟨⟨X', β, ⟨fun c hc => q.sup c (hX.1 c hc), fun c hc => ?_⟩, q.hok H, fun s => ?_, ?_, fun i hi => ?_, ?_⟩, nd, gs, by simp [Act.put, hl]⟩
  · by_cases hb : c < W.heap.size
    · by_cases hxc : X c
      · exact hX.2 c hxc
      · exact absurd hc (q.fz c hb hxc).2
    · exact .inr (Nat.le_trans KK.size (Nat.le_of_not_lt hb))
  · split
    · exact .fz _ _ (.gh _ _)
    · split
      · rename_i hs; subst hs
        have : s < a.tmps.size := by rw [hl]; exact hd
        have e : (a.put (some s) (.bool b)).eval (.tmp s) = .bool b := by simp [Act.put, Act.eval, this]
        rw [e]; exact .fz _ _ (.s _)
      · rename_i hs
        rw [Act.eval_put (fun d' hd' e => hs (by cases hd'; injection e with e))]
        exact (Ht s).evo E
  · exact ⟨KK.knd, Nat.le_trans KK.size q.size, fun c hc hi hn => by
      have h1 : ¬ X c := fun hx => (hX.2 c hx).elim (fun h => hi (hV c h)) fun h => by omega
      rw [(q.fz c (Nat.lt_of_lt_of_le hc KK.size) h1).1]
      exact KK.keep c hc hi hn, KK.own, KK.pas, fun k c n hm => by
      obtain ⟨n', _, hm'⟩ := KK.pas k c n hm
      rw [E.bs k c n' hm', KK.bs k c n hm], q.os.trans KK.os, q.tape.trans KK.tape, q.output.trans KK.output⟩
  · simp only [if_pos rfl] at hi
    cases hi
    exact hj
  · obtain ⟨bs, h1, h0, h2, h3⟩ := hD
    have := h0 hit
    subst this
    exact ⟨[], h1, fun _ => rfl, h2, fun b hb => by simp at hb⟩
/-- A call of yield. -/
theorem ops_yield {xs : List (List AV)} {ys : List AV} {l i y t ty : Nat} {as : Array Operand} {ats : Array Nat} {pos : String} {after : Array Edge} {Q : St → Prop} (hit : F.it = true ∧ ∀ b, F.X b → F.V b) (hY : YOK P F l xs) (hy : look tm y = .s (.func (.yield l) #[] #[])) (hg : look tm GS = .gh i) (hxs : xs[i]? = some ys)
    (hvs : as.toList.map (opv (look tm)) = ys) (hnk : nokeys ys = true) (hm : Nat.blt t m = true)
    (h1 : Ops P F m ops rest ⟨(GS, .gh (i + 1)) :: (t, .s (.bool true)) :: tm, h⟩ Q) (h2 : Ops P F m ops rest ⟨(GS, .gh (xs.length + 1 + i)) :: (t, .s (.bool false)) :: tm, h⟩ Q) :
    Ops P F m ops (⟨some t, .call ⟨.value (.tmp y), as, ats⟩, ty, pos, after, none⟩ :: rest) ⟨tm, h⟩ Q := fun a w H => by
  obtain ⟨⟨X, β, hX, HH, Ht, KK, hJ, hD⟩, nd, gs, hl⟩ := H
  have hj := hJ i hg
  have hyv : a.eval (.tmp y) = .func (.yield l) #[] #[] := by
    have := Ht y
    dsimp only at this
    rw [hy] at this
    exact this.s_inv
  have hlen : as.toList.length = ys.length := by rw [← hvs]; simp
  obtain ⟨fn, tmps, assign, body, hrun, hround⟩ := hY i ys X (Own β) w (as.map a.eval) hxs hj (by simpa using hlen) (fun j v hv => by
    rw [← hvs, List.getElem?_map, Option.map_eq_some_iff] at hv
    obtain ⟨x, hx, rfl⟩ := hv
    have hx' : as[j]? = some x := by simpa using hx
    have e : (as.map a.eval).getD j undef = a.eval x := by simp [Array.getD_eq_getD_getElem?, hx']
    rw [e]
    have hv2 : (ys[j]?) = some (opv (look tm) x) := by rw [← hvs]; simp [hx]
    exact (opv_rep Ht x).toF (nokeys_at hnk hv2))
  refine wpListIn_plain rfl fun K hK => ⟨fun _ _ => trivial, ?_⟩
  have he : ((⟨some t, .call ⟨.value (.tmp y), as, ats⟩, ty, pos, after, none⟩ : Oper).semAt (fen F.ro).round a.eval).run P w = .ok (.round l fn tmps assign body) w := by
    rw [Oper.semAt_eq _ _ _ (fun c hc => by cases hc)]
    rw [← hrun]
    simp [execOp, resolve, hyv, Deferred.ofValue, invoke]
  rw [he]
  refine ⟨fun hx => by simp [fen, Fence.wide] at hx, ?_⟩
  refine RoundIn.mono (F := Fence.wide) hround ?_
  rintro e W' (⟨rfl, X', q, hj'⟩ | ⟨rfl, X', q, hj'⟩)
  · refine hK _ _ (h1 _ _ ?_)
    have R := Rel.quiet hit.1 hit.2 hX HH Ht KK hD nd gs hl q hj' t (Nat.le_of_ble_eq_true hm) true
    unfold RelS
    refine R.congr (fun s => ?_) (fun _ => rfl)
    rw [look_cons, look_cons]
  · refine hK _ _ (h2 _ _ ?_)
    have R := Rel.quiet hit.1 hit.2 hX HH Ht KK hD nd gs hl q hj' t (Nat.le_of_ble_eq_true hm) false
    unfold RelS
    refine R.congr (fun s => ?_) (fun _ => rfl)
    rw [look_cons, look_cons]
theorem x_yield {xs : List (List AV)} {ys : List AV} {l i y t ty : Nat} {as : Array Operand} {ats : Array Nat} {pos : String} {after : Array Edge} {fs : List FP} {Q : List FP → St → Prop} (hit : F.it = true ∧ ∀ b, F.X b → F.V b) (hY : YOK P F l xs) (hy : look tm y = .s (.func (.yield l) #[] #[])) (hg : look tm GS = .gh i) (hxs : xs[i]? = some ys)
    (hvs : as.toList.map (opv (look tm)) = ys) (hnk : nokeys ys = true) (hm : Nat.blt t m = true)
    (h1 : OpsX P F m ops false rest ⟨(GS, .gh (i + 1)) :: (t, .s (.bool true)) :: tm, h⟩ fs Q) (h2 : OpsX P F m ops false rest ⟨(GS, .gh (xs.length + 1 + i)) :: (t, .s (.bool false)) :: tm, h⟩ fs Q) :
    OpsX P F m ops false (⟨some t, .call ⟨.value (.tmp y), as, ats⟩, ty, pos, after, none⟩ :: rest) ⟨tm, h⟩ fs Q := ⟨ops_yield hit hY hy hg hxs hvs hnk hm h1.run h2.run⟩
end
/-- An iterator: handed yield and what it has captured, it calls yield with one of xs after the other, as long as more is wanted. -/
structure IterSim (P : Program) (f : Nat) (caps : List AV) (h0 : List (Nat × Ent)) (xs : List (List AV)) : Prop where
  able : Callable P f
  sim : ∀ (l : Nat) (cv : Array Value) (F : Fr (keys h0)), (F.it = true ∧ ∀ b, F.X b → F.V b) → F.ro = none → F.h0 = lookE h0 → cv.size = caps.length → HOK F.X (lookE h0) F.β0 F.w0 → (∀ (i : Nat) v, caps[i]? = some v → RepV F.w0 (Dom F.X F.β0) (lookE h0) F.β0 v (cv.getD i undef)) →
    F.J 0 (Own F.β0) F.X F.w0 → YOK P F l xs → Calls P f (#[.func (.yield l) #[] #[]] ++ cv) F.w0 fun e w' => (∃ v, e = .returned v) ∧ ∃ i O X, F.J i O X w' ∧ (i = xs.length ∨ xs.length < i)
/-- An iterator's end. -/
def FinI (n : Nat) (e : Exit) (st : St) : Prop := (e = .normal ∨ e = .ret) ∧ ∃ i, look st.tm GS = .gh i ∧ (i = n ∨ n < i)
theorem fini_ret {n i : Nat} {st : St} (h : look st.tm GS = .gh i) (hi : i = n ∨ n < i) : FinI n .ret st := ⟨.inr rfl, i, h, hi⟩
theorem fini_normal {n i : Nat} {st : St} (h : look st.tm GS = .gh i) (hi : i = n ∨ n < i) : FinI n .normal st := ⟨.inl rfl, i, h, hi⟩
theorem iterSim_of {P : Program} {f : Nat} {fn : Func} {body : Code} {caps : List AV} {h0 : List (Nat × Ent)} {xs : List (List AV)} (hf : P.funcs[f]? = some fn) (hb : fn.body = some body) (able : Callable P f) (hlen : Nat.ble (caps.length + 1) fn.ntmps = true) (hres : fn.results = #[])
    (hnd : noDead h0 = true) (h : ∀ (F : Fr (keys h0)) (l : Nat), F.ro = none → (F.it = true ∧ ∀ b, F.X b → F.V b) → YOK P F l xs → Sim P F fn.ntmps body ⟨(GS, .gh 0) :: argTm 0 (.s (.func (.yield l) #[] #[]) :: caps), h0⟩ (FinI xs.length)) (hgs : Nat.ble fn.ntmps GS = true := by rfl) : IterSim P f caps h0 xs := by
  refine ⟨able, fun l cv F hit hro hh0 hcl H hcaps hj hY => (callsIn_wide (n := 0)).1 ?_⟩
  have hlen := Nat.le_of_ble_eq_true hlen
  have hw : ∀ (c : Code) Q a w, c.wpIn (fen F.ro) 0 P Q a w → c.wpIn Fence.wide 0 P Q a w := fun c Q a w h => by rw [hro] at h; exact h
  refine callsIn_of_wp_marks (F := Fence.wide) (n := 0) hf hb trivial (hw _ _ _ _ (Code.wpIn_mono (fun e a' w1 q => ?_) ((h F l hro hit hY).run _ F.w0 ⟨⟨F.X, F.β0, ⟨fun _ h => h, fun _ h => .inl h⟩, H, fun t => ?_, ⟨fun k e he => ?_, Nat.le_refl _, fun _ _ _ _ => rfl, fun k b n hm => .inl ⟨k, n, hm⟩, fun k b n hm => ⟨n, Nat.le_refl _, hm⟩, fun _ _ _ _ => rfl, rfl, rfl, rfl⟩, fun i hi => ?_, [], rfl, fun _ => rfl, List.nodup_nil, fun b hb => by simp at hb⟩, fun k => noDead_at hnd, Nat.le_of_ble_eq_true hgs, ?_⟩))) rfl
  · obtain ⟨st, ⟨he, i, hi, hn⟩, ⟨⟨X2, β2, _, _, _, _, hJ2, bs, hds, hbs, _⟩, _, _, _⟩⟩ := q
    have hb0 := hbs hit.1
    subst hb0
    have goal : LeavesInM Fence.wide 0 P fn a'.tmps (fun e w' => (∃ v, e = .returned v) ∧ ∃ i O X, F.J i O X w' ∧ (i = xs.length ∨ xs.length < i)) a'.defers .returning w1 := by
      rw [hds]
      refine ⟨.tuple #[], by simp [results, hres], ⟨_, rfl⟩, i, _, _, hJ2 i hi, hn⟩
    rcases he with rfl | rfl
    · exact goal
    · exact goal
  · dsimp only
    rw [look_cons]
    split
    · exact .fz _ _ (.gh _ _)
    · rw [look_argTm, if_pos (Nat.zero_le _), Nat.sub_zero]
      cases t with
      | zero =>
        have e : Act.eval { tmps := #[Value.func (.yield l) #[] #[]] ++ cv ++ Array.replicate (fn.ntmps - (#[Value.func (.yield l) #[] #[]] ++ cv).size) undef, defers := [] } (.tmp 0) = .func (.yield l) #[] #[] := by
          simp [Act.eval, Array.getD_eq_getD_getElem?, Array.getElem?_append]
        rw [e]
        exact .fz _ _ (.s _)
      | succ t =>
        rw [List.getD_cons_succ]
        by_cases ht : t < caps.length
        · have h2 : caps[t]? = some (caps.getD t .bot) := by simp [List.getD, ht]
          have e : Act.eval { tmps := #[Value.func (.yield l) #[] #[]] ++ cv ++ Array.replicate (fn.ntmps - (#[Value.func (.yield l) #[] #[]] ++ cv).size) undef, defers := [] } (.tmp (t + 1)) = cv.getD t undef := by
            simp only [Act.eval, Array.getD_eq_getD_getElem?]
            rw [Array.getElem?_append_left (by simp; omega), Array.getElem?_append_right (by simp)]
            simp
          rw [e]
          exact hcaps t _ h2
        · have : caps.getD t .bot = .bot := by simp [List.getD, List.getElem?_eq_none (by omega : caps.length ≤ t)]
          rw [this]
          exact .fz _ _ (.bot _)
  · rw [hh0] at he
    cases e with
    | dead => exact absurd he (noDead_at hnd)
    | box cs => exact ⟨cs, he⟩
    | arr sz xs sl => exact ⟨xs, sl, he, Nat.le_refl _⟩
  · dsimp only at hi
    rw [look_cons, if_pos rfl] at hi
    cases hi
    exact hj
  · simp; omega
end Av
end Go.Proofs.Ytjbldhhgooihfaa
