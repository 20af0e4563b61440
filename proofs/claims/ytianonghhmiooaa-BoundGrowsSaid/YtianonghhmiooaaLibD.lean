/- Library: abstract values. -/
import Derived.Test.YtianonghhmiooaaLibC
import Derived.RangeFuncIn
import Derived.RangeFuncSeq
import Derived.RangeFuncLeaves
import Derived.Laws.BytesArg
import Derived.Laws.Strings
import Derived.Laws.StructEq
/- Abstract values: iterators: what calls of yield come to. -/
namespace Go.Proofs.Ytianonghhmiooaa
namespace Av
set_option linter.unusedSimpArgs false
set_option linter.unusedVariables false

/-- What a round makes of the world, as the iterator sees it: what others keep may turn, and they may keep new blocks. -/
structure Quiet (X X' : Nat → Prop) (W W' : World) : Prop where
  size : W.heap.size ≤ W'.heap.size
  fz : ∀ b, b < W.heap.size → ¬ X b → W'.heap[b]? = W.heap[b]? ∧ ¬ X' b
  sup : ∀ b, X b → X' b
  lt : ∀ b, X' b → b < W'.heap.size
  os : W'.os = W.os
  tape : W'.tape = W.tape
  output : W'.output = W.output
/-- What the loop promises: each call of yield with what comes next is a round; it says whether more is wanted. -/
def YOK {K0 : List Nat} (P : Program) (F : Fr K0) (l : Nat) (xs : List (List AV)) : Prop :=
  ∀ (i : Nat) (ys : List AV) (X O : Nat → Prop) (W : World) (cs : Array Value), xs[i]? = some ys → F.J i O X W → cs.size = ys.length → (∀ (j : Nat) v, ys[j]? = some v → RepF W (fun b => X b ∨ O b) v (cs.getD j undef)) →
    YieldAt Fence.wide 0 P l cs W fun e W' => (e = .returned (.bool true) ∧ ∃ X', Quiet X X' W W' ∧ F.J (i + 1) O X' W') ∨ (e = .returned (.bool false) ∧ ∃ X', Quiet X X' W W' ∧ F.J (xs.length + 1 + i) O X' W')
section
variable {X X' : Nat → Prop} {W W' : World} {h : Heap} {β : Map}
theorem Quiet.evo (H : HOK X h β W) (q : Quiet X X' W W') : Evo W (Dom X β) h β W' (Dom X' β) h β :=
  ⟨q.size, fun b hb hd => ⟨(q.fz b hb fun hx => hd (.inl hx)).1, fun h' => h'.elim (q.fz b hb fun hx => hd (.inl hx)).2 fun ho => hd (.inr ho)⟩, fun k b n hm => by
    unfold bsize World.shape?
    rw [(q.fz b (H.lt b (.inr ⟨k, n, hm⟩)) (H.free k b n hm)).1], keyRefl h β⟩
theorem Quiet.hok (H : HOK X h β W) (q : Quiet X X' W W') : HOK X' h β W' :=
  ⟨fun k e he => (H.ent k e he).evo (q.evo H) rfl fun b n hm => (q.fz b (H.lt b (.inr ⟨k, n, hm⟩)) (H.free k b n hm)).1, H.off, H.disj, fun k b n hm => (q.fz b (H.lt b (.inr ⟨k, n, hm⟩)) (H.free k b n hm)).2,
    fun b hd => hd.elim (q.lt b) fun ho => Nat.lt_of_lt_of_le (H.lt b (.inr ho)) q.size⟩
end
section
variable {P : Program} {K0 : List Nat} {F : Fr K0} {m : Nat} {ops : Array Oper} {rest : List Oper} {tm : List (Nat × AV)} {h : List (Nat × Ent)}
theorem Rel.quiet {X X' : Nat → Prop} {β : Map} {hh : Heap} {t : Nat → AV} {a : Act} {W W' : World} {j : Nat} (hit : F.it = true) (hV : ∀ b, F.X b → F.V b) (hX : XOK F X) (H : HOK X hh β W) (Ht : ∀ s, RepV W (Dom X β) hh β (t s) (a.eval (.tmp s))) (KK : Keep F hh β W) (hD : DOK X F a.defers W) (nd : ∀ k, hh k ≠ some .dead) (gs : m ≤ GS) (hl : a.tmps.size = m)
    (q : Quiet X X' W W') (hj : F.J j (Own β) X' W') (d : Nat) (hd : d < m) (b : Bool) : Rel F m (fun s => if s = GS then .gh j else if s = d then .s (.bool b) else t s) hh (a.put (some d) (.bool b)) W' := by
  have E := q.evo H
  refine ⟨⟨X', β, ⟨fun c hc => q.sup c (hX.1 c hc), fun c hc => ?_⟩, q.hok H, fun s => ?_, ?_, fun i hi => ?_, ?_⟩, nd, gs, by simp [Act.put, hl]⟩
  · by_cases hb : c < W.heap.size
    · by_cases hxc : X c
      · exact hX.2 c hxc
      · exact absurd hc (q.fz c hb hxc).2
    · exact .inr (Nat.le_trans KK.size (Nat.le_of_not_lt hb))
  · split
    · exact .fz _ _ (.gh _ _)
    · split
      · rename_i hs; subst hs
        have : s < a.tmps.size := by rw [hl]; exact hd
        have e : (a.put (some s) (.bool b)).eval (.tmp s) = .bool b := by simp [Act.put, Act.eval, this]
        rw [e]; exact .fz _ _ (.s _)
      · rename_i hs
        rw [Act.eval_put (fun d' hd' e => hs (by cases hd'; injection e with e))]
        exact (Ht s).evo E
  · exact ⟨KK.knd, Nat.le_trans KK.size q.size, fun c hc hi hn => by
      have h1 : ¬ X c := fun hx => (hX.2 c hx).elim (fun h => hi (hV c h)) fun h => by omega
      rw [(q.fz c (Nat.lt_of_lt_of_le hc KK.size) h1).1]
      exact KK.keep c hc hi hn, KK.own, KK.pas, fun k c n hm => by
      obtain ⟨n', _, hm'⟩ := KK.pas k c n hm
      rw [E.bs k c n' hm', KK.bs k c n hm], q.os.trans KK.os, q.tape.trans KK.tape, q.output.trans KK.output⟩
  · simp only [if_pos rfl] at hi
    cases hi
    exact hj
  · obtain ⟨bs, h1, h0, h2, h3⟩ := hD
    have := h0 hit
    subst this
    exact ⟨[], h1, fun _ => rfl, h2, fun b hb => by simp at hb⟩
/-- A call of yield. -/
theorem ops_yield {xs : List (List AV)} {ys : List AV} {l i y t ty : Nat} {as : Array Operand} {ats : Array Nat} {pos : String} {after : Array Edge} {Q : St → Prop} (hit : F.it = true ∧ ∀ b, F.X b → F.V b) (hY : YOK P F l xs) (hy : look tm y = .s (.func (.yield l) #[] #[])) (hg : look tm GS = .gh i) (hxs : xs[i]? = some ys)
    (hvs : as.toList.map (opv (look tm)) = ys) (hnk : nokeys ys = true) (hm : Nat.blt t m = true)
    (h1 : Ops P F m ops rest ⟨(GS, .gh (i + 1)) :: (t, .s (.bool true)) :: tm, h⟩ Q) (h2 : Ops P F m ops rest ⟨(GS, .gh (xs.length + 1 + i)) :: (t, .s (.bool false)) :: tm, h⟩ Q) :
    Ops P F m ops (⟨some t, .call ⟨.value (.tmp y), as, ats⟩, ty, pos, after, none⟩ :: rest) ⟨tm, h⟩ Q := fun a w H => by
  obtain ⟨⟨X, β, hX, HH, Ht, KK, hJ, hD⟩, nd, gs, hl⟩ := H
  have hj := hJ i hg
  have hyv : a.eval (.tmp y) = .func (.yield l) #[] #[] := by
    have := Ht y
    dsimp only at this
    rw [hy] at this
    exact this.s_inv
  have hlen : as.toList.length = ys.length := by rw [← hvs]; simp
  obtain ⟨fn, tmps, assign, body, hrun, hround⟩ := hY i ys X (Own β) w (as.map a.eval) hxs hj (by simpa using hlen) (fun j v hv => by
    rw [← hvs, List.getElem?_map, Option.map_eq_some_iff] at hv
    obtain ⟨x, hx, rfl⟩ := hv
    have hx' : as[j]? = some x := by simpa using hx
    have e : (as.map a.eval).getD j undef = a.eval x := by simp [Array.getD_eq_getD_getElem?, hx']
    rw [e]
    have hv2 : (ys[j]?) = some (opv (look tm) x) := by rw [← hvs]; simp [hx]
    exact (opv_rep Ht x).toF (nokeys_at hnk hv2))
  refine wpListIn_plain rfl fun K hK => ⟨fun _ _ => trivial, ?_⟩
  have he : ((⟨some t, .call ⟨.value (.tmp y), as, ats⟩, ty, pos, after, none⟩ : Oper).semAt (fen F.ro).round a.eval).run P w = .ok (.round l fn tmps assign body) w := by
    rw [Oper.semAt_eq _ _ _ (fun c hc => by cases hc)]
    rw [← hrun]
    simp [execOp, resolve, hyv, Deferred.ofValue, invoke]
  rw [he]
  refine ⟨fun hx => by simp [fen, Fence.wide] at hx, ?_⟩
  refine RoundIn.mono (F := Fence.wide) hround ?_
  rintro e W' (⟨rfl, X', q, hj'⟩ | ⟨rfl, X', q, hj'⟩)
  · refine hK _ _ (h1 _ _ ?_)
    have R := Rel.quiet hit.1 hit.2 hX HH Ht KK hD nd gs hl q hj' t (Nat.le_of_ble_eq_true hm) true
    unfold RelS
    refine R.congr (fun s => ?_) (fun _ => rfl)
    rw [look_cons, look_cons]
  · refine hK _ _ (h2 _ _ ?_)
    have R := Rel.quiet hit.1 hit.2 hX HH Ht KK hD nd gs hl q hj' t (Nat.le_of_ble_eq_true hm) false
    unfold RelS
    refine R.congr (fun s => ?_) (fun _ => rfl)
    rw [look_cons, look_cons]
theorem x_yield {xs : List (List AV)} {ys : List AV} {l i y t ty : Nat} {as : Array Operand} {ats : Array Nat} {pos : String} {after : Array Edge} {fs : List FP} {Q : List FP → St → Prop} (hit : F.it = true ∧ ∀ b, F.X b → F.V b) (hY : YOK P F l xs) (hy : look tm y = .s (.func (.yield l) #[] #[])) (hg : look tm GS = .gh i) (hxs : xs[i]? = some ys)
    (hvs : as.toList.map (opv (look tm)) = ys) (hnk : nokeys ys = true) (hm : Nat.blt t m = true)
    (h1 : OpsX P F m ops false rest ⟨(GS, .gh (i + 1)) :: (t, .s (.bool true)) :: tm, h⟩ fs Q) (h2 : OpsX P F m ops false rest ⟨(GS, .gh (xs.length + 1 + i)) :: (t, .s (.bool false)) :: tm, h⟩ fs Q) :
    OpsX P F m ops false (⟨some t, .call ⟨.value (.tmp y), as, ats⟩, ty, pos, after, none⟩ :: rest) ⟨tm, h⟩ fs Q := ⟨ops_yield hit hY hy hg hxs hvs hnk hm h1.run h2.run⟩
end
/-- An iterator: handed yield and what it has captured, it calls yield with one of xs after the other, as long as more is wanted. -/
structure IterSim (P : Program) (f : Nat) (caps : List AV) (h0 : List (Nat × Ent)) (xs : List (List AV)) : Prop where
  able : Callable P f
  sim : ∀ (l : Nat) (cv : Array Value) (F : Fr (keys h0)), (F.it = true ∧ ∀ b, F.X b → F.V b) → F.ro = none → F.h0 = lookE h0 → cv.size = caps.length → HOK F.X (lookE h0) F.β0 F.w0 → (∀ (i : Nat) v, caps[i]? = some v → RepV F.w0 (Dom F.X F.β0) (lookE h0) F.β0 v (cv.getD i undef)) →
    F.J 0 (Own F.β0) F.X F.w0 → YOK P F l xs → Calls P f (#[.func (.yield l) #[] #[]] ++ cv) F.w0 fun e w' => (∃ v, e = .returned v) ∧ ∃ i O X, F.J i O X w' ∧ (i = xs.length ∨ xs.length < i)
/-- An iterator's end. -/
def FinI (n : Nat) (e : Exit) (st : St) : Prop := (e = .normal ∨ e = .ret) ∧ ∃ i, look st.tm GS = .gh i ∧ (i = n ∨ n < i)
theorem fini_ret {n i : Nat} {st : St} (h : look st.tm GS = .gh i) (hi : i = n ∨ n < i) : FinI n .ret st := ⟨.inr rfl, i, h, hi⟩
theorem fini_normal {n i : Nat} {st : St} (h : look st.tm GS = .gh i) (hi : i = n ∨ n < i) : FinI n .normal st := ⟨.inl rfl, i, h, hi⟩
theorem iterSim_of {P : Program} {f : Nat} {fn : Func} {body : Code} {caps : List AV} {h0 : List (Nat × Ent)} {xs : List (List AV)} (hf : P.funcs[f]? = some fn) (hb : fn.body = some body) (able : Callable P f) (hlen : Nat.ble (caps.length + 1) fn.ntmps = true) (hres : fn.results = #[])
    (hnd : noDead h0 = true) (h : ∀ (F : Fr (keys h0)) (l : Nat), F.ro = none → (F.it = true ∧ ∀ b, F.X b → F.V b) → YOK P F l xs → Sim P F fn.ntmps body ⟨(GS, .gh 0) :: argTm 0 (.s (.func (.yield l) #[] #[]) :: caps), h0⟩ (FinI xs.length)) (hgs : Nat.ble fn.ntmps GS = true := by rfl) : IterSim P f caps h0 xs := by
  refine ⟨able, fun l cv F hit hro hh0 hcl H hcaps hj hY => (callsIn_wide (n := 0)).1 ?_⟩
  have hlen := Nat.le_of_ble_eq_true hlen
  have hw : ∀ (c : Code) Q a w, c.wpIn (fen F.ro) 0 P Q a w → c.wpIn Fence.wide 0 P Q a w := fun c Q a w h => by rw [hro] at h; exact h
  refine callsIn_of_wp_marks (F := Fence.wide) (n := 0) hf hb trivial (hw _ _ _ _ (Code.wpIn_mono (fun e a' w1 q => ?_) ((h F l hro hit hY).run _ F.w0 ⟨⟨F.X, F.β0, ⟨fun _ h => h, fun _ h => .inl h⟩, H, fun t => ?_, ⟨fun k e he => ?_, Nat.le_refl _, fun _ _ _ _ => rfl, fun k b n hm => .inl ⟨k, n, hm⟩, fun k b n hm => ⟨n, Nat.le_refl _, hm⟩, fun _ _ _ _ => rfl, rfl, rfl, rfl⟩, fun i hi => ?_, [], rfl, fun _ => rfl, List.nodup_nil, fun b hb => by simp at hb⟩, fun k => noDead_at hnd, Nat.le_of_ble_eq_true hgs, ?_⟩))) rfl
  · obtain ⟨st, ⟨he, i, hi, hn⟩, ⟨⟨X2, β2, _, _, _, _, hJ2, bs, hds, hbs, _⟩, _, _, _⟩⟩ := q
    have hb0 := hbs hit.1
    subst hb0
    have goal : LeavesInM Fence.wide 0 P fn a'.tmps (fun e w' => (∃ v, e = .returned v) ∧ ∃ i O X, F.J i O X w' ∧ (i = xs.length ∨ xs.length < i)) a'.defers .returning w1 := by
      rw [hds]
      refine ⟨.tuple #[], by simp [results, hres], ⟨_, rfl⟩, i, _, _, hJ2 i hi, hn⟩
    rcases he with rfl | rfl
    · exact goal
    · exact goal
  · dsimp only
    rw [look_cons]
    split
    · exact .fz _ _ (.gh _ _)
    · rw [look_argTm, if_pos (Nat.zero_le _), Nat.sub_zero]
      cases t with
      | zero =>
        have e : Act.eval { tmps := #[Value.func (.yield l) #[] #[]] ++ cv ++ Array.replicate (fn.ntmps - (#[Value.func (.yield l) #[] #[]] ++ cv).size) undef, defers := [] } (.tmp 0) = .func (.yield l) #[] #[] := by
          simp [Act.eval, Array.getD_eq_getD_getElem?, Array.getElem?_append]
        rw [e]
        exact .fz _ _ (.s _)
      | succ t =>
        rw [List.getD_cons_succ]
        by_cases ht : t < caps.length
        · have h2 : caps[t]? = some (caps.getD t .bot) := by simp [List.getD, ht]
          have e : Act.eval { tmps := #[Value.func (.yield l) #[] #[]] ++ cv ++ Array.replicate (fn.ntmps - (#[Value.func (.yield l) #[] #[]] ++ cv).size) undef, defers := [] } (.tmp (t + 1)) = cv.getD t undef := by
            simp only [Act.eval, Array.getD_eq_getD_getElem?]
            rw [Array.getElem?_append_left (by simp; omega), Array.getElem?_append_right (by simp)]
            simp
          rw [e]
          exact hcaps t _ h2
        · have : caps.getD t .bot = .bot := by simp [List.getD, List.getElem?_eq_none (by omega : caps.length ≤ t)]
          rw [this]
          exact .fz _ _ (.bot _)
  · rw [hh0] at he
    cases e with
    | dead => exact absurd he (noDead_at hnd)
    | box cs => exact ⟨cs, he⟩
    | arr sz xs sl => exact ⟨xs, sl, he, Nat.le_refl _⟩
  · dsimp only at hi
    rw [look_cons, if_pos rfl] at hi
    cases hi
    exact hj
  · simp; omega
end Av
end Go.Proofs.Ytianonghhmiooaa
/- Abstract values: a range over a function: what stays while the iterator runs. -/
namespace Go.Proofs.Ytianonghhmiooaa
namespace Av
set_option linter.unusedSimpArgs false
set_option linter.unusedVariables false

def βr (K : List Nat) (β : Map) : Map := fun k => if k ∈ K then β k else []
theorem βr_in {K : List Nat} {β : Map} {k : Nat} (h : k ∈ K) : βr K β k = β k := by simp [βr, h]
theorem βr_mem {K : List Nat} {β : Map} {k b n : Nat} (h : (b, n) ∈ βr K β k) : k ∈ K ∧ (b, n) ∈ β k := by
  unfold βr at h
  split at h
  · exact ⟨‹_›, h⟩
  · simp at h
/-- Some keys are handed over. -/
theorem lend {X Xc : Nat → Prop} {h : Heap} {β : Map} {w : World} {h0 : List (Nat × Ent)} (HH : HOK X h β w) (hK : ∀ k, k ∈ keys h0 → h k = lookE h0 k) (hclosed : ∀ k e, lookE h0 k = some e → clE (keys h0) e = true)
    (hXc : ∀ b, Xc b → X b ∨ ∃ k n, ¬ k ∈ keys h0 ∧ (b, n) ∈ β k) :
    HOK Xc (lookE h0) (βr (keys h0) β) w ∧ ∀ v c, RepV w (Dom X β) h β v c → (∀ k, k ∈ v.refs → k ∈ keys h0) → RepV w (Dom Xc (βr (keys h0) β)) (lookE h0) (βr (keys h0) β) v c := by
  have hβc : ∀ k, k ∈ keys h0 → βr (keys h0) β k = β k := fun k hk => βr_in hk
  have hDc : ∀ b, Dom Xc (βr (keys h0) β) b → Dom X β b := fun b hd => by
    rcases hd with hx | ⟨k, n, hm⟩
    · exact (hXc b hx).imp id fun ⟨k, n, _, hm⟩ => ⟨k, n, hm⟩
    · exact .inr ⟨k, n, (βr_mem hm).2⟩
  have hclv : ∀ v c, RepV w (Dom X β) h β v c → (∀ k, k ∈ v.refs → k ∈ keys h0) → RepV w (Dom Xc (βr (keys h0) β)) (lookE h0) (βr (keys h0) β) v c := by
    intro v c hv
    have ef : ∀ {v c}, RepF w (Dom X β) v c → RepF w (Dom Xc (βr (keys h0) β)) v c := fun hf => hf.evo (Nat.le_refl _) fun b _ hd => ⟨rfl, fun h' => hd (hDc b h')⟩
    induction hv with
    | fz v c hf => exact fun _ => .fz _ _ (ef hf)
    | agg cs c hl h1 _ ih => exact fun hr => .agg cs c hl h1 fun i v hv => ih i v hv fun k hk => hr k (by simpa [AV.refs] using refsL_at hv hk)
    | fn f caps c hl _ ih => exact fun hr => .fn f caps c hl fun i v hv => ih i v hv fun k hk => hr k (by simpa [AV.refs] using refsL_at hv hk)
    | tup vs c hl _ ih => exact fun hr => .tup vs c hl fun i v hv => ih i v hv fun k hk => hr k (by simpa [AV.refs] using refsL_at hv hk)
    | dref k off len c hk h1 => exact fun hr => .dref _ _ _ _ ((hK k (hr k (by simp [AV.refs]))) ▸ hk) h1
    | dptr k i off c hk h1 => exact fun hr => .dptr _ _ _ _ ((hK k (hr k (by simp [AV.refs]))) ▸ hk) h1
    | ref k off len sz xs st b n cap hk hb hn hc hs => exact fun hr => .ref k off len sz xs st b n cap ((hK k (hr k (by simp [AV.refs]))) ▸ hk) (by rw [hβc k (hr k (by simp [AV.refs]))]; exact hb) hn hc hs
    | ref0 k off sz xs st a hk hn => exact fun hr => .ref0 k off sz xs st a ((hK k (hr k (by simp [AV.refs]))) ▸ hk) hn
    | pbox k off cs b n hk hb => exact fun hr => .pbox k off cs b n ((hK k (hr k (by simp [AV.refs]))) ▸ hk) (by rw [hβc k (hr k (by simp [AV.refs]))]; exact hb)
    | parr k i off sz xs st b n hk hb hi ho => exact fun hr => .parr k i off sz xs st b n ((hK k (hr k (by simp [AV.refs]))) ▸ hk) (by rw [hβc k (hr k (by simp [AV.refs]))]; exact hb) hi ho
  refine ⟨⟨fun k e he => ?_, fun k he => ?_, fun k k' b n n' q1 q2 => HH.disj _ _ _ _ _ (βr_mem q1).2 (βr_mem q2).2, fun k b n hm hx => ?_, fun b hd => HH.lt b (hDc b hd)⟩, hclv⟩
  · have hk := lookE_mem he
    refine (HH.ent k e ((hK k hk).trans he)).lift (hβc k hk) (fun cs hcs i v c hi hv => hclv v c hv fun j hj => by
      have := hclosed k e he
      rw [hcs] at this
      simpa using List.all_eq_true.1 this j (refsL_at hi hj)) fun sz xs fl hxs i x j v c hi hj => ⟨fun hf => hf.evo (Nat.le_refl _) fun b _ hd => ⟨rfl, fun h' => hd (hDc b h')⟩, fun hn hv => hclv v c hv fun q hq => by
      have := hclosed k e he
      rw [hxs] at this
      simp only [clE, hn, cond_true] at this
      simpa using List.all_eq_true.1 this q (refsL_at hi (refs_cells hj hq))⟩
  · unfold βr
    rw [if_neg]
    intro hk
    obtain ⟨e, hk⟩ := mem_lookE hk
    rw [he] at hk; cases hk
  · obtain ⟨hk, hm⟩ := βr_mem hm
    rcases hXc b hx with hx | ⟨k', n', hk', hm'⟩
    · exact HH.free k b n hm hx
    · exact hk' (HH.disj k k' b n n' hm hm' ▸ hk)
/-- No array's cells hold keys. -/
def NoNest (h : Heap) : Prop := ∀ k sz xs fl, h k = some (.arr sz xs fl) → fl.nest = false
def nnH : List (Nat × Ent) → Bool
  | [] => true
  | (_, e) :: r => match e with
    | .arr _ _ fl => !fl.nest && nnH r
    | _ => nnH r
theorem nnH_at : ∀ {h : List (Nat × Ent)}, nnH h = true → NoNest (lookE h)
  | [], _, k, sz, xs, fl, he => by simp [lookE] at he
  | (j, e) :: r, hn, k, sz, xs, fl, he => by
    rw [lookE_cons] at he
    split at he
    · cases he
      simp [nnH] at hn
      exact hn.1
    · refine nnH_at (h := r) ?_ k sz xs fl he
      cases e with
      | arr _ _ _ => simp [nnH] at hn; exact hn.2
      | _ => exact hn
theorem frz0_eq {h : Heap} (nn : NoNest h) (K : List Nat) : ∀ v : AV, frz0 K h v = frzV K h v := by
  intro v
  refine AV.rec (motive_1 := fun v => frz0 K h v = frzV K h v) (motive_2 := fun cs => frz0L K h cs = frzL K h cs) ?_ ?_ ?_ ?_ ?_ ?_ ?_ ?_ ?_ ?_ ?_ ?_ v
  · rfl
  · exact fun _ => rfl
  · exact fun _ => rfl
  · exact fun cs ih => by simp only [frz0, frzV]; rw [ih]
  · exact fun _ _ _ => rfl
  · intro k off len
    simp only [frz0, frzV]
    cases K.contains k with
    | true => rfl
    | false =>
      simp only [cond_false]
      split
      · rename_i xs fl he
        rw [nn _ _ _ _ he]
        rfl
      · rfl
  · intro k i off; rfl
  · exact fun _ _ _ _ => rfl
  · exact fun f cs ih => by simp only [frz0, frzV]; rw [ih]
  · exact fun cs ih => by simp only [frz0, frzV]; rw [ih]
  · rfl
  · exact fun v r h1 h2 => by simp only [frz0L, frzL]; rw [h1, h2]
/-- The state when only the keys K are kept, the blocks of the keys Kd being others' from now on. -/
theorem HOK.restrX {X X' : Nat → Prop} {h : Heap} {β : Map} {w : World} (H : HOK X h β w) (K Kd : List Nat) (hx : ∀ b, X' b → X b ∨ ∃ k n, k ∈ Kd ∧ (b, n) ∈ β k) (hdis : ∀ k, k ∈ Kd → ¬ k ∈ K) (nn : NoNest h)
    (hent : ∀ k cs, k ∈ K → h k = some (.box cs) → ∀ j, j ∈ refsL cs → ¬ j ∈ Kd) :
    HOK X' (lookE (restrH K h)) (βr K β) w ∧ ∀ v c, (∀ j, j ∈ v.refs → ¬ j ∈ Kd) → RepV w (Dom X β) h β v c → RepV w (Dom X' (βr K β)) (lookE (restrH K h)) (βr K β) (frzV K h v) c := by
  have hsub : ∀ b, Dom X' (βr K β) b → Dom X β b := fun b hd => by
    rcases hd with hb | ⟨k, n, hm⟩
    · exact (hx b hb).imp id fun ⟨k, n, _, hm⟩ => ⟨k, n, hm⟩
    · exact .inr ⟨k, n, (βr_mem hm).2⟩
  have hv : ∀ v c, (∀ j, j ∈ v.refs → ¬ j ∈ Kd) → RepV w (Dom X β) h β v c → RepV w (Dom X' (βr K β)) (lookE (restrH K h)) (βr K β) (frzV K h v) c := fun v c hr hv => by
    rw [← frz0_eq nn]
    refine RepV.fz0 H (K := K) (fun k hk e he => ?_) (fun k hk => βr_in hk) (fun b _ hd h' => hd (hsub b h')) hv fun k hk0 => ?_
    · rw [lookE_restrH, if_pos hk, he]
      cases e with
      | box cs => exact ⟨_, rfl⟩
      | arr sz xs fl => exact ⟨xs, fl, by simp only [Option.map_some, frzE, nn _ _ _ _ he, cond_false], rfl⟩
      | dead => rfl
    · by_cases hk : k ∈ K
      · exact .inl hk
      · refine .inr fun b n hm => ?_
        rintro (hb | ⟨k', n', hm'⟩)
        · rcases hx b hb with hb | ⟨k', n', hk', hm'⟩
          · exact H.free k b n hm hb
          · exact hr k hk0 (H.disj k k' b n n' hm hm' ▸ hk')
        · obtain ⟨hk', hm'⟩ := βr_mem hm'
          exact hk (H.disj k k' b n n' hm hm' ▸ hk')
  have ef : ∀ {v c}, RepF w (Dom X β) v c → RepF w (Dom X' (βr K β)) v c := fun hf => hf.evo (Nat.le_refl _) fun b _ hd => ⟨rfl, fun h' => hd (hsub b h')⟩
  refine ⟨⟨fun k e he => ?_, fun k he => ?_, fun k k' b n n' h1 h2 => H.disj _ _ _ _ _ (βr_mem h1).2 (βr_mem h2).2, fun k b n hm hb => ?_, fun b hd => H.lt b (hsub b hd)⟩, hv⟩
  · rw [lookE_restrH] at he
    split at he
    · rename_i hk
      rw [Option.map_eq_some_iff] at he
      obtain ⟨e0, he0, rfl⟩ := he
      have := H.ent k e0 he0
      cases e0 with
      | dead => show βr K β k = []; rw [βr_in hk]; exact this
      | box cs =>
        obtain ⟨b, c, el, h1, h2, h3, h4, h5⟩ := this
        refine ⟨b, c, el, by rw [βr_in hk]; exact h1, h2, by rw [frzL_length]; exact h3, h4, fun i v hi => ?_⟩
        rw [frzL_at, Option.map_eq_some_iff] at hi
        obtain ⟨u, hu, rfl⟩ := hi
        exact hv u _ (fun j hj => hent k cs hk he0 j (refsL_at hu hj)) (h5 i u hu)
      | arr sz xs st =>
        obtain ⟨g1, g2, g3, g4, g5, f, g6, g7, g8⟩ := this
        have hn := nn _ _ _ _ he0
        rw [show frzE K h (.arr sz xs st) = .arr sz xs st by simp only [frzE, hn, cond_false]]
        exact ⟨g1, g2, by rw [βr_in hk]; exact g3, g4, by rw [βr_in hk]; exact g5, f, .ofF fun i x j v hx hy => ef (g6.toF hn i x j v hx hy), g7, by rw [βr_in hk]; exact g8⟩
    · cases he
  · unfold βr
    split
    · rename_i hk
      rw [lookE_restrH, if_pos hk] at he
      cases hk' : h k with
      | none => exact H.off k hk'
      | some e => simp [hk'] at he
    · rfl
  · obtain ⟨hk, hm⟩ := βr_mem hm
    rcases hx b hb with hb | ⟨k', n', hk', hm'⟩
    · exact H.free k b n hm hb
    · exact hdis k' hk' (H.disj k k' b n n' hm hm' ▸ hk)
theorem frz_idem (K : List Nat) (h h' : Heap) : ∀ v : AV, frzV K h' (frzV K h v) = frzV K h v := by
  intro v
  refine AV.rec (motive_1 := fun v => frzV K h' (frzV K h v) = frzV K h v) (motive_2 := fun cs => frzL K h' (frzL K h cs) = frzL K h cs) ?_ ?_ ?_ ?_ ?_ ?_ ?_ ?_ ?_ ?_ ?_ ?_ v
  · rfl
  · exact fun _ => rfl
  · exact fun _ => rfl
  · exact fun cs ih => by simp only [frzV]; rw [ih]
  · exact fun _ _ _ => rfl
  · intro k off len
    simp only [frzV]
    cases hc : K.contains k with
    | true => simp only [cond_true, frzV, hc]
    | false =>
      simp only [cond_false]
      rcases h k with _ | (_ | ⟨_, xs, fl⟩ | _)
      · rfl
      · rfl
      · dsimp only
        cases fl.nest with
        | false => rfl
        | true =>
          simp only [cond_true]
          cases nokeys (frz0L K h xs) <;> rfl
      · rfl
  · intro k i off
    simp only [frzV]
    cases hc : K.contains k with
    | true => simp only [cond_true, frzV, hc]
    | false => rfl
  · exact fun _ _ _ _ => rfl
  · exact fun f cs ih => by simp only [frzV]; rw [ih]
  · exact fun cs ih => by simp only [frzV]; rw [ih]
  · rfl
  · exact fun v r h1 h2 => by simp only [frzL]; rw [h1, h2]
section
variable {K0 : List Nat} {F : Fr K0} {h : Heap} {β : Map} {w w' : World} {X : Nat → Prop}
theorem Keep.toGoes (hV : ∀ b, ¬ F.V b) (H0 : HOK F.X F.h0 F.β0 F.w0) (H : HOK X h β w) (K : Keep F h β w) (nd : ∀ k, F.h0 k ≠ some .dead) : Goes X F.w0 F.h0 F.β0 w h β where
  size := K.size
  keep b hb hn := K.keep b hb (hV b) hn
  own := K.own
  bs := K.bs
  key k e he := by
    refine .inr ?_
    have h1 := K.knd k e he
    cases e with
    | dead => exact absurd he (nd k)
    | box cs0 =>
      obtain ⟨cs', h2⟩ := h1
      refine ⟨⟨_, h2⟩, fun b n hm => ?_⟩
      obtain ⟨n', hn', hm'⟩ := K.pas k b n hm
      obtain ⟨b2, _, _, e2, _⟩ := H.ent k _ h2
      obtain ⟨b1, _, _, e1, _⟩ := H0.ent k _ he
      rw [e1] at hm
      rw [e2] at hm' ⊢
      simp at hm hm' ⊢
      exact ⟨hm'.1, hm.2⟩
    | arr sz xs sl =>
      obtain ⟨xs', sl', h2, h3⟩ := h1
      exact ⟨⟨xs', sl', h2, h3⟩, fun b n hm => K.pas k b n hm⟩
  hok := H
  os := K.os
  tape := K.tape
  output := K.output
theorem Keep.turn (K : Keep F h β w) (H : HOK X h β w) (hs : w'.heap.size = w.heap.size) (hk : ∀ b, b < w.heap.size → ¬ X b → w'.heap[b]? = w.heap[b]?) (hl : ∀ b, b < F.w0.heap.size → w'.heap[b]? = w.heap[b]?) (o1 : w'.os = w.os) (o2 : w'.tape = w.tape) (o3 : w'.output = w.output) : Keep F h β w' :=
  ⟨K.knd, by rw [hs]; exact K.size, fun b hb hi hn => by rw [hl b hb]; exact K.keep b hb hi hn, K.own, K.pas, fun k b n hm => by
    rw [← K.bs k b n hm]
    obtain ⟨n', _, hm'⟩ := K.pas k b n hm
    unfold bsize World.shape?
    rw [hk b (H.lt b (.inr ⟨k, n', hm'⟩)) (H.free k b n' hm')], o1.trans K.os, o2.trans K.tape, o3.trans K.output⟩
/-- Only the keys K go on. -/
theorem Keep.restr (K : Keep F h β w) (Ks : List Nat) (hK : ∀ k, k ∈ K0 → k ∈ Ks) : Keep F (lookE (restrH Ks h)) (βr Ks β) w := by
  refine ⟨fun k e he => ?_, K.size, K.keep, fun k b n hm => K.own k b n (βr_mem hm).2, fun k b n hm => ?_, K.bs, K.os, K.tape, K.output⟩
  · have hk := hK k (F.hh k e he)
    have h1 := K.knd k e he
    have hr : ∀ e', h k = some e' → lookE (restrH Ks h) k = some (frzE Ks h e') := fun e' h2 => by rw [lookE_restrH, if_pos hk, h2]; rfl
    cases e with
    | dead => exact h1
    | box cs => obtain ⟨cs', h2⟩ := h1; exact ⟨_, hr _ h2⟩
    | arr sz xs sl => obtain ⟨xs', sl', h2, h3⟩ := h1; obtain ⟨xs2, fl2, h4, h5⟩ := frzE_arr Ks h sz xs' sl'; exact ⟨xs2, fl2, (hr _ h2).trans (by rw [h4]), by rw [h5]; exact h3⟩
  · rw [βr_in (hK k (F.hK k b n hm))]
    exact K.pas k b n hm
end
/-- The parameters of a round in its slots. -/
def setTm (ps : List Nat) (ys : List AV) (T : List (Nat × AV)) : List (Nat × AV) := (ps.zip ys).foldl (fun tm p => p :: tm) T
theorem setTm_rep {w : World} {D : Nat → Prop} {h : Heap} {β : Map} : ∀ (ps : List Nat) (ys : List AV) (cs : List Value) (T : List (Nat × AV)) (tmps : Array Value), ys.length = cs.length → (∀ (j : Nat) v c, ys[j]? = some v → cs[j]? = some c → RepV w D h β v c) → (∀ p, p ∈ ps → p < tmps.size) →
    (∀ t, RepV w D h β (look T t) (tmps.getD t undef)) → ∀ t, RepV w D h β (look (setTm ps ys T) t) (((ps.zip cs).foldl (fun tmps (p : Nat × Value) => tmps.setIfInBounds p.1 p.2) tmps).getD t undef)
  | [], ys, cs, T, tmps, _, _, _, h, t => h t
  | p :: ps, [], cs, T, tmps, hl, _, _, h, t => by
    obtain rfl : cs = [] := List.eq_nil_of_length_eq_zero hl.symm
    exact h t
  | p :: ps, y :: ys, [], T, tmps, hl, _, _, h, t => by simp at hl
  | p :: ps, y :: ys, c :: cs, T, tmps, hl, hr, hp, h, t => by
    have hps := hp p (by simp)
    refine setTm_rep ps ys cs ((p, y) :: T) (tmps.setIfInBounds p c) (by simpa using hl) (fun j v c' h1 h2 => hr (j + 1) v c' (by simpa using h1) (by simpa using h2)) (fun q hq => by simpa using hp q (by simp [hq])) (fun s => ?_) t
    rw [look_cons]
    by_cases hs : s = p
    · subst hs
      rw [if_pos rfl]
      have e : (tmps.setIfInBounds s c).getD s undef = c := by simp [Array.getD_eq_getD_getElem?, hps]
      rw [e]
      exact hr 0 y c rfl rfl
    · rw [if_neg hs]
      have e : (tmps.setIfInBounds p c).getD s undef = tmps.getD s undef := by simp [Array.getD_eq_getD_getElem?, Array.getElem?_setIfInBounds_ne (Ne.symm hs)]
      rw [e]
      exact h s
end Av
end Go.Proofs.Ytianonghhmiooaa
/- Abstract values: a range over a function: a round. -/
namespace Go.Proofs.Ytianonghhmiooaa
namespace Av
set_option linter.unusedSimpArgs false
set_option linter.unusedVariables false

theorem Keep.evo {K0 : List Nat} {F : Fr K0} {h : Heap} {β : Map} {w : World} {X : Nat → Prop} (hX : XOK F X) (G : Goes X F.w0 F.h0 F.β0 w h β) : Evo F.w0 (Dom F.X F.β0) F.h0 F.β0 w (Dom X β) h β :=
  ⟨G.size, fun b hb hd => ⟨G.keep b hb fun k n hm => hd (.inr ⟨k, n, hm⟩), fun h' => by
    rcases h' with hx | ⟨k, n, hm⟩
    · rcases hX.2 b hx with hx | hx
      · exact hd (.inl hx)
      · omega
    · rcases G.own k b n hm with ⟨k', n', h2⟩ | h2
      · exact hd (.inr ⟨k', n', h2⟩)
      · omega⟩, G.bs, G.key⟩
/-- What holds of the world, for the function that ranges, while the iterator runs: O are the blocks that the iterator owns, X those that it takes for others'. -/
structure Core {K0 : List Nat} (F : Fr K0) (T : List (Nat × AV)) (a : Act) (l : Nat) (hc : List (Nat × Ent)) (rec : Loop) (O X : Nat → Prop) (W : World) : Prop where
  ex : ∃ Xc βc, XOK F Xc ∧ HOK Xc (lookE hc) βc W ∧ (∀ t, RepV W (Dom Xc βc) (lookE hc) βc (look T t) (a.eval (.tmp t))) ∧ Keep F (lookE hc) βc W ∧
    (∃ bs : List Nat, a.defers = bs.map (fun b => { target := .collected b, args := #[] }) ∧ bs.Nodup ∧ ∀ b, b ∈ bs → Xc b ∧ F.w0.heap.size ≤ b ∧ W.heap[b]? = some (.deferred (some [])) ∧ ¬ O b) ∧
    (∀ b, O b → Xc b ∧ F.w0.heap.size ≤ b ∧ ¬ F.X b) ∧ (∀ b, Own βc b → X b) ∧ (∀ b, Xc b → X b ∨ O b) ∧ Xc l
  lx : X l
  lo : ¬ O l
  lh : W.heap[l]? = some (.loop rec)
  ll : F.w0.heap.size ≤ l
  xl : ∀ b, X b → b < W.heap.size
  nd : ∀ k, lookE hc k ≠ some .dead
section
variable {K0 : List Nat} {F : Fr K0} {T : List (Nat × AV)} {a : Act} {l : Nat} {hc : List (Nat × Ent)} {rec : Loop} {O O' X : Nat → Prop} {W W' : World}
theorem Core.stab (C : Core F T a l hc rec O X W) (hs : W.heap.size ≤ W'.heap.size) (hk : ∀ b, b < W.heap.size → ¬ O b → W'.heap[b]? = W.heap[b]?) (ho : ∀ b, O' b → O b ∨ W.heap.size ≤ b) (hl : ∀ b, O' b → b < W'.heap.size) (o1 : W'.os = W.os) (o2 : W'.tape = W.tape) (o3 : W'.output = W.output) : Core F T a l hc rec O' X W' := by
  obtain ⟨⟨Xc, βc, c1, c2, c3, c4, ⟨bs, d1, d2, d3⟩, c6, c8, c10, c11⟩, lx, lo, lh, ll, xl, nd⟩ := C
  have hlW : l < W.heap.size := xl l lx
  have own : ∀ k b n, (b, n) ∈ βc k → ¬ O b := fun k b n hm hO => c2.free k b n hm (c6 b hO).1
  have E : Evo W (Dom Xc βc) (lookE hc) βc W' (Dom (fun b => (Xc b ∧ ¬ O b) ∨ O' b) βc) (lookE hc) βc := by
    refine ⟨hs, fun b hb hd => ⟨hk b hb fun hO => hd (.inl (c6 b hO).1), fun h' => ?_⟩, fun k b n hm => ?_, keyRefl _ _⟩
    · rcases h' with (hx | hx) | hx
      · exact hd (.inl hx.1)
      · rcases ho b hx with hO | hO
        · exact hd (.inl (c6 b hO).1)
        · omega
      · exact hd (.inr hx)
    · unfold bsize World.shape?
      rw [hk b (c2.lt b (.inr ⟨k, n, hm⟩)) (own k b n hm)]
  refine ⟨⟨fun b => (Xc b ∧ ¬ O b) ∨ O' b, βc, ⟨fun b hb => .inl ⟨c1.1 b hb, fun hO => (c6 b hO).2.2 hb⟩, fun b hb => ?_⟩, ⟨fun k e he => (c2.ent k e he).evo E rfl fun b n hm => hk b (c2.lt b (.inr ⟨k, n, hm⟩)) (own k b n hm), c2.off, c2.disj, fun k b n hm hx => ?_, fun b hd => ?_⟩, fun t => (c3 t).evo E, ⟨c4.knd, Nat.le_trans c4.size hs, fun b hb hi hn => ?_, c4.own, c4.pas, fun k b n hm => ?_, o1.trans c4.os, o2.trans c4.tape, o3.trans c4.output⟩,
    ⟨bs, d1, d2, fun b hb => ?_⟩, fun b hb => ?_, c8, fun b hb => ?_, .inl ⟨c11, lo⟩⟩, lx, fun h => ?_, by rw [hk l hlW lo]; exact lh, ll, fun b hb => Nat.lt_of_lt_of_le (xl b hb) hs, nd⟩
  · rcases hb with hb | hb
    · exact c1.2 b hb.1
    · rcases ho b hb with hO | hO
      · exact c1.2 b (c6 b hO).1
      · exact .inr (Nat.le_trans c4.size hO)
  · rcases hx with hx | hx
    · exact c2.free k b n hm hx.1
    · rcases ho b hx with hO | hO
      · exact own k b n hm hO
      · have := c2.lt b (.inr ⟨k, n, hm⟩); omega
  · rcases hd with (hx | hx) | hx
    · exact Nat.lt_of_lt_of_le (c2.lt b (.inl hx.1)) hs
    · exact hl b hx
    · exact Nat.lt_of_lt_of_le (c2.lt b (.inr hx)) hs
  · rw [hk b (Nat.lt_of_lt_of_le hb c4.size) fun hO => by have := (c6 b hO).2.1; omega]
    exact c4.keep b hb hi hn
  · obtain ⟨n', _, hm'⟩ := c4.pas k b n hm
    rw [E.bs k b n' hm', c4.bs k b n hm]
  · obtain ⟨q1, q2, q3, q4⟩ := d3 b hb
    refine ⟨.inl ⟨q1, q4⟩, q2, by rw [hk b (c2.lt b (.inl q1)) q4]; exact q3, fun h => ?_⟩
    rcases ho b h with hO | hO
    · exact q4 hO
    · have := c2.lt b (.inl q1); omega
  · refine ⟨.inr hb, ?_⟩
    rcases ho b hb with hO | hO
    · exact (c6 b hO).2
    · exact ⟨Nat.le_trans c4.size hO, fun hx => by have := c2.lt b (.inl (c1.1 b hx)); omega⟩
  · rcases hb with hb | hb
    · exact (c10 b hb.1).imp id fun hO => absurd hO hb.2
    · exact .inr hb
  · rcases ho l h with hO | hO
    · exact lo hO
    · omega
/-- How a round is left. -/
def jumpOf (e : Exit) (c : Code) : Prop := (e = .ret ∧ c = .ret) ∨ ∃ id, e = .exit id ∧ c = .exit id
theorem Core.round {P : Program} {m : Nat} {ps : Array Tmp} {assign body : Code} {fn : FuncId} {bd : Nat} {Ks : List Nat} {ys : List AV} {cs : Array Value} {Rq : Exit → List (Nat × Ent) → Prop} (hps : ∀ p, p ∈ ps.toList → p < m) (hm : a.tmps.size = m) (gs : m ≤ GS)
    (hrec : rec = { state := .ready, pending := none, fn := fn, tmps := a.tmps, params := ps, assign := assign, body := body, defers := bd }) (C : Core F T a l hc rec O X W) (hT : ∀ t h', frzV Ks h' (look T t) = look T t) (hKs : ∀ k, k ∈ K0 → k ∈ Ks)
    (hys : cs.size = ys.length) (hpl : ps.size = ys.length) (hrep : ∀ (j : Nat) v, ys[j]? = some v → RepF W (fun b => X b ∨ O b) v (cs.getD j undef)) (hRq : ∀ e h, Rq e h → e = .normal ∨ e = .ret ∨ ∃ id, e = .exit id)
    (sim : ∀ (F1 : Fr (keys hc)), F1.it = true → F1.ro = some l → Sim P F1 m assign ⟨setTm ps.toList ys T, hc⟩ (fun e s => e = .normal ∧ ∀ (F2 : Fr (keys s.h)), F2.it = true → F2.ro = some l → Sim P F2 m body s (fun e s' => Rq e (restrH Ks (lookE s'.h))))) :
    YieldAt Fence.wide 0 P l cs W fun e W' => (e = .returned (.bool true) ∧ ∃ X', Quiet X X' W W' ∧ ∃ h', Rq .normal h' ∧ Core F T a l h' rec O X' W') ∨
      (e = .returned (.bool false) ∧ ∃ X', Quiet X X' W W' ∧ ∃ h' x c, jumpOf x c ∧ Rq x h' ∧ Core F T a l h' { rec with state := .done, pending := some c } O X' W') := by
  obtain ⟨⟨Xc, βc, c1, c2, c3, c4, ⟨bs, d1, d2, d3⟩, c6, c8, c10, c11⟩, lx, lo, lh, ll, xl, nd⟩ := C
  have hlW : l < W.heap.size := xl l lx
  subst hrec
  refine ⟨_, _, _, _, run_yield lh (by simpa using hys.trans hpl.symm), ?_⟩
  dsimp only
  refine roundIn_of_wpIn (F := Fence.wide) (n := 0) trivial ?_
  let F1 : Fr (keys hc) := ⟨Xc, W, βc, lookE hc, fun k b n hm => by
    cases hk : lookE hc k with
    | none => rw [c2.off k hk] at hm; simp at hm
    | some e => exact lookE_mem hk, fun k e he => lookE_mem he, some l, true, fun _ => False, fun _ _ _ _ => True, fun _ _ _ _ _ _ _ _ _ _ _ _ _ _ => trivial⟩
  have refl1 : ∀ {K1 : List Nat} (F : Fr K1), F.it = true → HOK F.X F.h0 F.β0 F.w0 → (∀ k, F.h0 k ≠ some .dead) → Keep F F.h0 F.β0 F.w0 := fun F _ H nd =>
    ⟨fun k e he => by
      cases e with
      | dead => exact absurd he (nd k)
      | box cs => exact ⟨cs, he⟩
      | arr sz xs sl => exact ⟨xs, sl, he, Nat.le_refl _⟩, Nat.le_refl _, fun _ _ _ _ => rfl, fun k b n hm => .inl ⟨k, n, hm⟩, fun k b n hm => ⟨n, Nat.le_refl _, hm⟩, fun _ _ _ _ => rfl, rfl, rfl, rfl⟩
  have fold_size : ∀ (z : List (Nat × Value)) (tm : Array Value), (z.foldl (fun tmps (p : Nat × Value) => tmps.setIfInBounds p.1 p.2) tm).size = tm.size := by
    intro z
    induction z with
    | nil => exact fun _ => rfl
    | cons p z ih => intro tm; rw [List.foldl_cons, ih]; simp
  have hfold : (ps.zip cs).foldl (fun tmps (p : Nat × Value) => tmps.setIfInBounds p.1 p.2) a.tmps = (ps.toList.zip cs.toList).foldl (fun tmps (p : Nat × Value) => tmps.setIfInBounds p.1 p.2) a.tmps := by
    rw [← Array.foldl_toList, Array.toList_zip]
  have R1 : RelS F1 m ⟨setTm ps.toList ys T, hc⟩ { tmps := (ps.zip cs).foldl (fun tmps (p : Nat × Value) => tmps.setIfInBounds p.1 p.2) a.tmps, defers := [] } W := by
    refine ⟨⟨Xc, βc, ⟨fun _ h => h, fun _ h => .inl h⟩, c2, fun t => ?_, refl1 F1 rfl c2 nd, fun _ _ => trivial, [], rfl, fun _ => rfl, List.nodup_nil, fun b hb => by simp at hb⟩, nd, gs, by rw [hfold, fold_size]; exact hm⟩
    rw [hfold]
    refine setTm_rep ps.toList ys cs.toList T a.tmps (by simpa using hys.symm) (fun j v c h1 h2 => ?_) (fun p hp => by rw [hm]; exact hps p hp) c3 t
    have h3 := hrep j v h1
    have e : cs.getD j undef = c := getD_of (by simpa using h2)
    rw [e] at h3
    exact .fz _ _ (h3.less fun b hd => hd.elim (c10 b) fun ho => .inl (c8 b ho))
  refine Code.wpIn_mono (fun e a1 w1 q => ?_) ((sim F1 rfl rfl).run _ _ R1)
  obtain ⟨s, ⟨rfl, hs⟩, ⟨⟨X1, β1, hX1, H1, Ht1, K1, _, bs1, hd1, hb1, _⟩, nd1, gs1, hl1⟩⟩ := q
  have := hb1 rfl
  subst this
  have G1 := K1.toGoes (fun _ h => h) c2 H1 nd
  have E1 := Keep.evo hX1 G1
  have hl1' : w1.heap[l]? = W.heap[l]? := K1.keep l hlW (fun h => h) fun k n hm => c2.free k l n hm c11
  have hX1l : X1 l := hX1.1 l c11
  refine ⟨_, run_beginRound (hl1'.trans lh) rfl, ?_⟩
  generalize hw2 : w1.putObj l _ = w2
  have sz2 : w2.heap.size = w1.heap.size := by rw [← hw2]; simp
  have kp2 : ∀ b, b ≠ l → w2.heap[b]? = w1.heap[b]? := fun b hb => by rw [← hw2]; exact World.putObj_heap_other hb
  have lb2 : w2.heap[l]? = some (.loop { state := .busy, pending := none, fn := fn, tmps := a.tmps, params := ps, assign := assign, body := body, defers := bd }) := by
    rw [← hw2]; exact World.putObj_heap_same (Nat.lt_of_lt_of_le hlW K1.size)
  have oth2 : w2.os = w1.os ∧ w2.tape = w1.tape ∧ w2.output = w1.output := by rw [← hw2]; exact ⟨rfl, rfl, rfl⟩
  have kp2' : ∀ b, b < w1.heap.size → ¬ X1 b → w2.heap[b]? = w1.heap[b]? := fun b _ hx => kp2 b fun e => hx (e ▸ hX1l)
  have H1' := H1.turn (Nat.le_of_eq sz2.symm) kp2'
  have E2 := turnEvo H1 (Nat.le_of_eq sz2.symm) kp2'
  let F2 : Fr (keys s.h) := ⟨X1, w2, β1, lookE s.h, fun k b n hm => by
    cases hk : lookE s.h k with
    | none => rw [H1.off k hk] at hm; simp at hm
    | some e => exact lookE_mem hk, fun k e he => lookE_mem he, some l, true, fun _ => False, fun _ _ _ _ => True, fun _ _ _ _ _ _ _ _ _ _ _ _ _ _ => trivial⟩
  have R2 : RelS F2 m s a1 w2 := ⟨⟨X1, β1, ⟨fun _ h => h, fun _ h => .inl h⟩, H1', fun t => (Ht1 t).evo E2, refl1 F2 rfl H1' nd1, fun _ _ => trivial, [], hd1, fun _ => rfl, List.nodup_nil, fun b hb => by simp at hb⟩, nd1, gs1, hl1⟩
  refine Code.wpIn_mono (fun e a2 w3 q => ?_) ((hs F2 rfl rfl).run _ _ R2)
  obtain ⟨s3, hq, ⟨⟨X3, β3, hX3, H3, _, K3, _⟩, nd3, _, _⟩⟩ := q
  have G3 := K3.toGoes (fun _ h => h) H1' H3 nd1
  have E3 := Keep.evo hX3 G3
  have lb3 := (K3.keep l (by show l < w2.heap.size; rw [sz2]; exact Nat.lt_of_lt_of_le hlW K1.size) (fun h => h) fun k n hm => H1.free k l n hm hX1l).trans lb2
  have hl3 : l < w3.heap.size := Nat.lt_of_lt_of_le (by rw [sz2]; exact Nat.lt_of_lt_of_le hlW K1.size) K3.size
  have hX3l : X3 l := hX3.1 l hX1l
  have s13 : W.heap.size ≤ w3.heap.size := Nat.le_trans K1.size (by rw [← sz2]; exact K3.size)
  have key : ∀ rec' : Loop, ∃ X', Quiet X X' W (w3.putObj l (.loop rec')) ∧ Core F T a l (restrH Ks (lookE s3.h)) rec' O X' (w3.putObj l (.loop rec')) := by
    intro rec'
    generalize hw4 : w3.putObj l (.loop rec') = w4
    have sz4 : w4.heap.size = w3.heap.size := by rw [← hw4]; simp
    have kp4 : ∀ b, b ≠ l → w4.heap[b]? = w3.heap[b]? := fun b hb => by rw [← hw4]; exact World.putObj_heap_other hb
    have lb4 : w4.heap[l]? = some (.loop rec') := by rw [← hw4]; exact World.putObj_heap_same hl3
    have oth4 : w4.os = w3.os ∧ w4.tape = w3.tape ∧ w4.output = w3.output := by rw [← hw4]; exact ⟨rfl, rfl, rfl⟩
    have kp4' : ∀ b, b < w3.heap.size → ¬ X3 b → w4.heap[b]? = w3.heap[b]? := fun b _ hx => kp4 b fun e => hx (e ▸ hX3l)
    obtain ⟨H4, hv4⟩ := H3.restr Ks
    have H5 := H4.turn (Nat.le_of_eq sz4.symm) kp4'
    have E5 := turnEvo H4 (Nat.le_of_eq sz4.symm) kp4'
    have oc : ∀ b, X3 b → Xc b ∨ W.heap.size ≤ b := fun b hb => by
      rcases hX3.2 b hb with h | h
      · exact hX1.2 b h
      · have h2 : w2.heap.size ≤ b := h
        rw [sz2] at h2
        exact .inr (Nat.le_trans K1.size h2)
    -- a block that was there, and that the iterator does not take for others', lies as it lay
    have old : ∀ b, b < W.heap.size → b ≠ l → ¬ Own βc b → w4.heap[b]? = W.heap[b]? := fun b hb hne hno => by
      rw [kp4 b hne]
      have h1 : ∀ k n, (b, n) ∉ β1 k := fun k n hm => by
        rcases K1.own k b n hm with ⟨k', n', h⟩ | h
        · exact hno ⟨k', n', h⟩
        · have : W.heap.size ≤ b := h; omega
      have q1 := K3.keep b (by show b < w2.heap.size; rw [sz2]; exact Nat.lt_of_lt_of_le hb K1.size) (fun h => h) h1
      have q2 := K1.keep b hb (fun h => h) fun k n hm => hno ⟨k, n, hm⟩
      exact q1.trans ((kp2 b hne).trans q2)
    have KF : Keep F (lookE (restrH Ks (lookE s3.h))) (βr Ks β3) w4 := by
      have k1 : Keep F (lookE s.h) β1 w1 := c4.goes G1 nd1 fun k b n hm => K1.pas k b n hm
      have k2 : Keep F (lookE s.h) β1 w2 := k1.turn H1 sz2 kp2' (fun b hb => kp2 b fun e => by omega) oth2.1 oth2.2.1 oth2.2.2
      have k3 : Keep F (lookE s3.h) β3 w3 := k2.goes G3 nd3 fun k b n hm => K3.pas k b n hm
      have k4 := k3.restr Ks hKs
      exact k4.turn H4 sz4 kp4' (fun b hb => kp4 b fun e => by omega) oth4.1 oth4.2.1 oth4.2.2
    refine ⟨fun b => X b ∨ Own (βr Ks β3) b ∨ (X3 b ∧ ¬ O b), ⟨by omega, fun b hb hx => ⟨old b hb (fun e => hx (e ▸ lx)) fun ho => hx (c8 b ho), fun h' => ?_⟩, fun b hb => .inl hb, fun b hb => ?_, ?_, ?_, ?_⟩, ⟨X3, βr Ks β3, ⟨fun b hb => hX3.1 b (hX1.1 b (c1.1 b hb)), fun b hb => ?_⟩, H5, fun t => ?_, KF, ⟨bs, d1, d2, fun b hb => ?_⟩, fun b hb => ?_, fun b hb => .inr (.inl hb), fun b hb => ?_, hX3l⟩, .inl lx, lo, lb4, ll, fun b hb => ?_, fun k => ?_⟩
    · rcases h' with h | ⟨k, n, hm⟩ | ⟨h, hO⟩
      · exact hx h
      · have hm := (βr_mem hm).2
        rcases K3.own k b n hm with ⟨k', n', h⟩ | h
        · rcases K1.own k' b n' h with ⟨k2, n2, h⟩ | h
          · exact hx (c8 b ⟨k2, n2, h⟩)
          · have : W.heap.size ≤ b := h; omega
        · have h2 : w2.heap.size ≤ b := h
          have := K1.size
          have : W.heap.size ≤ w1.heap.size := this
          omega
      · rcases oc b h with h | h
        · exact (c10 b h).elim hx hO
        · omega
    · rcases hb with h | ⟨k, n, hm⟩ | ⟨h, hO⟩
      · have := xl b h; omega
      · rw [sz4]; exact H3.lt b (.inr ⟨k, n, (βr_mem hm).2⟩)
      · rw [sz4]; exact H3.lt b (.inl h)
    · exact oth4.1.trans (K3.os.trans (oth2.1.trans K1.os))
    · exact oth4.2.1.trans (K3.tape.trans (oth2.2.1.trans K1.tape))
    · exact oth4.2.2.trans (K3.output.trans (oth2.2.2.trans K1.output))
    · rcases oc b hb with h | h
      · exact c1.2 b h
      · exact .inr (Nat.le_trans c4.size h)
    · have := hv4 _ _ ((((c3 t).evo E1).evo E2).evo E3)
      rw [hT] at this
      exact this.evo E5
    · obtain ⟨q1, q2, q3, q4⟩ := d3 b hb
      refine ⟨hX3.1 b (hX1.1 b q1), q2, ?_, q4⟩
      rw [old b (c2.lt b (.inl q1)) (fun e => by rw [e, lh] at q3; cases q3) fun ⟨k, n, hm⟩ => c2.free k b n hm q1]
      exact q3
    · exact ⟨hX3.1 b (hX1.1 b (c6 b hb).1), (c6 b hb).2⟩
    · by_cases hO : O b
      · exact .inr hO
      · exact .inl (.inr (.inr ⟨hb, hO⟩))
    · rcases hb with h | ⟨k, n, hm⟩ | ⟨h, hO⟩
      · have := xl b h; omega
      · rw [sz4]; exact H3.lt b (.inr ⟨k, n, (βr_mem hm).2⟩)
      · rw [sz4]; exact H3.lt b (.inl h)
    · rw [lookE_restrH]
      split
      · intro h
        rw [Option.map_eq_some_iff] at h
        obtain ⟨e, he, h2⟩ := h
        cases e with
        | dead => exact nd3 k he
        | box cs => cases h2
        | arr sz xs st => obtain ⟨xs2, fl2, h4, _⟩ := frzE_arr Ks (lookE s3.h) sz xs st; rw [h4] at h2; cases h2
      · intro h; cases h
  rcases hRq e _ hq with rfl | rfl | ⟨id, rfl⟩
  · obtain ⟨X', q1, q2⟩ := key { state := .ready, pending := none, fn := fn, tmps := a.tmps, params := ps, assign := assign, body := body, defers := bd }
    exact ⟨_, _, run_endRound none lb3, .inl ⟨rfl, X', q1, _, hq, q2⟩⟩
  · obtain ⟨X', q1, q2⟩ := key { state := .done, pending := some .ret, fn := fn, tmps := a.tmps, params := ps, assign := assign, body := body, defers := bd }
    exact ⟨_, _, run_endRound (some .ret) lb3, .inr ⟨rfl, X', q1, _, .ret, .ret, .inl ⟨rfl, rfl⟩, hq, q2⟩⟩
  · obtain ⟨X', q1, q2⟩ := key { state := .done, pending := some (.exit id), fn := fn, tmps := a.tmps, params := ps, assign := assign, body := body, defers := bd }
    exact ⟨_, _, run_endRound (some (.exit id)) lb3, .inr ⟨rfl, X', q1, _, .exit id, .exit id, .inr ⟨id, rfl, rfl⟩, hq, q2⟩⟩
end
end Av
end Go.Proofs.Ytianonghhmiooaa
/- Abstract values: a range over a function. -/
namespace Go.Proofs.Ytianonghhmiooaa
namespace Av
set_option linter.unusedSimpArgs false
set_option linter.unusedVariables false

theorem alloc_old (w : World) (o : Obj) (b : Nat) (h : b < w.heap.size) : (w.alloc o).heap[b]? = w.heap[b]? := by
  show (w.heap.push o)[b]? = _
  rw [Array.getElem?_push, if_neg (by omega)]
theorem Keep.grow {K0 : List Nat} {F : Fr K0} {h : Heap} {β : Map} {w w' : World} {X : Nat → Prop} (K : Keep F h β w) (H : HOK X h β w) (hs : w.heap.size ≤ w'.heap.size) (hk : ∀ b, b < w.heap.size → w'.heap[b]? = w.heap[b]?) (o1 : w'.os = w.os) (o2 : w'.tape = w.tape) (o3 : w'.output = w.output) : Keep F h β w' :=
  ⟨K.knd, Nat.le_trans K.size hs, fun b hb hi hn => by rw [hk b (Nat.lt_of_lt_of_le hb K.size)]; exact K.keep b hb hi hn, K.own, K.pas, fun k b n hm => by
    rw [← K.bs k b n hm]
    obtain ⟨n', _, hm'⟩ := K.pas k b n hm
    unfold bsize World.shape?
    rw [hk b (H.lt b (.inr ⟨k, n', hm'⟩))], o1.trans K.os, o2.trans K.tape, o3.trans K.output⟩
section
variable {P : Program} {K0 : List Nat} {F : Fr K0} {m : Nat} {st : St} {T : List (Nat × AV)} {a : Act} {l : Nat} {hc : List (Nat × Ent)} {rec : Loop} {O X : Nat → Prop} {W : World}
/-- The loop is over: on in the function that ranges. -/
theorem Core.rel (C : Core F T a l hc rec O X W) (hit : F.it = false) (hT : ∀ i, look T GS ≠ .gh i) (gs : m ≤ GS) (hl : a.tmps.size = m) (o : Obj) : RelS F m ⟨T, hc⟩ a (W.putObj l o) := by
  obtain ⟨⟨Xc, βc, c1, c2, c3, c4, ⟨bs, d1, d2, d3⟩, c6, c8, c10, c11⟩, lx, lo, lh, ll, xl, nd⟩ := C
  have sz : (W.putObj l o).heap.size = W.heap.size := by simp
  have kp : ∀ b, b ≠ l → (W.putObj l o).heap[b]? = W.heap[b]? := fun b hb => World.putObj_heap_other hb
  have kp' : ∀ b, b < W.heap.size → ¬ Xc b → (W.putObj l o).heap[b]? = W.heap[b]? := fun b _ hx => kp b fun e => hx (e ▸ c11)
  refine ⟨⟨Xc, βc, c1, c2.turn (Nat.le_of_eq sz.symm) kp', fun t => (c3 t).evo (turnEvo c2 (Nat.le_of_eq sz.symm) kp'), c4.turn c2 sz kp' (fun b hb => kp b fun e => by omega) rfl rfl rfl, fun i hi => absurd hi (hT i), bs, d1, (fun h => by rw [hit] at h; cases h), d2, fun b hb => ?_⟩, nd, gs, hl⟩
  obtain ⟨q1, q2, q3, q4⟩ := d3 b hb
  exact ⟨q1, q2, by rw [kp b fun e => by rw [e, lh] at q3; cases q3]; exact q3⟩
/-- The end of a round of a range over a function. -/
def rfQ (Ks : List Nat) (h' : List (Nat × Ent)) (p : Prop) (Q : Exit → St → Prop) (T : List (Nat × AV)) : Exit → St → Prop
  | .normal, s => restrH Ks (lookE s.h) = h' ∧ p
  | .ret, s => Q .ret ⟨T, restrH Ks (lookE s.h)⟩
  | .exit id, s => Q (.exit id) ⟨T, restrH Ks (lookE s.h)⟩
  | _, _ => False
theorem sim_rangeFunc {g : Operand} {ps : Array Tmp} {assign body : Code} {f : Nat} {caps : List AV} {h0 : List (Nat × Ent)} {xs : List (List AV)} {Q : Exit → St → Prop} (hF : F.ro = none ∧ F.it = false) (hit : IterSim P f caps h0 xs) (hg : opv (look st.tm) g = .fn f caps)
    (Ks ts : List Nat) (hKs : K0.all (Ks.contains ·) = true) (hdis : Ks.all (fun k => !(keys h0).contains k) = true) (hh0 : (keys h0).map (lookE st.h) = (keys h0).map (lookE h0)) (hcl : h0.all (fun p => clE (keys h0) p.2) = true)
    (hcap : (refsL caps).all ((keys h0).contains ·) = true) (hts : ts.all (fun t => (look st.tm t).refs.all (fun k => !(keys h0).contains k)) = true)
    (hks : Ks.all (fun k => match lookE st.h k with | some (.box cs) => (refsL cs).all (fun j => !(keys h0).contains j) | _ => true) = true) (hgs : ts.all (fun t => !(Nat.beq t GS)) = true) (hps : ps.toList.all (Nat.blt · m) = true) (hpl : ∀ (i : Nat) ys, xs[i]? = some ys → ps.size = ys.length)
    (H : Nat → List (Nat × Ent)) (I : Nat → Prop) {T : List (Nat × AV)} (e0 : restr Ks ts st = ⟨T, H 0⟩) (i0 : I 0)
    (round : ∀ (i : Nat) ys l, xs[i]? = some ys → I i → ∀ (F1 : Fr (keys (H i))), F1.it = true → F1.ro = some l → Sim P F1 m assign ⟨setTm ps.toList ys T, H i⟩ (fun e s => e = .normal ∧ ∀ (F2 : Fr (keys s.h)), F2.it = true → F2.ro = some l → Sim P F2 m body s (rfQ Ks (H (i + 1)) (I (i + 1)) Q T)))
    (done : I xs.length → Q .normal ⟨T, H xs.length⟩) (hnn : nnH st.h = true := by rfl) : Sim P F m (.rangeFunc g ps assign body) st Q := ⟨fun a w R => by
  rw [hF.1]
  change Code.wpIn Fence.wide 0 P _ _ a w
  obtain ⟨⟨X0, β, hX, HH, Ht, KK, _, bs, hds, _, hbn, hbs⟩, nd, gs, hl⟩ := R
  -- the conditions, in words
  have hK : ∀ k, k ∈ keys h0 → lookE st.h k = lookE h0 k := fun k hk => by
    obtain ⟨i, hi⟩ := List.getElem?_of_mem hk
    have := congrArg (·[i]?) hh0
    simpa [hi] using this
  have hclosed : ∀ k e, lookE h0 k = some e → clE (keys h0) e = true := fun k e hk => by
    obtain ⟨p, hp, he⟩ := lookE_pair hk
    have := List.all_eq_true.1 hcl p hp
    rw [he] at this
    exact this
  have hdis' : ∀ k, k ∈ keys h0 → ¬ k ∈ Ks := fun k h1 h2 => by
    have := List.all_eq_true.1 hdis k h2
    simp at this
    exact this h1
  have hent : ∀ k cs, k ∈ Ks → lookE st.h k = some (.box cs) → ∀ j, j ∈ refsL cs → ¬ j ∈ keys h0 := fun k cs hk he j hj h1 => by
    have := List.all_eq_true.1 hks k hk
    rw [he] at this
    have := List.all_eq_true.1 this j hj
    simp at this
    exact this h1
  have hK0 : ∀ k, k ∈ K0 → k ∈ Ks := fun k hk => by simpa using List.all_eq_true.1 hKs k hk
  have hTt : T = ts.map fun t => (t, frzV Ks (lookE st.h) (look st.tm t)) := by have := congrArg St.tm e0; exact this.symm
  have hH0 : restrH Ks (lookE st.h) = H 0 := congrArg St.h e0
  have hlook : ∀ t, look T t = if t ∈ ts then frzV Ks (lookE st.h) (look st.tm t) else .bot := fun t => by
    rw [← look_restr Ks ts st t, e0]
  have hTi : ∀ t h', frzV Ks h' (look T t) = look T t := fun t h' => by
    rw [hlook]
    split
    · exact frz_idem _ _ _ _
    · rfl
  have hTg : ∀ i, look T GS ≠ .gh i := fun i => by
    rw [hlook]
    split
    · rename_i h
      have := List.all_eq_true.1 hgs GS h
      simp at this
    · intro h; cases h
  -- the iterator
  have hfv := opv_rep Ht g
  rw [hg] at hfv
  obtain ⟨cv, hfx, hcvl, hcv⟩ : ∃ cv : Array Value, a.eval g = .func (.func f) #[] cv ∧ cv.size = caps.length ∧ ∀ (i : Nat) v, caps[i]? = some v → RepV w (Dom X0 β) (lookE st.h) β v (cv.getD i undef) := by
    generalize a.eval g = cx at hfv
    cases hfv with
    | fz _ _ hf => cases hf
    | fn _ _ c hl hh => exact ⟨c, rfl, hl, hh⟩
  refine wpIn_rangeFunc (F := Fence.wide) (n := 0) fun fn _ => ?_
  -- two new blocks
  generalize hrec : ({ state := .ready, pending := none, fn := fn, tmps := a.tmps, params := ps, assign := assign, body := body, defers := w.heap.size } : Loop) = rec
  obtain ⟨w1, hw1⟩ : ∃ w1, w1 = (w.alloc (.deferred (some []))).alloc (.loop rec) := ⟨_, rfl⟩
  have sz1 : w1.heap.size = w.heap.size + 2 := by rw [hw1]; simp
  have kp1 : ∀ b, b < w.heap.size → w1.heap[b]? = w.heap[b]? := fun b hb => by rw [hw1, alloc_old _ _ b (by simp; omega), alloc_old _ _ b hb]
  have hbd : w1.heap[w.heap.size]? = some (.deferred (some [])) := by rw [hw1, alloc_old _ _ _ (by simp)]; exact World.alloc_heap_new _ _
  have hlp : w1.heap[w.heap.size + 1]? = some (.loop rec) := by
    rw [hw1]
    have := World.alloc_heap_new (w.alloc (.deferred (some []))) (.loop rec)
    simpa using this
  have oth1 : w1.os = w.os ∧ w1.tape = w.tape ∧ w1.output = w.output := by rw [hw1]; exact ⟨rfl, rfl, rfl⟩
  have hent1 : (Instr.enterLoop fn a.tmps ps assign body none).run P w = .ok (w.heap.size + 1, [{ target := .collected w.heap.size, args := #[] }]) w1 := by
    rw [hw1, ← hrec]; exact run_enterLoop_outer fn a.tmps ps assign body
  generalize hl0 : w.heap.size + 1 = l at hlp hent1
  let a' : Act := { a with defers := [{ target := .collected w.heap.size, args := #[] }] ++ a.defers }
  let J : Nat → (Nat → Prop) → (Nat → Prop) → World → Prop := fun i O X W => (i ≤ xs.length ∧ I i ∧ Core F T a' l (H i) rec O X W) ∨
    (xs.length < i ∧ ∃ h' x c, jumpOf x c ∧ Q x ⟨T, h'⟩ ∧ Core F T a' l h' { rec with state := .done, pending := some c } O X W)
  have Jst : ∀ i O X w w' O', J i O X w → w.heap.size ≤ w'.heap.size → (∀ b, b < w.heap.size → ¬ O b → w'.heap[b]? = w.heap[b]?) → (∀ b, O' b → O b ∨ w.heap.size ≤ b) → (∀ b, O' b → b < w'.heap.size) → w'.os = w.os → w'.tape = w.tape → w'.output = w.output → J i O' X w' := by
    rintro i O X v v' O' (⟨h1, hI, h2⟩ | ⟨h1, h', x, c, h2, h3, h4⟩) q1 q2 q3 q4 q5 q6 q7
    · exact .inl ⟨h1, hI, h2.stab q1 q2 q3 q4 q5 q6 q7⟩
    · exact .inr ⟨h1, h', x, c, h2, h3, h4.stab q1 q2 q3 q4 q5 q6 q7⟩
  -- the blocks
  let O0 : Nat → Prop := Own (βr (keys h0) β)
  let Xa : Nat → Prop := fun b => X0 b ∨ ∃ k n, k ∈ keys h0 ∧ (b, n) ∈ β k
  let Xc : Nat → Prop := fun b => Xa b ∨ b = w.heap.size ∨ b = l
  let Xi : Nat → Prop := fun b => X0 b ∨ Own (βr Ks β) b
  let X1 : Nat → Prop := fun b => Xi b ∨ b = w.heap.size ∨ b = l
  have hOlt : ∀ b, O0 b → b < w.heap.size := fun b ⟨k, n, hm⟩ => HH.lt b (.inr ⟨k, n, (βr_mem hm).2⟩)
  have hXalt : ∀ b, Xa b → b < w.heap.size := fun b hb => hb.elim (fun h => HH.lt b (.inl h)) fun ⟨k, n, _, hm⟩ => HH.lt b (.inr ⟨k, n, hm⟩)
  have hXilt : ∀ b, Xi b → b < w.heap.size := fun b hb => hb.elim (fun h => HH.lt b (.inl h)) fun ⟨k, n, hm⟩ => HH.lt b (.inr ⟨k, n, (βr_mem hm).2⟩)
  have hOX : ∀ b, O0 b → ¬ X0 b := fun b ⟨k, n, hm⟩ hx => HH.free k b n (βr_mem hm).2 hx
  obtain ⟨H1, hv1⟩ := HH.restrX (X' := Xa) Ks (keys h0) (fun b hb => hb) hdis' (nnH_at hnn) hent
  have Q1 : Quiet Xa Xc w w1 := ⟨by omega, fun b hb hx => ⟨kp1 b hb, fun h => by
    rcases h with h | h | h
    · exact hx h
    · omega
    · omega⟩, fun b hb => .inl hb, fun b hb => by
    rcases hb with h | h | h
    · have := hXalt b h; omega
    · omega
    · omega, oth1.1, oth1.2.1, oth1.2.2⟩
  obtain ⟨H2, hv2⟩ := lend (Xc := Xi) HH hK hclosed (fun b hb => by
    rcases hb with h | ⟨k, n, hm⟩
    · exact .inl h
    · obtain ⟨hk, hm⟩ := βr_mem hm
      exact .inr ⟨k, n, fun h => hdis' k h hk, hm⟩)
  have Q2 : Quiet Xi X1 w w1 := ⟨by omega, fun b hb hx => ⟨kp1 b hb, fun h => by
    rcases h with h | h | h
    · exact hx h
    · omega
    · omega⟩, fun b hb => .inl hb, fun b hb => by
    rcases hb with h | h | h
    · have := hXilt b h; omega
    · omega
    · omega, oth1.1, oth1.2.1, oth1.2.2⟩
  have C0 : Core F T a' l (H 0) rec O0 X1 w1 := by
    rw [← hH0]
    refine ⟨⟨Xc, βr Ks β, ⟨fun b hb => .inl (.inl (hX.1 b hb)), fun b hb => ?_⟩, Q1.hok H1, fun t => ?_, (KK.restr Ks hK0).grow H1 (by omega) kp1 oth1.1 oth1.2.1 oth1.2.2, ⟨w.heap.size :: bs, ?_, ?_, fun b hb => ?_⟩, fun b hb => ?_, fun b hb => .inl (.inr hb), fun b hb => ?_, .inr (.inr rfl)⟩, .inr (.inr rfl), fun h => ?_, hlp, ?_, Q2.lt, fun k => ?_⟩
    · rcases hb with (h | ⟨k, n, hk, hm⟩) | h | h
      · exact hX.2 b h
      · rcases KK.own k b n hm with ⟨k', n', h⟩ | h
        · exfalso
          obtain ⟨n'', _, hm'⟩ := KK.pas k' b n' h
          have := HH.disj k k' b n n'' hm hm'
          subst this
          exact hdis' k hk (hK0 k (F.hK k b n' h))
        · exact .inr h
      · exact .inr (by have := KK.size; omega)
      · exact .inr (by have := KK.size; omega)
    · rw [hlook]
      split
      · rename_i ht
        exact (hv1 _ _ (fun j hj h1 => by
          have := List.all_eq_true.1 hts t ht
          have := List.all_eq_true.1 this j hj
          simp at this
          exact this h1) (Ht t)).evo (Q1.evo H1)
      · exact .fz _ _ (.bot _)
    · show [_] ++ a.defers = _
      rw [hds]; rfl
    · refine List.nodup_cons.2 ⟨fun h => ?_, hbn⟩
      have := HH.lt _ (.inl (hbs _ h).1)
      omega
    · rcases List.mem_cons.1 hb with rfl | hb
      · exact ⟨.inr (.inl rfl), KK.size, hbd, fun h => by have := hOlt _ h; omega⟩
      · obtain ⟨q1, q2, q3⟩ := hbs b hb
        exact ⟨.inl (.inl q1), q2, by rw [kp1 b (HH.lt b (.inl q1))]; exact q3, fun h => hOX b h q1⟩
    · obtain ⟨k, n, hm⟩ := hb
      obtain ⟨hk, hm⟩ := βr_mem hm
      refine ⟨.inl (.inr ⟨k, n, hk, hm⟩), ?_, fun h => HH.free k b n hm (hX.1 b h)⟩
      rcases KK.own k b n hm with ⟨k', n', h⟩ | h
      · exfalso
        obtain ⟨n'', _, hm'⟩ := KK.pas k' b n' h
        have := HH.disj k k' b n n'' hm hm'
        subst this
        exact hdis' k hk (hK0 k (F.hK k b n' h))
      · exact h
    · rcases hb with (h | ⟨k, n, hk, hm⟩) | h | h
      · exact .inl (.inl (.inl h))
      · exact .inr ⟨k, n, by rw [βr_in hk]; exact hm⟩
      · exact .inl (.inr (.inl h))
      · exact .inl (.inr (.inr h))
    · have := hOlt _ h; omega
    · have := KK.size; omega
    · rw [lookE_restrH]
      split
      · intro h
        rw [Option.map_eq_some_iff] at h
        obtain ⟨e, he, h2⟩ := h
        cases e with
        | dead => exact nd k he
        | box cs => cases h2
        | arr sz xs fl => obtain ⟨xs2, fl2, h4, _⟩ := frzE_arr Ks (lookE st.h) sz xs fl; rw [h4] at h2; cases h2
      · intro h; cases h
  let Fi : Fr (keys h0) := ⟨X1, w1, βr (keys h0) β, lookE h0, fun k b n hm => (βr_mem hm).1, fun k e he => lookE_mem he, none, true, X1, J, Jst⟩
  have call := hit.sim l cv Fi ⟨rfl, fun _ h => h⟩ rfl rfl hcvl (Q2.hok H2) (fun i v hv => (hv2 v _ (hcv i v hv) (fun k hk => by
      have := List.all_eq_true.1 hcap k (refsL_at hv hk)
      simpa using this)).evo (Q2.evo H2)) (.inl ⟨Nat.zero_le _, i0, C0⟩) (by
    intro i ys X O W cs hys hj hcs hrep
    have hilt : i < xs.length := (List.getElem?_eq_some_iff.1 hys).1
    rcases hj with ⟨_, hI, C⟩ | ⟨h, _⟩
    case inr => omega
    have hd := C.round (P := P) (m := m) (Ks := Ks) (ys := ys) (cs := cs) (Rq := fun e h' => (e = .normal ∧ h' = H (i + 1) ∧ I (i + 1)) ∨ ((e = .ret ∨ ∃ id, e = .exit id) ∧ Q e ⟨T, h'⟩)) (fun p hp => by simpa using List.all_eq_true.1 hps p hp) (show a'.tmps.size = m from hl) gs hrec.symm hTi hK0 hcs (hpl i ys hys) hrep
      (fun e h hq => by
        rcases hq with ⟨rfl, _⟩ | ⟨h | h, _⟩
        · exact .inl rfl
        · exact .inr (.inl h)
        · exact .inr (.inr h)) (fun F1 f1 f2 => (round i ys l hys hI F1 f1 f2).mono fun e s ⟨he, hb⟩ => ⟨he, fun F2 g1 g2 => (hb F2 g1 g2).mono fun e' s' hq => by
          cases e' with
          | normal => exact .inl ⟨rfl, hq⟩
          | ret => exact .inr ⟨.inl rfl, hq⟩
          | exit id => exact .inr ⟨.inr ⟨id, rfl⟩, hq⟩
          | goto t => exact hq.elim
          | panic c => exact hq.elim
          | outgrown => exact hq.elim⟩)
    obtain ⟨fn', tm', as', bo', h1, h2⟩ := hd
    refine ⟨fn', tm', as', bo', h1, RoundIn.mono h2 ?_⟩
    rintro e W' (⟨he, X', q, h', hq, C'⟩ | ⟨he, X', q, h', x, c, hx, hq, C'⟩)
    · refine .inl ⟨he, X', q, .inl ⟨by omega, ?_⟩⟩
      rcases hq with ⟨_, rfl, hI'⟩ | ⟨h | ⟨id, h⟩, _⟩
      · exact ⟨hI', C'⟩
      · cases h
      · cases h
    · refine .inr ⟨he, X', q, .inr ⟨by omega, h', x, c, hx, ?_, C'⟩⟩
      rcases hq with ⟨h, _⟩ | ⟨_, h⟩
      · rcases hx with ⟨rfl, _⟩ | ⟨id, rfl, _⟩ <;> cases h
      · exact h)
  refine ⟨l, [{ target := .collected w.heap.size, args := #[] }], w1, { target := .fn (.func f) cv, args := #[.func (.yield l) #[] #[]] }, w1, f, #[.func (.yield l) #[] #[]] ++ cv, w1, hent1, ?_, fun _ _ => trivial, (by simp only [invoke]; exact hit.able _ _), fun h => by simp [Fence.wide] at h, ?_⟩
  · unfold resolve rangeCall
    dsimp only
    rw [hfx]
    simp [Deferred.ofValue, Act.eval]
  · refine callsIn_wide.2 (Calls.mono call ?_)
    rintro e w' ⟨⟨v, rfl⟩, i, O, X, hj, hi⟩
    have len' : a'.tmps.size = m := hl
    rcases hj with ⟨h1, hI, C⟩ | ⟨h1, h', x, c, hx, hq, C⟩
    · obtain rfl : i = xs.length := by omega
      refine ⟨_, _, run_endLoop C.lh (by rw [← hrec]; intro h; cases h), ?_⟩
      rw [show rec.pending = none by rw [← hrec]]
      exact ⟨_, done hI, C.rel hF.2 hTg gs len' _⟩
    · refine ⟨_, _, run_endLoop C.lh (by intro h; cases h), ?_⟩
      have R := C.rel hF.2 hTg gs len' (.loop { ({ rec with state := .done, pending := some c } : Loop) with state := .exhausted })
      rcases hx with ⟨rfl, rfl⟩ | ⟨id, rfl, rfl⟩
      · exact wpIn_ret ⟨_, hq, R⟩
      · exact wpIn_exit ⟨_, hq, R⟩⟩
end
end Av
end Go.Proofs.Ytianonghhmiooaa
/- Abstract values: bytes as strings, parts of slices, bits. -/
namespace Go.Proofs.Ytianonghhmiooaa
namespace Av
set_option linter.unusedSimpArgs false
set_option linter.unusedVariables false

def byA (n : Int) : AV := .s (.int .u8 n)
/-- Are the bytes the same? -/
def eqY (a b : List Int) : Bool := (strOfNums a).toList == (strOfNums b).toList
/-- Bytes. -/
def BY (l : List Int) : Prop := ∀ x ∈ l, 0 ≤ x ∧ x < 256
theorem strOfNums_inj {a b : List Int} (ha : BY a) (hb : BY b) (h : (a.map fun n => UInt8.ofNat n.toNat) = b.map fun n => UInt8.ofNat n.toNat) : a = b := by
  induction a generalizing b with
  | nil => cases b with
    | nil => rfl
    | cons y b => simp at h
  | cons x a ih => cases b with
    | nil => simp at h
    | cons y b =>
      simp only [List.map_cons, List.cons.injEq] at h
      have hx := ha x (by simp)
      have hy := hb y (by simp)
      have h1 := congrArg UInt8.toNat h.1
      simp only [UInt8.toNat_ofNat'] at h1
      have : x = y := by omega
      rw [this, ih (fun z hz => ha z (by simp [hz])) (fun z hz => hb z (by simp [hz])) h.2]
theorem toList_str (a : List Int) : (strOfNums a).toList = a.map fun n => UInt8.ofNat n.toNat := by
  rw [ByteArray.toList_eq]
  rfl
theorem eqY_eq (a b : List Int) : eqY a b = decide ((a.map fun n => UInt8.ofNat n.toNat) = b.map fun n => UInt8.ofNat n.toNat) := by
  unfold eqY
  rw [toList_str, toList_str]
  rw [Bool.eq_iff_iff]
  simp
theorem eqY_refl (a : List Int) : eqY a a = true := by rw [eqY_eq]; simp
theorem eqY_comm (a b : List Int) : eqY a b = eqY b a := by rw [eqY_eq, eqY_eq]; simp [eq_comm]
theorem eqY_iff {a b : List Int} (ha : BY a) (hb : BY b) : eqY a b = decide (a = b) := by
  rw [eqY_eq]
  by_cases h : a = b
  · simp [h]
  · rw [decide_eq_false h, decide_eq_false]
    exact fun hh => h (strOfNums_inj ha hb hh)
def andI (m n : Int) : Int := IntKind.i64.wrap (BitVec.ofInt IntKind.i64.bits m &&& BitVec.ofInt IntKind.i64.bits n).toNat
def orI (m n : Int) : Int := IntKind.i64.wrap (BitVec.ofInt IntKind.i64.bits m ||| BitVec.ofInt IntKind.i64.bits n).toNat
def bicI (m n : Int) : Int := IntKind.i64.wrap (BitVec.ofInt IntKind.i64.bits m &&& ~~~BitVec.ofInt IntKind.i64.bits n).toNat
section
variable {P : Program} {TT : List TI} {tm : List (Nat × AV)} {h : List (Nat × Ent)} {tx ty : Nat} {x y : Operand}
theorem stp_andI {m n : Int} (hx : opv (look tm) x = .s (.int .i64 m)) (hy : opv (look tm) y = .s (.int .i64 n)) : Stp P ⟨tm, h⟩ (.binOp .and tx x y ty) (.s (.int .i64 (andI m n))) [] [] [] := stp_and hx hy
theorem stp_orI {m n : Int} (hx : opv (look tm) x = .s (.int .i64 m)) (hy : opv (look tm) y = .s (.int .i64 n)) : Stp P ⟨tm, h⟩ (.binOp .or tx x y ty) (.s (.int .i64 (orI m n))) [] [] [] := stp_or hx hy
theorem stp_bicI {m n : Int} (hx : opv (look tm) x = .s (.int .i64 m)) (hy : opv (look tm) y = .s (.int .i64 n)) : Stp P ⟨tm, h⟩ (.binOp .andNot tx x y ty) (.s (.int .i64 (bicI m n))) [] [] [] := stp_andNot hx hy
theorem stp_strEq {a b : List Int} (hx : opv (look tm) x = .s (.string (strOfNums a))) (hy : opv (look tm) y = .s (.string (strOfNums b))) : Stp P ⟨tm, h⟩ (.binOp .eql tx x y ty) (.s (.bool (eqY a b))) [] [] [] := stp_string2 hx hy (.inl ⟨rfl, rfl⟩)
theorem stp_strNe {a b : List Int} (hx : opv (look tm) x = .s (.string (strOfNums a))) (hy : opv (look tm) y = .s (.string (strOfNums b))) : Stp P ⟨tm, h⟩ (.binOp .neq tx x y ty) (.s (.bool (!eqY a b))) [] [] [] := stp_string2 hx hy (.inr ⟨rfl, rfl⟩)
/-- Bytes to a string. -/
theorem stp_convStr (hP : TOK P TT) {src dst e : Nat} {ts te td : TI} {nn : Bool} {xs : List AV} {l : List Int} (hs : TT[src]? = some ts) (hsd : ts.d = .slice e) (he : TT[e]? = some te) (hek : te.d = .int .u8) (hd : TT[dst]? = some td) (hdd : td.d = .string)
    (hx : opv (look tm) x = .sl nn xs) (hl : xs = l.map byA) : Stp P ⟨tm, h⟩ (.convert src dst x) (.s (.string (strOfNums l))) [] [] [] :=
  stp_val fun o X tm h w β a ho hg _ HH Ht => by
    obtain ⟨dst', op', type, pos, after, guard⟩ := o
    dsimp only at ho; subst ho
    have h1 := arg Ht hg (x := x) (by simp [Op.operands]) hx
    obtain ⟨_, u1, _, _, hu1, _, hd1, _⟩ := tiOf_some (hP _ _ hs)
    obtain ⟨_, u2, _, _, hu2, _, hd2, _⟩ := tiOf_some (hP _ _ he)
    obtain ⟨_, u3, _, _, hu3, _, hd3, _⟩ := tiOf_some (hP _ _ hd)
    obtain rfl := td_slice (hd1.symm.trans hsd)
    obtain rfl := td_int (hd2.symm.trans hek)
    obtain rfl := td_string (hd3.symm.trans hdd)
    subst hl
    refine ⟨.string (strOfNums l), ?_, .fz _ _ (.s _)⟩
    have key : (convert src dst (a.eval x)).run P w = .ok (.string (strOfNums l)) w := by
      generalize a.eval x = cx at h1
      cases h1 with
      | fz _ _ hf =>
        generalize hxs : l.map byA = xs at hf
        cases hf with
        | nil b cap =>
          obtain rfl : l = [] := by cases l with
            | nil => rfl
            | cons z l => simp at hxs
          cases b with
          | none => exact run_convert_bytes_nil w src e hu1 hu2 0 cap dst hu3
          | some b =>
            rw [run_convert_bytes_string w src dst e _ 0 cap hu1 hu2 hu3]
            simp [Conv.bytesToString, loadCells]
            rfl
        | nil1 b cap =>
          obtain rfl : l = [] := by cases l with
            | nil => rfl
            | cons z l => simp at hxs
          rw [run_convert_bytes_string w src dst e _ 0 cap hu1 hu2 hu3]
          simp [Conv.bytesToString, loadCells]
          rfl
        | sl _ _ b o sz cap f hx hL hcc hh =>
          subst hxs
          have hat : ∀ i, i < l.length → (l.map byA)[i]? = some (byA (l.getD i 0)) := fun i hi => by simp [List.getD, hi]
          have hsz : sz = 1 := by
            cases l with
            | nil => exact absurd rfl hx
            | cons z l => exact (hL.wide 0 (byA z) rfl).symm
          subst hsz
          have := run_convert_bytes_arg (P := P) w src e hu1 hu2 b o (l.map byA).length cap l (by simp) (fun i hi => by
            have hi' : i < l.length := by simpa using hi
            have h2 := hL.cell i 0 (by simpa using hi') (by omega)
            have h3 := (hh i _ 0 (byA (l.getD i 0)) (hat i hi') rfl)
            rw [show o + i = o + i * 1 + 0 by omega, h2]
            unfold byA at h3
            generalize f i 0 = c at h3
            cases h3
            rfl) dst hu3
          exact this
    simp [execOp, key]
end
section
variable {P : Program} {TT : List TI} {K0 : List Nat} {F : Fr K0} {m : Nat} {ops : Array Oper} {rest : List Oper} {Q : List FP → St → Prop} {tm : List (Nat × AV)} {h : List (Nat × Ent)} {dr : Bool} {fs : List FP}
variable {ty : Nat} {pos : String} {after : Array Edge} {t : Nat}
theorem is_slc {T : Nat} {x : Operand} {lo hi mx : Option Operand} {st : St} (hk : OpsX P F m ops dr (⟨some t, .slice T x lo hi mx, ty, pos, after, none⟩ :: rest) st fs Q) : OpsX P F m ops dr (⟨some t, .slice T x lo hi mx, ty, pos, after, none⟩ :: rest) st fs Q := hk
theorem x_slcL (hP : TOK P TT) {T e : Nat} {x l : Operand} {ti te : TI} {nn : Bool} {xs ys : List AV} {k : IntKind} {i : Int} (hx : opv (look tm) x = .sl nn xs) (hl : opv (look tm) l = .s (.int k i)) (hT : TT[T]? = some ti) (hd : ti.d = .slice e) (he : TT[e]? = some te)
    (hsz : ∀ y, xs[0]? = some y → y.cells.length = te.size) (h0 : 0 ≤ i) (h1 : i ≤ xs.length) (hy : xs.drop i.toNat = ys) (hm : Nat.blt t m = true) (hk : OpsX P F m ops dr rest ⟨(t, .sl nn ys) :: tm, h⟩ (⟨true, [], []⟩ :: fs) Q) :
    OpsX P F m ops dr (⟨some t, .slice T x (some l) none none, ty, pos, after, none⟩ :: rest) ⟨tm, h⟩ fs Q := by
  have := stp_slice_sl (P := P) (st := ⟨tm, h⟩) (lo := some l) (hi := none) (l := i.toNat) (r := xs.length) hP hx hT hd he ⟨k, i, hl, by omega⟩ rfl (by omega) (Nat.le_refl _) hsz
  rw [show (xs.drop i.toNat).take (xs.length - i.toNat) = ys by rw [← hy]; exact List.take_of_length_le (by simp)] at this
  exact x_q this hm hk
theorem x_slcH (hP : TOK P TT) {T e : Nat} {x l : Operand} {ti te : TI} {nn : Bool} {xs ys : List AV} {k : IntKind} {i : Int} (hx : opv (look tm) x = .sl nn xs) (hl : opv (look tm) l = .s (.int k i)) (hT : TT[T]? = some ti) (hd : ti.d = .slice e) (he : TT[e]? = some te)
    (hsz : ∀ y, xs[0]? = some y → y.cells.length = te.size) (h0 : 0 ≤ i) (h1 : i ≤ xs.length) (hy : xs.take i.toNat = ys) (hm : Nat.blt t m = true) (hk : OpsX P F m ops dr rest ⟨(t, .sl nn ys) :: tm, h⟩ (⟨true, [], []⟩ :: fs) Q) :
    OpsX P F m ops dr (⟨some t, .slice T x none (some l) none, ty, pos, after, none⟩ :: rest) ⟨tm, h⟩ fs Q := by
  have := stp_slice_sl (P := P) (st := ⟨tm, h⟩) (lo := none) (hi := some l) (l := 0) (r := i.toNat) hP hx hT hd he rfl ⟨k, i, hl, by omega⟩ (by omega) (by omega) hsz
  rw [show (xs.drop 0).take (i.toNat - 0) = ys by rw [← hy]; rfl] at this
  exact x_q this hm hk
theorem x_slcLH (hP : TOK P TT) {T e : Nat} {x l l2 : Operand} {ti te : TI} {nn : Bool} {xs ys : List AV} {k k2 : IntKind} {i j : Int} (hx : opv (look tm) x = .sl nn xs) (hl : opv (look tm) l = .s (.int k i)) (hl2 : opv (look tm) l2 = .s (.int k2 j)) (hT : TT[T]? = some ti) (hd : ti.d = .slice e) (he : TT[e]? = some te)
    (hsz : ∀ y, xs[0]? = some y → y.cells.length = te.size) (h0 : 0 ≤ i) (h1 : i ≤ j) (h2 : j ≤ xs.length) (hy : (xs.drop i.toNat).take (j.toNat - i.toNat) = ys) (hm : Nat.blt t m = true) (hk : OpsX P F m ops dr rest ⟨(t, .sl nn ys) :: tm, h⟩ (⟨true, [], []⟩ :: fs) Q) :
    OpsX P F m ops dr (⟨some t, .slice T x (some l) (some l2) none, ty, pos, after, none⟩ :: rest) ⟨tm, h⟩ fs Q := by
  have := stp_slice_sl (P := P) (st := ⟨tm, h⟩) (lo := some l) (hi := some l2) (l := i.toNat) (r := j.toNat) hP hx hT hd he ⟨k, i, hl, by omega⟩ ⟨k2, j, hl2, by omega⟩ (by omega) (by omega) hsz
  rw [hy] at this
  exact x_q this hm hk
end
/-! ### Structs of numbers, the same or not -/
def iI (n : Int) : AV := .s (.int .i64 n)
def intFs (TT : List TI) : Nat → List (Nat × Nat) → Bool
  | _, [] => true
  | o, (p, t) :: r => Nat.beq p o && ((match TT[t]? with
    | some ti => (match ti.d with
      | .int .i64 => true
      | _ => false)
    | none => false) && intFs TT (o + 1) r)
theorem run_part1 {P : Program} {TT : List TI} (hP : TOK P TT) {t : Nat} {ti : TI} (ht : TT[t]? = some ti) (hk : ti.d = .int .i64) (w : World) {cs : Array Value} {off : Nat} {v : Value} (hv : cs[off]? = some v) : (part t cs off).run P w = .ok v w := by
  unfold part
  simp [run_agg (hP _ _ ht) w, hk, TD.agg, hv]
theorem run_eqFields {P : Program} {TT : List TI} (hP : TOK P TT) (d : Nat) (w : World) (xs ys : Array Value) : ∀ (fs : List Field) (o : Nat) (ms ns : List Int), intFs TT o (fs.map fun f => (f.offset, f.type)) = true → (fs.all fun f => f.name != "_") = true → ms.length = fs.length → ns.length = fs.length →
    (∀ i, i < ms.length → xs[o + i]? = some (.int .i64 (ms.getD i 0))) → (∀ i, i < ns.length → ys[o + i]? = some (.int .i64 (ns.getD i 0))) → (Op.eqFields (d + 1) xs ys fs).run P w = .ok (ms == ns) w
  | [], o, ms, ns, _, _, h1, h2, _, _ => by
    obtain rfl := List.eq_nil_of_length_eq_zero h1
    obtain rfl := List.eq_nil_of_length_eq_zero h2
    rfl
  | f :: fs, o, [], ns, _, _, h1, _, _, _ => by simp at h1
  | f :: fs, o, m :: ms, [], _, _, _, h2, _, _ => by simp at h2
  | f :: fs, o, m :: ms, n :: ns, hf, hn, h1, h2, hx, hy => by
    simp only [List.map_cons, intFs, Bool.and_eq_true] at hf
    simp only [List.all_cons, Bool.and_eq_true, bne_iff_ne, ne_eq] at hn
    obtain ⟨e1, e2, e3⟩ := hf
    have e1 := Nat.eq_of_beq_eq_true e1
    split at e2
    · rename_i ti hti
      split at e2
      · rename_i hd
        obtain ⟨_, u, _, _, hu, _, hdd, _⟩ := tiOf_some (hP _ _ hti)
        obtain rfl := td_int (hdd.symm.trans hd)
        have a1 := run_part1 (off := f.offset) hP hti hd w (cs := xs) (v := .int .i64 m) (by rw [e1]; have := hx 0 (by simp); simpa using this)
        have a2 := run_part1 (off := f.offset) hP hti hd w (cs := ys) (v := .int .i64 n) (by rw [e1]; have := hy 0 (by simp); simpa using this)
        have ih := run_eqFields hP d w xs ys fs (o + 1) ms ns e3 (by simpa using hn.2) (by simpa using h1) (by simpa using h2) (fun i hi => by have := hx (i + 1) (by simpa using hi); rw [show o + 1 + i = o + (i + 1) by omega]; simpa using this) (fun i hi => by have := hy (i + 1) (by simpa using hi); rw [show o + 1 + i = o + (i + 1) by omega]; simpa using this)
        have hne : f.name ≠ "_" := hn.1
        simp only [Op.eqFields, hne, ne_eq, not_false_eq_true, if_true, Sem.run_bind, a1, a2, Result.andThen_ok, run_equalIn_int w d f.type .i64 .i64 m n hu]
        by_cases hmn : m = n
        · subst hmn
          simp [ih]
        · simp [hmn]
      · cases e2
    · cases e2
theorem stp_eqS {P : Program} {TT : List TI} (hP : TOK P TT) {tm : List (Nat × AV)} {h : List (Nat × Ent)} {ty : Nat} {x y : Operand} {T : Nat} {ti : TI} {fl : List (Nat × Nat)} {ms ns : List Int} {op : BinOp} {v : Bool} (hx : opv (look tm) x = .agg (ms.map iI)) (hy : opv (look tm) y = .agg (ns.map iI)) (hT : TT[T]? = some ti) (hd : ti.d = .str fl) (hfl : intFs TT 0 fl = true)
    (hlm : Nat.beq ms.length fl.length = true) (hln : Nat.beq ns.length fl.length = true) (hst : P.stoodInHeld T = false) (hg : P.eqGuardType P.depth T = false) (hnm : ((P.fieldsOf T).toList.all fun f => f.name != "_") = true) (hop : op = .eql ∧ v = (ms == ns) ∨ op = .neq ∧ v = !(ms == ns)) :
    Stp P ⟨tm, h⟩ (.binOp op T x y ty) (.s (.bool v)) [] [] [] :=
  stp_val fun o X tm' hh w β a ho hgg _ HH Ht => by
    obtain ⟨dst', op', type, pos, after, guard⟩ := o
    dsimp only at ho; subst ho
    have h1 := arg Ht hgg (x := x) (by simp [Op.operands]) hx
    have h2 := arg Ht hgg (x := y) (by simp [Op.operands]) hy
    obtain ⟨_, u, _, _, hu, _, hdd, _⟩ := tiOf_some (hP _ _ hT)
    obtain ⟨f, rfl, hfe⟩ := td_str (hdd.symm.trans hd)
    have hfo : P.fieldsOf T = f := by unfold Program.fieldsOf; rw [hu]
    have hlm := Nat.eq_of_beq_eq_true hlm
    have hln := Nat.eq_of_beq_eq_true hln
    have hflen : fl.length = f.toList.length := by rw [← hfe]; simp
    have cells : ∀ (l : List Int) (c : Value), RepV w (Dom X β) hh β (.agg (l.map iI)) c → ∃ cs : Array Value, c = .agg cs ∧ ∀ i, i < l.length → cs[i]? = some (.int .i64 (l.getD i 0)) := fun l c hc => by
      have each : ∀ i, i < l.length → (l.map iI)[i]? = some (iI (l.getD i 0)) := fun i hi => by simp [List.getD, hi]
      cases hc with
      | fz _ _ hf =>
        cases hf with
        | agg _ cs hl _ hh2 =>
          refine ⟨cs, rfl, fun i hi => ?_⟩
          have := hh2 i _ (each i hi)
          have hi2 : i < cs.size := by rw [hl]; simpa using hi
          unfold iI at this
          have e : cs.getD i undef = cs[i] := by simp [Array.getD_eq_getD_getElem?, hi2]
          rw [e] at this
          rw [Array.getElem?_eq_getElem hi2]
          generalize cs[i] = c at this
          cases this
          rfl
      | agg _ cs hl _ hh2 =>
        refine ⟨cs, rfl, fun i hi => ?_⟩
        have := hh2 i _ (each i hi)
        have hi2 : i < cs.size := by rw [hl]; simpa using hi
        have e : cs.getD i undef = cs[i] := by simp [Array.getD_eq_getD_getElem?, hi2]
        rw [e] at this
        rw [Array.getElem?_eq_getElem hi2]
        unfold iI at this
        rw [this.s_inv]
    obtain ⟨cx, ex, hcx⟩ := cells ms _ h1
    obtain ⟨cy, ey, hcy⟩ := cells ns _ h2
    have hrun := run_eqFields hP 9998 w cx cy f.toList 0 ms ns (by rw [hfe]; exact hfl) (by rw [← hfo]; exact hnm) (by omega) (by omega) (fun i hi => by simpa using hcx i hi) (fun i hi => by simpa using hcy i hi)
    have heq : (Op.equalIn 10000 T (.agg cx) (.agg cy)).run P w = .ok (ms == ns) w := by
      rw [show (10000 : Nat) = 9999 + 1 from rfl, run_equalIn_agg w 9999 T cx cy (by rw [hfo]; exact hu) hst, hfo]
      exact hrun
    refine ⟨.bool v, ?_, .fz _ _ (.s _)⟩
    rcases hop with ⟨rfl, rfl⟩ | ⟨rfl, rfl⟩
    · simp [execOp, ex, ey, run_eqGuard_agg w _ T x y cx cy hg, run_eql_struct w T cx cy, heq]
    · simp [execOp, ex, ey, run_eqGuard_agg w _ T x y cx cy hg, run_neq_struct w T cx cy, heq]
end Av
end Go.Proofs.Ytianonghhmiooaa
/- Abstract values: an array of one's own of which all live references are to the whole: its older blocks are let go. -/
namespace Go.Proofs.Ytianonghhmiooaa
namespace Av
set_option linter.unusedSimpArgs false
set_option linter.unusedVariables false

theorem RepV.offK {w : World} {D D' : Nat → Prop} {h h' : Heap} {β β' : Map} (k : Nat) (hD : ∀ b, D' b → D b) (hh : ∀ j, j ≠ k → h' j = h j) (hβ : ∀ j, j ≠ k → β' j = β j) {v : AV} {c : Value} (hv : RepV w D h β v c) : k ∉ v.refs → RepV w D' h' β' v c := by
  induction hv with
  | fz v c hf => exact fun _ => .fz v c (hf.less hD)
  | agg cs c hl h1 hr ih => exact fun hk => .agg cs c hl h1 fun i v hv => ih i v hv fun hm => hk (refsL_at hv hm)
  | fn f caps c hl hr ih => exact fun hk => .fn f caps c hl fun i v hv => ih i v hv fun hm => hk (refsL_at hv hm)
  | tup vs c hl hr ih => exact fun hk => .tup vs c hl fun i v hv => ih i v hv fun hm => hk (refsL_at hv hm)
  | dref j off len c hk' h1 => exact fun hk => .dref j off len c (by rw [hh j (fun e => hk (by simp [AV.refs, e]))]; exact hk') h1
  | dptr j i off c hk' h1 => exact fun hk => .dptr j i off c (by rw [hh j (fun e => hk (by simp [AV.refs, e]))]; exact hk') h1
  | ref j off len sz xs st b n cap hk' hb hn hc hs =>
    intro hk
    have hj : j ≠ k := fun e => hk (by simp [AV.refs, e])
    exact .ref j off len sz xs st b n cap (by rw [hh j hj]; exact hk') (by rw [hβ j hj]; exact hb) hn hc hs
  | ref0 j off sz xs st a hk' hn =>
    intro hk
    have hj : j ≠ k := fun e => hk (by simp [AV.refs, e])
    exact .ref0 j off sz xs st a (by rw [hh j hj]; exact hk') hn
  | pbox j off cs b n hk' hb =>
    intro hk
    have hj : j ≠ k := fun e => hk (by simp [AV.refs, e])
    exact .pbox j off cs b n (by rw [hh j hj]; exact hk') (by rw [hβ j hj]; exact hb)
  | parr j i off sz xs st b n hk' hb hi ho =>
    intro hk
    have hj : j ≠ k := fun e => hk (by simp [AV.refs, e])
    exact .parr j i off sz xs st b n (by rw [hh j hj]; exact hk') (by rw [hβ j hj]; exact hb) hi ho
def AV.isGh : AV → Bool
  | .gh _ => true
  | _ => false
section
variable {P : Program} {K0 : List Nat} {F : Fr K0} {m : Nat} {tm : List (Nat × AV)} {h : List (Nat × Ent)}
/-- An entry does not name a key. -/
def offE (k : Nat) : Ent → Bool
  | .box cs => !(refsL cs).contains k
  | .arr _ xs fl => bif fl.nest then !(refsL xs).contains k else true
  | .dead => true
theorem RelS.compact {a : Act} {w : World} (R : RelS F m ⟨tm, h⟩ a w) (k : Nat) (ws : List Nat) {sz : Nat} {xs : List AV} {sb : Bool} (hk : lookE h k = some (.arr sz xs ⟨sb, false⟩)) (hK0 : K0.contains k = false) (hws : ws.map (look tm) = ws.map fun _ => .ref k 0 xs.length)
    (htm : tm.all (fun p => ws.contains p.1 || !p.2.refs.contains k) = true) (hbx : h.all (fun p => offE k p.2) = true) : RelS F m ⟨tm, (k, .arr sz xs false) :: h⟩ a w := by
  obtain ⟨⟨X, β, hX, H, Ht, KK, hJ, hD⟩, nd, gs, hl⟩ := R
  have hE := H.ent k _ hk
  obtain ⟨e1, e2, e3, e4, e5, f, e6, e7, e8⟩ := hE
  let β' : Map := fun j => if j = k then (β k).take 1 else β j
  have hsub : ∀ j b n, (b, n) ∈ β' j → (b, n) ∈ β j := fun j b n hm => by
    dsimp only [β'] at hm
    split at hm
    · rename_i e; subst e; exact List.mem_of_mem_take hm
    · exact hm
  have hDs : ∀ b, Dom X β' b → Dom X β b := fun b hd => hd.imp id fun ⟨j, n, hm⟩ => ⟨j, n, hsub j b n hm⟩
  have hh' : ∀ j, j ≠ k → lookE ((k, .arr sz xs false) :: h) j = lookE h j := fun j hj => by rw [lookE_cons, if_neg hj]
  have hhk : lookE ((k, .arr sz xs false) :: h) k = some (.arr sz xs false) := by rw [lookE_cons, if_pos rfl]
  have hβ' : ∀ j, j ≠ k → β' j = β j := fun j hj => by dsimp only [β']; rw [if_neg hj]
  have hβk : β' k = (β k).take 1 := by dsimp only [β']; rw [if_pos rfl]
  have whole : ∀ c, RepV w (Dom X β) (lookE h) β (.ref k 0 xs.length) c → RepV w (Dom X β') (lookE ((k, .arr sz xs false) :: h)) β' (.ref k 0 xs.length) c := fun c hc => by
    generalize hn : xs.length = n at hc
    cases hc with
    | fz _ _ hf => cases hf
    | dref _ _ _ _ hd _ => exact absurd hd (nd k)
    | ref _ _ _ sz' xs' st' b n' cap hk2 hb hn' hc' hs' =>
      rw [hk] at hk2
      cases hk2
      refine .ref k 0 n sz xs false b n' cap hhk ?_ hn' hc' hs'
      rw [hβk]
      cases hbk : β k with
      | nil => rw [hbk] at hb; simp at hb
      | cons p r =>
        rw [hbk] at hb
        obtain ⟨b0, n0⟩ := p
        obtain ⟨_, _, g3⟩ := e5 b0 n0 r hbk
        rcases List.mem_cons.1 hb with h1 | h1
        · rw [h1]; simp
        · exfalso
          have := g3 b n' h1
          omega
    | ref0 _ _ sz' xs' st' ad hk2 hn' => exact .ref0 k 0 sz xs false ad hhk (Nat.zero_le _)
  have slot : ∀ t, RepV w (Dom X β') (lookE ((k, .arr sz xs false) :: h)) β' (look tm t) (a.eval (.tmp t)) := fun t => by
    by_cases hw : t ∈ ws
    · obtain ⟨i, hi⟩ := List.getElem?_of_mem hw
      have e := congrArg (·[i]?) hws
      simp only [List.getElem?_map, hi, Option.map_some, Option.some.injEq] at e
      have := Ht t
      dsimp only at this
      rw [e] at this ⊢
      exact whole _ this
    · refine (Ht t).offK k hDs hh' hβ' ?_
      dsimp only
      intro hm
      have key : ∀ (l : List (Nat × AV)), l.all (fun p => ws.contains p.1 || !p.2.refs.contains k) = true → k ∈ (look l t).refs → False := fun l => by
        induction l with
        | nil => intro _ hm; simp [look, AV.refs] at hm
        | cons p r ih =>
          obtain ⟨j, v⟩ := p
          intro hl hm
          rw [look_cons] at hm
          simp only [List.all_cons, Bool.and_eq_true] at hl
          split at hm
          · rename_i e
            subst e
            have h1 := hl.1
            simp only [Bool.or_eq_true, List.contains_iff_mem, Bool.not_eq_true', Bool.eq_false_iff] at h1
            rcases h1 with h1 | h1
            · exact hw h1
            · exact h1 (by simpa using hm)
          · exact ih hl.2 hm
      exact key tm htm hm
  have H' : HOK X (lookE ((k, .arr sz xs false) :: h)) β' w := by
    refine ⟨fun j e he => ?_, fun j hj => ?_, fun j j' b n n' h1 h2 => H.disj j j' b n n' (hsub _ _ _ h1) (hsub _ _ _ h2), fun j b n hm => H.free j b n (hsub _ _ _ hm), fun b hd => H.lt b (hDs b hd)⟩
    · by_cases hj : j = k
      · subst hj
        rw [hhk] at he
        cases he
        refine ⟨e1, e2, fun hx => ?_, e4, fun b n r hr => ?_, f, .ofF fun i x l v hx hv => (e6.toF rfl i x l v hx hv).less hDs, e7, fun b n hm => e8 b n (hsub _ _ _ hm)⟩
        · rw [hβk]
          have := e3 hx
          cases hbk : β j with
          | nil => exact absurd hbk this
          | cons p r => simp
        · rw [hβk] at hr
          cases hbk : β j with
          | nil => rw [hbk] at hr; simp at hr
          | cons p r' =>
            rw [hbk] at hr
            simp only [List.take_succ_cons, List.take_zero, List.cons.injEq] at hr
            obtain ⟨hp, hr⟩ := hr
            subst hr
            rw [hp] at hbk
            obtain ⟨g1, _, _⟩ := e5 b n r' hbk
            exact ⟨g1, fun _ b' n' hm => by simp at hm, fun b' n' hm => by simp at hm⟩
      · rw [hh' j hj] at he
        have hE := H.ent j e he
        cases e with
        | dead => exact absurd he (nd j)
        | box cs =>
          obtain ⟨b, c, el, g1, g2, g3, g4, g5⟩ := hE
          refine ⟨b, c, el, by rw [hβ' j hj]; exact g1, g2, g3, g4, fun i v hv => (g5 i v hv).offK k hDs hh' hβ' fun hm => ?_⟩
          obtain ⟨p, hp, hpe⟩ := lookE_pair he
          have := List.all_eq_true.1 hbx p hp
          rw [hpe] at this
          have hmm := refsL_at hv hm
          simp only [offE, Bool.not_eq_true', Bool.eq_false_iff] at this
          exact this (by simpa using hmm)
        | arr sz' xs' st' =>
          obtain ⟨g1, g2, g3, g4, g5, f', g6, g7, g8⟩ := hE
          refine ⟨g1, g2, by rw [hβ' j hj]; exact g3, g4, by rw [hβ' j hj]; exact g5, f', fun i x l v hx hv => ?_, g7, by rw [hβ' j hj]; exact g8⟩
          cases hn : st'.nest with
          | false => exact ⟨.fz _ _ ((g6.toF hn i x l v hx hv).less hDs), fun _ => (g6.toF hn i x l v hx hv).less hDs⟩
          | true =>
            refine ⟨(g6.toV i x l v hx hv).offK k hDs hh' hβ' fun hm => ?_, fun h0 => by cases h0⟩
            obtain ⟨p, hp, hpe⟩ := lookE_pair he
            have := List.all_eq_true.1 hbx p hp
            rw [hpe] at this
            simp only [offE, hn, cond_true] at this
            have hmm := refsL_at hx (refs_cells hv hm)
            simp only [Bool.not_eq_true', Bool.eq_false_iff] at this
            exact this (by simpa using hmm)
    · rw [lookE_cons] at hj
      split at hj
      · cases hj
      · rename_i hne
        rw [hβ' j hne]
        exact H.off j hj
  have hkF : ∀ b n, (b, n) ∉ F.β0 k := fun b n hm => by
    have := F.hK k b n hm
    simp only [Bool.eq_false_iff] at hK0
    exact hK0 (by simpa using this)
  refine ⟨⟨X, β', hX, H', slot, ⟨fun j e he => ?_, KK.size, KK.keep, fun j b n hm => KK.own j b n (hsub _ _ _ hm), fun j b n hm => ?_, KK.bs, KK.os, KK.tape, KK.output⟩, fun i hi => ?_, hD⟩, fun j => ?_, gs, hl⟩
  · have hj : j ≠ k := fun e' => by
      subst e'
      have := F.hh j e he
      simp only [Bool.eq_false_iff] at hK0
      exact hK0 (by simpa using this)
    have := KK.knd j e he
    cases e with
    | dead => exact this
    | box cs => obtain ⟨cs', h2⟩ := this; exact ⟨cs', by dsimp only; rw [hh' j hj]; exact h2⟩
    | arr sz' xs' sl' => obtain ⟨xs2, sl2, h2, h3⟩ := this; exact ⟨xs2, sl2, by dsimp only; rw [hh' j hj]; exact h2, h3⟩
  · have hj : j ≠ k := fun e' => by subst e'; exact hkF b n hm
    rw [hβ' j hj]
    exact KK.pas j b n hm
  · exact F.Jst i _ X w w _ (hJ i hi) (Nat.le_refl _) (fun _ _ _ => rfl) (fun b ⟨j, n, hm⟩ => .inl ⟨j, n, hsub _ _ _ hm⟩) (fun b ⟨j, n, hm⟩ => H.lt b (.inr ⟨j, n, hsub _ _ _ hm⟩)) rfl rfl rfl
  · dsimp only
    by_cases hj : j = k
    · subst hj; rw [hhk]; intro hd; cases hd
    · rw [hh' j hj]; exact nd j
theorem RelS.flag {a : Act} {w : World} (R : RelS F m ⟨tm, h⟩ a w) (k : Nat) {sz : Nat} {xs : List AV} {st : Fl} (fl : Fl) (q1 : fl.stale = false → st.stale = false) (q2 : fl.nest = false → st.nest = false) (hk : lookE h k = some (.arr sz xs st)) : RelS F m ⟨tm, (k, .arr sz xs fl) :: h⟩ a w := by
  obtain ⟨⟨X, β, hX, H, Ht, KK, hJ, hD⟩, nd, gs, hl⟩ := R
  have hh' : ∀ j, j ≠ k → lookE ((k, .arr sz xs fl) :: h) j = lookE h j := fun j hj => by rw [lookE_cons, if_neg hj]
  have hhk : lookE ((k, .arr sz xs fl) :: h) k = some (.arr sz xs fl) := by rw [lookE_cons, if_pos rfl]
  have E : Evo w (Dom X β) (lookE h) β w (Dom X β) (lookE ((k, .arr sz xs fl) :: h)) β := ⟨Nat.le_refl _, fun b _ hd => ⟨rfl, hd⟩, fun _ _ _ _ => rfl, fun j e he => by
    by_cases hj : j = k
    · subst hj
      rw [hk] at he
      cases he
      exact .inr ⟨⟨xs, fl, hhk, Nat.le_refl _⟩, fun b n hm => ⟨n, Nat.le_refl _, hm⟩⟩
    · have := keyRefl (lookE h) β j e he
      rcases this with h1 | h1
      · exact .inl (by rw [hh' j hj]; exact h1)
      · refine .inr ?_
        cases e with
        | dead => exact h1
        | box cs => obtain ⟨⟨cs', h2⟩, h3⟩ := h1; exact ⟨⟨cs', by rw [hh' j hj]; exact h2⟩, h3⟩
        | arr sz' xs' st' => obtain ⟨⟨x2, s2, h2, h3⟩, h4⟩ := h1; exact ⟨⟨x2, s2, by rw [hh' j hj]; exact h2, h3⟩, h4⟩⟩
  have H' : HOK X (lookE ((k, .arr sz xs fl) :: h)) β w := by
    refine ⟨fun j e he => ?_, fun j hj => ?_, H.disj, H.free, H.lt⟩
    · by_cases hj : j = k
      · subst hj
        rw [hhk] at he
        cases he
        obtain ⟨e1, e2, e3, e4, e5, f, e6, e7⟩ := H.ent j _ hk
        exact ⟨e1, e2, e3, e4, fun b n r hr => ⟨(e5 b n r hr).1, fun h => (e5 b n r hr).2.1 (q1 h), (e5 b n r hr).2.2⟩, f, fun i x l v hx hv => ⟨(e6.toV i x l v hx hv).evo E, fun h => (e6.toF (q2 h) i x l v hx hv).evo E.size E.fz⟩, e7⟩
      · rw [hh' j hj] at he
        exact (H.ent j e he).evo E rfl fun _ _ _ => rfl
    · rw [lookE_cons] at hj
      split at hj
      · cases hj
      · exact H.off j hj
  refine ⟨⟨X, β, hX, H', fun t => (Ht t).evo E, ⟨fun j e he => ?_, KK.size, KK.keep, KK.own, KK.pas, KK.bs, KK.os, KK.tape, KK.output⟩, hJ, hD⟩, fun j => ?_, gs, hl⟩
  · have := KK.knd j e he
    by_cases hj : j = k
    · subst hj
      cases e with
      | dead => exact this
      | box cs => obtain ⟨cs', h2⟩ := this; (try dsimp only at h2); rw [hk] at h2; cases h2
      | arr sz' xs' sl' => obtain ⟨xs2, sl2, h2, h3⟩ := this; (try dsimp only at h2); rw [hk] at h2; cases h2; exact ⟨xs, fl, hhk, h3⟩
    · cases e with
      | dead => exact this
      | box cs => obtain ⟨cs', h2⟩ := this; exact ⟨cs', by dsimp only; rw [hh' j hj]; exact h2⟩
      | arr sz' xs' sl' => obtain ⟨xs2, sl2, h2, h3⟩ := this; exact ⟨xs2, sl2, by dsimp only; rw [hh' j hj]; exact h2, h3⟩
  · dsimp only
    by_cases hj : j = k
    · subst hj; rw [hhk]; intro hd; cases hd
    · rw [hh' j hj]; exact nd j
theorem sim_stale {c : Code} {Q : Exit → St → Prop} (k : Nat) {sz : Nat} {xs : List AV} {sb : Bool} (hk : lookE h k = some (.arr sz xs ⟨sb, false⟩)) (hs : Sim P F m c ⟨tm, (k, .arr sz xs true) :: h⟩ Q) : Sim P F m c ⟨tm, h⟩ Q :=
  ⟨fun a w R => hs.run a w (R.flag k true (fun h => by cases h) (fun _ => rfl) hk)⟩
/-- The cells of an array may hold keys from now on. -/
theorem sim_nest {c : Code} {Q : Exit → St → Prop} (k : Nat) {sz : Nat} {xs : List AV} {sb : Bool} (hk : lookE h k = some (.arr sz xs ⟨sb, false⟩)) (hs : Sim P F m c ⟨tm, (k, .arr sz xs ⟨sb, true⟩) :: h⟩ Q) : Sim P F m c ⟨tm, h⟩ Q :=
  ⟨fun a w R => hs.run a w (R.flag (st := ⟨sb, false⟩) k ⟨sb, true⟩ (fun h => h) (fun h => Bool.noConfusion h) hk)⟩
theorem x_nest {ops : Array Oper} {l : List Oper} {fs : List FP} {Q : List FP → St → Prop} (k : Nat) {sz : Nat} {xs : List AV} {sb : Bool} (hk : lookE h k = some (.arr sz xs ⟨sb, false⟩)) (hs : OpsX P F m ops false l ⟨tm, (k, .arr sz xs ⟨sb, true⟩) :: h⟩ fs Q) : OpsX P F m ops false l ⟨tm, h⟩ fs Q :=
  ⟨fun a w R => hs.run a w (R.flag (st := ⟨sb, false⟩) k ⟨sb, true⟩ (fun h => h) (fun h => Bool.noConfusion h) hk)⟩
theorem RelS.wkT {a : Act} {w : World} (R : RelS F m ⟨tm, h⟩ a w) (t : Nat) {v v' : AV} (hv : look tm t = v) (he : wkV v = v') (hg : ∀ i, v' ≠ .gh i) : RelS F m ⟨(t, v') :: tm, h⟩ a w := by
  obtain ⟨⟨X, β, hX, H, Ht, KK, hJ, hD⟩, nd, gs, hl⟩ := R
  refine ⟨⟨X, β, hX, H, fun j => ?_, KK, fun i hi => ?_, hD⟩, nd, gs, hl⟩
  · rw [look_cons]
    split
    · rename_i hj
      subst hj
      have := (Ht j).wk
      dsimp only at this
      rw [hv, he] at this
      exact this
    · exact Ht j
  · rw [look_cons] at hi
    split at hi
    · exact absurd hi (hg i)
    · exact hJ i hi
/-- What a slot holds, nil or not. -/
theorem x_wk {ops : Array Oper} {l : List Oper} {fs : List FP} {Q : List FP → St → Prop} (t : Nat) {v v' : AV} (hv : look tm t = v) (he : wkV v = v') (hg : v'.isGh = false) (hk : OpsX P F m ops false l ⟨(t, v') :: tm, h⟩ fs Q) : OpsX P F m ops false l ⟨tm, h⟩ fs Q :=
  ⟨fun a w R => hk.run a w (R.wkT t hv he fun i hi => by rw [hi] at hg; cases hg)⟩
theorem sim_wk {c : Code} {Q : Exit → St → Prop} (t : Nat) {v v' : AV} (hv : look tm t = v) (he : wkV v = v') (hg : v'.isGh = false) (hk : Sim P F m c ⟨(t, v') :: tm, h⟩ Q) : Sim P F m c ⟨tm, h⟩ Q :=
  ⟨fun a w R => hk.run a w (R.wkT t hv he fun i hi => by rw [hi] at hg; cases hg)⟩
theorem sim_compact {c : Code} {Q : Exit → St → Prop} (k : Nat) (ws : List Nat) {sz : Nat} {xs : List AV} {sb : Bool} (hk : lookE h k = some (.arr sz xs ⟨sb, false⟩)) (hK0 : K0.contains k = false) (hws : ws.map (look tm) = ws.map fun _ => .ref k 0 xs.length)
    (htm : tm.all (fun p => ws.contains p.1 || !p.2.refs.contains k) = true) (hbx : h.all (fun p => offE k p.2) = true) (hs : Sim P F m c ⟨tm, (k, .arr sz xs false) :: h⟩ Q) : Sim P F m c ⟨tm, h⟩ Q :=
  ⟨fun a w R => hs.run a w (R.compact k ws hk hK0 hws htm hbx)⟩
end
/-! ### Bits of small sets -/
def p2 (n : Int) : Int := 2 ^ n.toNat
def shrI (m n : Int) : Int := m.fdiv (2 ^ n.toNat)
theorem p2_bd (n : Int) (h : n ≤ 40) : 1 ≤ p2 n ∧ p2 n ≤ 1099511627776 := by
  unfold p2
  have h1 : (2 : Int) ^ n.toNat = ((2 ^ n.toNat : Nat) : Int) := by simp
  have h2 : 2 ^ n.toNat ≤ 2 ^ 40 := Nat.pow_le_pow_right (by omega) (by omega)
  have h3 : 0 < 2 ^ n.toNat := Nat.two_pow_pos _
  rw [h1]
  omega
section
variable {P : Program} {tm : List (Nat × AV)} {h : List (Nat × Ent)} {tx ty : Nat} {x y : Operand}
theorem stp_shlI {k' : IntKind} {n : Int} (hx : opv (look tm) x = .s (.int .i64 1)) (hy : opv (look tm) y = .s (.int k' n)) (h0 : 0 ≤ n ∧ n ≤ 40) : Stp P ⟨tm, h⟩ (.binOp .shl tx x y ty) (.s (.int .i64 (p2 n))) [] [] [] := by
  have e : IntKind.i64.wrap (1 * 2 ^ (min n.toNat IntKind.i64.bits)) = p2 n := by
    have hb : IntKind.i64.bits = 64 := rfl
    have h1 := p2_bd n h0.2
    rw [hb, show min n.toNat 64 = n.toNat by omega, Int.one_mul]
    exact wrap_in (k := .i64) ⟨by unfold p2 at h1; show -9223372036854775808 ≤ _; omega, by unfold p2 at h1; show _ ≤ 9223372036854775807; omega⟩
  rw [← e]
  exact stp_shift (.inl ⟨rfl, rfl⟩) hx hy h0.1
theorem stp_shrI {k' : IntKind} {m n : Int} (hx : opv (look tm) x = .s (.int .i64 m)) (hy : opv (look tm) y = .s (.int k' n)) (h0 : 0 ≤ n ∧ n ≤ 40) : Stp P ⟨tm, h⟩ (.binOp .shr tx x y ty) (.s (.int .i64 (shrI m n))) [] [] [] := by
  have hb : IntKind.i64.bits = 64 := rfl
  refine stp_shift (.inr ⟨rfl, ?_⟩) hx hy h0.1
  rw [hb, show min n.toNat 64 = n.toNat by omega]
  rfl
end
end Av
end Go.Proofs.Ytianonghhmiooaa
/- Abstract values: ways that part meet again. -/
namespace Go.Proofs.Ytianonghhmiooaa
namespace Av
set_option linter.unusedSimpArgs false
set_option linter.unusedVariables false
section
variable {P : Program} {K0 : List Nat} {F : Fr K0} {m : Nat}
/-- Ways that part meet again in one state. -/
theorem sim_join {x y : Code} {Q : Exit → St → Prop} {st : St} (K ts : List Nat) (st1 : St) (hK : K0.all (K.contains ·) = true) (h1 : Sim P F m x st (fun e s => e = .normal ∧ restr K ts s = st1)) (h2 : Sim P F m y st1 Q) : Sim P F m x st (thenS P F m y Q) :=
  ⟨fun a w H => Code.wpIn_mono (fun e a' w' ⟨s, ⟨he, hs⟩, hr⟩ => by subst he; exact ⟨st1, h2, hs ▸ RelS.restr hr K ts hK⟩) (h1.run a w H)⟩
end
section
variable {P : Program} {tm : List (Nat × AV)} {h : List (Nat × Ent)} {tx ty : Nat} {x y : Operand}
theorem stp_strEqV {a b : List Int} {v : Bool} (hx : opv (look tm) x = .s (.string (strOfNums a))) (hy : opv (look tm) y = .s (.string (strOfNums b))) (hv : eqY a b = v) : Stp P ⟨tm, h⟩ (.binOp .eql tx x y ty) (.s (.bool v)) [] [] [] := hv ▸ stp_strEq hx hy
theorem stp_strNeV {a b : List Int} {v : Bool} (hx : opv (look tm) x = .s (.string (strOfNums a))) (hy : opv (look tm) y = .s (.string (strOfNums b))) (hv : eqY a b = v) : Stp P ⟨tm, h⟩ (.binOp .neq tx x y ty) (.s (.bool (!v))) [] [] [] := hv ▸ stp_strNe hx hy
end
section
variable {P : Program} {K0 : List Nat} {F : Fr K0} {m : Nat} {TT : List TI} {ops : Array Oper} {dr : Bool} {rest : List Oper} {tm : List (Nat × AV)} {h : List (Nat × Ent)} {fs : List FP} {Q : List FP → St → Prop} {t ty : Nat} {pos : String} {after : Array Edge}
/-- make: an array of one's own under the key kn. -/
theorem x_mksK (kn : Nat) (hP : TOK P TT) {T e n : Nat} {x y : Operand} {ti te : TI} {kx ky : IntKind} {nx ny : Int} {z : AV} (hx : opv (look tm) x = .s (.int kx nx)) (hy : opv (look tm) y = .s (.int ky ny)) (hT : TT[T]? = some ti) (hd : ti.d = .slice e) (he : TT[e]? = some te)
    (hb : Nat.ble te.bytes 65536 = true) (hp : Nat.ble 1 te.size = true) (hzl : Nat.beq te.zero.length te.size = true) (hz1 : te.zero.all (·.oneCell') = true) (hzc : Nat.beq (zeroA te).cells.length te.size = true) (hzc2 : (zeroA te).cells = te.zero.map .s) (hz : zeroA te = z)
    (hnx : nx = (n : Int)) (hny : nx ≤ ny) (hmax : ny ≤ 1073741824) (hm : Nat.blt t m = true) (hnn : (lookE h kn).isNone = true)
    {sz : Nat} (hse : te.size = sz) (hk : OpsX P F m ops dr rest ⟨(t, .ref kn 0 n) :: tm, (kn, .arr sz (List.replicate n z) false) :: h⟩ (⟨true, [kn, kn], []⟩ :: fs) Q) : OpsX P F m ops dr (⟨some t, .makeSlice T x y, ty, pos, after, none⟩ :: rest) ⟨tm, h⟩ fs Q := by
  subst hse hz; exact x_w (nw := [kn]) (stp_makeSlice hP kn hx hy hT hd he hnx hny hmax hb hp hzl hz1 hzc hzc2) hm (all1 hnn) rfl hk
end
end Av
end Go.Proofs.Ytianonghhmiooaa
