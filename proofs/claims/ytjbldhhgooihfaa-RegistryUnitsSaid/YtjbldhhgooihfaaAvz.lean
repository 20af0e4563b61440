/- Abstract values: a range over a function. -/
import Derived.Test.YtjbldhhgooihfaaAvy
namespace Go.Proofs.Ytjbldhhgooihfaa
namespace Av
set_option linter.unusedSimpArgs false
set_option linter.unusedVariables false

theorem alloc_old (w : World) (o : Obj) (b : Nat) (h : b < w.heap.size) : (w.alloc o).heap[b]? = w.heap[b]? := by
  show (w.heap.push o)[b]? = _
  rw [Array.getElem?_push, if_neg (by omega)]
theorem Keep.grow {K0 : List Nat} {F : Fr K0} {h : Heap} {β : Map} {w w' : World} {X : Nat → Prop} (K : Keep F h β w) (H : HOK X h β w) (hs : w.heap.size ≤ w'.heap.size) (hk : ∀ b, b < w.heap.size → w'.heap[b]? = w.heap[b]?) (o1 : w'.os = w.os) (o2 : w'.tape = w.tape) (o3 : w'.output = w.output) : Keep F h β w' :=
  ⟨K.knd, Nat.le_trans K.size hs, fun b hb hi hn => by rw [hk b (Nat.lt_of_lt_of_le hb K.size)]; exact K.keep b hb hi hn, K.own, K.pas, fun k b n hm => by
    rw [← K.bs k b n hm]
    obtain ⟨n', _, hm'⟩ := K.pas k b n hm
    unfold bsize World.shape?
    rw [hk b (H.lt b (.inr ⟨k, n', hm'⟩))], o1.trans K.os, o2.trans K.tape, o3.trans K.output⟩
section
variable {P : Program} {K0 : List Nat} {F : Fr K0} {m : Nat} {st : St} {T : List (Nat × AV)} {a : Act} {l : Nat} {hc : List (Nat × Ent)} {rec : Loop} {O X : Nat → Prop} {W : World}
/-- The loop is over: on in the function that ranges. -/
theorem Core.rel (C : Core F T a l hc rec O X W) (hit : F.it = false) (hT : ∀ i, look T GS ≠ .gh i) (gs : m ≤ GS) (hl : a.tmps.size = m) (o : Obj) : RelS F m ⟨T, hc⟩ a (W.putObj l o) := by
  obtain ⟨⟨Xc, βc, c1, c2, c3, c4, ⟨bs, d1, d2, d3⟩, c6, c8, c10, c11⟩, lx, lo, lh, ll, xl, nd⟩ := C
  have sz : (W.putObj l o).heap.size = W.heap.size := by simp
  have kp : ∀ b, b ≠ l → (W.putObj l o).heap[b]? = W.heap[b]? := fun b hb => World.putObj_heap_other hb
  have kp' : ∀ b, b < W.heap.size → ¬ Xc b → (W.putObj l o).heap[b]? = W.heap[b]? := fun b _ hx => kp b fun e => hx (e ▸ c11)
  refine ⟨⟨Xc, βc, c1, c2.turn (Nat.le_of_eq sz.symm) kp', fun t => (c3 t).evo (turnEvo c2 (Nat.le_of_eq sz.symm) kp'), c4.turn c2 sz kp' (fun b hb => kp b fun e => by omega) rfl rfl rfl, fun i hi => absurd hi (hT i), bs, d1, (fun h => by rw [hit] at h; cases h), d2, fun b hb => ?_⟩, nd, gs, hl⟩
  obtain ⟨q1, q2, q3, q4⟩ := d3 b hb
  exact ⟨q1, q2, by rw [kp b fun e => by rw [e, lh] at q3; cases q3]; exact q3⟩
/-- The end of a round of a range over a function. -/
def rfQ (Ks : List Nat) (h' : List (Nat × Ent)) (p : Prop) (Q : Exit → St → Prop) (T : List (Nat × AV)) : Exit → St → Prop
  | .normal, s => restrH Ks (lookE s.h) = h' ∧ p
  | .ret, s => Q .ret ⟨T, restrH Ks (lookE s.h)⟩
  | .exit id, s => Q (.exit id) ⟨T, restrH Ks (lookE s.h)⟩
  | _, _ => False
theorem sim_rangeFunc {g : Operand} {ps : Array Tmp} {assign body : Code} {f : Nat} {caps : List AV} {h0 : List (Nat × Ent)} {xs : List (List AV)} {Q : Exit → St → Prop} (hF : F.ro = none ∧ F.it = false) (hit : IterSim P f caps h0 xs) (hg : opv (look st.tm) g = .fn f caps)
    (Ks ts : List Nat) (hKs : K0.all (Ks.contains ·) = true) (hdis : Ks.all (fun k => !(keys h0).contains k) = true) (hh0 : (keys h0).map (lookE st.h) = (keys h0).map (lookE h0)) (hcl : h0.all (fun p => match p.2 with | .box cs => (refsL cs).all ((keys h0).contains ·) | _ => true) = true)
    (hcap : (refsL caps).all ((keys h0).contains ·) = true) (hts : ts.all (fun t => (look st.tm t).refs.all (fun k => !(keys h0).contains k)) = true)
    (hks : Ks.all (fun k => match lookE st.h k with | some (.box cs) => (refsL cs).all (fun j => !(keys h0).contains j) | _ => true) = true) (hgs : ts.all (fun t => !(Nat.beq t GS)) = true) (hps : ps.toList.all (Nat.blt · m) = true) (hpl : ∀ (i : Nat) ys, xs[i]? = some ys → ps.size = ys.length)
    (H : Nat → List (Nat × Ent)) (I : Nat → Prop) {T : List (Nat × AV)} (e0 : restr Ks ts st = ⟨T, H 0⟩) (i0 : I 0)
    (round : ∀ (i : Nat) ys l, xs[i]? = some ys → I i → ∀ (F1 : Fr (keys (H i))), F1.it = true → F1.ro = some l → Sim P F1 m assign ⟨setTm ps.toList ys T, H i⟩ (fun e s => e = .normal ∧ ∀ (F2 : Fr (keys s.h)), F2.it = true → F2.ro = some l → Sim P F2 m body s (rfQ Ks (H (i + 1)) (I (i + 1)) Q T)))
    (done : I xs.length → Q .normal ⟨T, H xs.length⟩) : Sim P F m (.rangeFunc g ps assign body) st Q := ⟨fun a w R => by
  rw [hF.1]
  change Code.wpIn Fence.wide 0 P _ _ a w
  obtain ⟨⟨X0, β, hX, HH, Ht, KK, _, bs, hds, _, hbn, hbs⟩, nd, gs, hl⟩ := R
  -- the conditions, in words
  have hK : ∀ k, k ∈ keys h0 → lookE st.h k = lookE h0 k := fun k hk => by
    obtain ⟨i, hi⟩ := List.getElem?_of_mem hk
    have := congrArg (·[i]?) hh0
    simpa [hi] using this
  have hclosed : ∀ k cs, lookE h0 k = some (.box cs) → ∀ j, j ∈ refsL cs → j ∈ keys h0 := fun k cs hk j hj => by
    obtain ⟨p, hp, he⟩ := lookE_pair hk
    have := List.all_eq_true.1 hcl p hp
    rw [he] at this
    simpa using List.all_eq_true.1 this j hj
  have hdis' : ∀ k, k ∈ keys h0 → ¬ k ∈ Ks := fun k h1 h2 => by
    have := List.all_eq_true.1 hdis k h2
    simp at this
    exact this h1
  have hent : ∀ k cs, k ∈ Ks → lookE st.h k = some (.box cs) → ∀ j, j ∈ refsL cs → ¬ j ∈ keys h0 := fun k cs hk he j hj h1 => by
    have := List.all_eq_true.1 hks k hk
    rw [he] at this
    have := List.all_eq_true.1 this j hj
    simp at this
    exact this h1
  have hK0 : ∀ k, k ∈ K0 → k ∈ Ks := fun k hk => by simpa using List.all_eq_true.1 hKs k hk
  have hTt : T = ts.map fun t => (t, frzV Ks (lookE st.h) (look st.tm t)) := by have := congrArg St.tm e0; exact this.symm
  have hH0 : restrH Ks (lookE st.h) = H 0 := congrArg St.h e0
  have hlook : ∀ t, look T t = if t ∈ ts then frzV Ks (lookE st.h) (look st.tm t) else .bot := fun t => by
    rw [← look_restr Ks ts st t, e0]
  have hTi : ∀ t h', frzV Ks h' (look T t) = look T t := fun t h' => by
    rw [hlook]
    split
    · exact frz_idem _ _ _ _
    · rfl
  have hTg : ∀ i, look T GS ≠ .gh i := fun i => by
    rw [hlook]
    split
    · rename_i h
      have := List.all_eq_true.1 hgs GS h
      simp at this
    · intro h; cases h
  -- the iterator
  have hfv := opv_rep Ht g
  rw [hg] at hfv
  obtain ⟨cv, hfx, hcvl, hcv⟩ : ∃ cv : Array Value, a.eval g = .func (.func f) #[] cv ∧ cv.size = caps.length ∧ ∀ (i : Nat) v, caps[i]? = some v → RepV w (Dom X0 β) (lookE st.h) β v (cv.getD i undef) := by
    generalize a.eval g = cx at hfv
    cases hfv with
    | fz _ _ hf => cases hf
    | fn _ _ c hl hh => exact ⟨c, rfl, hl, hh⟩
  refine wpIn_rangeFunc (F := Fence.wide) (n := 0) fun fn _ => ?_
  -- two new blocks
  generalize hrec : ({ state := .ready, pending := none, fn := fn, tmps := a.tmps, params := ps, assign := assign, body := body, defers := w.heap.size } : Loop) = rec
  obtain ⟨w1, hw1⟩ : ∃ w1, w1 = (w.alloc (.deferred (some []))).alloc (.loop rec) := ⟨_, rfl⟩
  have sz1 : w1.heap.size = w.heap.size + 2 := by rw [hw1]; simp
  have kp1 : ∀ b, b < w.heap.size → w1.heap[b]? = w.heap[b]? := fun b hb => by rw [hw1, alloc_old _ _ b (by simp; omega), alloc_old _ _ b hb]
  have hbd : w1.heap[w.heap.size]? = some (.deferred (some [])) := by rw [hw1, alloc_old _ _ _ (by simp)]; exact World.alloc_heap_new _ _
  have hlp : w1.heap[w.heap.size + 1]? = some (.loop rec) := by
    rw [hw1]
    have := World.alloc_heap_new (w.alloc (.deferred (some []))) (.loop rec)
    simpa using this
  have oth1 : w1.os = w.os ∧ w1.tape = w.tape ∧ w1.output = w.output := by rw [hw1]; exact ⟨rfl, rfl, rfl⟩
  have hent1 : (Instr.enterLoop fn a.tmps ps assign body none).run P w = .ok (w.heap.size + 1, [{ target := .collected w.heap.size, args := #[] }]) w1 := by
    rw [hw1, ← hrec]; exact run_enterLoop_outer fn a.tmps ps assign body
  generalize hl0 : w.heap.size + 1 = l at hlp hent1
  let a' : Act := { a with defers := [{ target := .collected w.heap.size, args := #[] }] ++ a.defers }
  let J : Nat → (Nat → Prop) → (Nat → Prop) → World → Prop := fun i O X W => (i ≤ xs.length ∧ I i ∧ Core F T a' l (H i) rec O X W) ∨
    (xs.length < i ∧ ∃ h' x c, jumpOf x c ∧ Q x ⟨T, h'⟩ ∧ Core F T a' l h' { rec with state := .done, pending := some c } O X W)
  have Jst : ∀ i O X w w' O', J i O X w → w.heap.size ≤ w'.heap.size → (∀ b, b < w.heap.size → ¬ O b → w'.heap[b]? = w.heap[b]?) → (∀ b, O' b → O b ∨ w.heap.size ≤ b) → (∀ b, O' b → b < w'.heap.size) → w'.os = w.os → w'.tape = w.tape → w'.output = w.output → J i O' X w' := by
    rintro i O X v v' O' (⟨h1, hI, h2⟩ | ⟨h1, h', x, c, h2, h3, h4⟩) q1 q2 q3 q4 q5 q6 q7
    · exact .inl ⟨h1, hI, h2.stab q1 q2 q3 q4 q5 q6 q7⟩
    · exact .inr ⟨h1, h', x, c, h2, h3, h4.stab q1 q2 q3 q4 q5 q6 q7⟩
  -- the blocks
  let O0 : Nat → Prop := Own (βr (keys h0) β)
  let Xa : Nat → Prop := fun b => X0 b ∨ ∃ k n, k ∈ keys h0 ∧ (b, n) ∈ β k
  let Xc : Nat → Prop := fun b => Xa b ∨ b = w.heap.size ∨ b = l
  let Xi : Nat → Prop := fun b => X0 b ∨ Own (βr Ks β) b
  let X1 : Nat → Prop := fun b => Xi b ∨ b = w.heap.size ∨ b = l
  have hOlt : ∀ b, O0 b → b < w.heap.size := fun b ⟨k, n, hm⟩ => HH.lt b (.inr ⟨k, n, (βr_mem hm).2⟩)
  have hXalt : ∀ b, Xa b → b < w.heap.size := fun b hb => hb.elim (fun h => HH.lt b (.inl h)) fun ⟨k, n, _, hm⟩ => HH.lt b (.inr ⟨k, n, hm⟩)
  have hXilt : ∀ b, Xi b → b < w.heap.size := fun b hb => hb.elim (fun h => HH.lt b (.inl h)) fun ⟨k, n, hm⟩ => HH.lt b (.inr ⟨k, n, (βr_mem hm).2⟩)
  have hOX : ∀ b, O0 b → ¬ X0 b := fun b ⟨k, n, hm⟩ hx => HH.free k b n (βr_mem hm).2 hx
  obtain ⟨H1, hv1⟩ := HH.restrX (X' := Xa) Ks (keys h0) (fun b hb => hb) hdis' hent
  have Q1 : Quiet Xa Xc w w1 := ⟨by omega, fun b hb hx => ⟨kp1 b hb, fun h => by
    rcases h with h | h | h
    · exact hx h
    · omega
    · omega⟩, fun b hb => .inl hb, fun b hb => by
    rcases hb with h | h | h
    · have := hXalt b h; omega
    · omega
    · omega, oth1.1, oth1.2.1, oth1.2.2⟩
  obtain ⟨H2, hv2⟩ := lend (Xc := Xi) HH hK hclosed (fun b hb => by
    rcases hb with h | ⟨k, n, hm⟩
    · exact .inl h
    · obtain ⟨hk, hm⟩ := βr_mem hm
      exact .inr ⟨k, n, fun h => hdis' k h hk, hm⟩)
  have Q2 : Quiet Xi X1 w w1 := ⟨by omega, fun b hb hx => ⟨kp1 b hb, fun h => by
    rcases h with h | h | h
    · exact hx h
    · omega
    · omega⟩, fun b hb => .inl hb, fun b hb => by
    rcases hb with h | h | h
    · have := hXilt b h; omega
    · omega
    · omega, oth1.1, oth1.2.1, oth1.2.2⟩
  have C0 : Core F T a' l (H 0) rec O0 X1 w1 := by
    rw [← hH0]
    refine ⟨⟨Xc, βr Ks β, ⟨fun b hb => .inl (.inl (hX.1 b hb)), fun b hb => ?_⟩, Q1.hok H1, fun t => ?_, (KK.restr Ks hK0).grow H1 (by omega) kp1 oth1.1 oth1.2.1 oth1.2.2, ⟨w.heap.size :: bs, ?_, ?_, fun b hb => ?_⟩, fun b hb => ?_, fun b hb => .inl (.inr hb), fun b hb => ?_, .inr (.inr rfl)⟩, .inr (.inr rfl), fun h => ?_, hlp, ?_, Q2.lt, fun k => ?_⟩
    · rcases hb with (h | ⟨k, n, hk, hm⟩) | h | h
      · exact hX.2 b h
      · rcases KK.own k b n hm with ⟨k', n', h⟩ | h
        · exfalso
          obtain ⟨n'', _, hm'⟩ := KK.pas k' b n' h
          have := HH.disj k k' b n n'' hm hm'
          subst this
          exact hdis' k hk (hK0 k (F.hK k b n' h))
        · exact .inr h
      · exact .inr (by have := KK.size; omega)
      · exact .inr (by have := KK.size; omega)
    · rw [hlook]
      split
      · rename_i ht
        exact (hv1 _ _ (fun j hj h1 => by
          have := List.all_eq_true.1 hts t ht
          have := List.all_eq_true.1 this j hj
          simp at this
          exact this h1) (Ht t)).evo (Q1.evo H1)
      · exact .fz _ _ (.bot _)
    · show [_] ++ a.defers = _
      rw [hds]; rfl
    · refine List.nodup_cons.2 ⟨fun h => ?_, hbn⟩
      have := HH.lt _ (.inl (hbs _ h).1)
      omega
    · rcases List.mem_cons.1 hb with rfl | hb
      · exact ⟨.inr (.inl rfl), KK.size, hbd, fun h => by have := hOlt _ h; omega⟩
      · obtain ⟨q1, q2, q3⟩ := hbs b hb
        exact ⟨.inl (.inl q1), q2, by rw [kp1 b (HH.lt b (.inl q1))]; exact q3, fun h => hOX b h q1⟩
    · obtain ⟨k, n, hm⟩ := hb
      obtain ⟨hk, hm⟩ := βr_mem hm
      refine ⟨.inl (.inr ⟨k, n, hk, hm⟩), ?_, fun h => HH.free k b n hm (hX.1 b h)⟩
      rcases KK.own k b n hm with ⟨k', n', h⟩ | h
      · exfalso
        obtain ⟨n'', _, hm'⟩ := KK.pas k' b n' h
        have := HH.disj k k' b n n'' hm hm'
        subst this
        exact hdis' k hk (hK0 k (F.hK k b n' h))
      · exact h
    · rcases hb with (h | ⟨k, n, hk, hm⟩) | h | h
      · exact .inl (.inl (.inl h))
      · exact .inr ⟨k, n, by rw [βr_in hk]; exact hm⟩
      · exact .inl (.inr (.inl h))
      · exact .inl (.inr (.inr h))
    · have := hOlt _ h; omega
    · have := KK.size; omega
    · rw [lookE_restrH]
      split
      · intro h
        rw [Option.map_eq_some_iff] at h
        obtain ⟨e, he, h2⟩ := h
        cases e with
        | dead => exact nd k he
        | box cs => cases h2
        | arr sz xs st => cases h2
      · intro h; cases h
  let Fi : Fr (keys h0) := ⟨X1, w1, βr (keys h0) β, lookE h0, fun k b n hm => (βr_mem hm).1, fun k e he => lookE_mem he, none, true, X1, J, Jst⟩
  have call := hit.sim l cv Fi ⟨rfl, fun _ h => h⟩ rfl rfl hcvl (Q2.hok H2) (fun i v hv => (hv2 v _ (hcv i v hv) (fun k hk => by
      have := List.all_eq_true.1 hcap k (refsL_at hv hk)
      simpa using this)).evo (Q2.evo H2)) (.inl ⟨Nat.zero_le _, i0, C0⟩) (by
    intro i ys X O W cs hys hj hcs hrep
    have hilt : i < xs.length := (List.getElem?_eq_some_iff.1 hys).1
    rcases hj with ⟨_, hI, C⟩ | ⟨h, _⟩
    case inr => omega
    have hd := C.round (P := P) (m := m) (Ks := Ks) (ys := ys) (cs := cs) (Rq := fun e h' => (e = .normal ∧ h' = H (i + 1) ∧ I (i + 1)) ∨ ((e = .ret ∨ ∃ id, e = .exit id) ∧ Q e ⟨T, h'⟩)) (fun p hp => by simpa using List.all_eq_true.1 hps p hp) (show a'.tmps.size = m from hl) gs hrec.symm hTi hK0 hcs (hpl i ys hys) hrep
      (fun e h hq => by
        rcases hq with ⟨rfl, _⟩ | ⟨h | h, _⟩
        · exact .inl rfl
        · exact .inr (.inl h)
        · exact .inr (.inr h)) (fun F1 f1 f2 => (round i ys l hys hI F1 f1 f2).mono fun e s ⟨he, hb⟩ => ⟨he, fun F2 g1 g2 => (hb F2 g1 g2).mono fun e' s' hq => by
          cases e' with
          | normal => exact .inl ⟨rfl, hq⟩
          | ret => exact .inr ⟨.inl rfl, hq⟩
          | exit id => exact .inr ⟨.inr ⟨id, rfl⟩, hq⟩
          | goto t => exact hq.elim
          | panic c => exact hq.elim
          | outgrown => exact hq.elim⟩)
    obtain ⟨fn', tm', as', bo', h1, h2⟩ := hd
    refine ⟨fn', tm', as', bo', h1, RoundIn.mono h2 ?_⟩
    rintro e W' (⟨he, X', q, h', hq, C'⟩ | ⟨he, X', q, h', x, c, hx, hq, C'⟩)
    · refine .inl ⟨he, X', q, .inl ⟨by omega, ?_⟩⟩
      rcases hq with ⟨_, rfl, hI'⟩ | ⟨h | ⟨id, h⟩, _⟩
      · exact ⟨hI', C'⟩
      · cases h
      · cases h
    · refine .inr ⟨he, X', q, .inr ⟨by omega, h', x, c, hx, ?_, C'⟩⟩
      rcases hq with ⟨h, _⟩ | ⟨_, h⟩
      · rcases hx with ⟨rfl, _⟩ | ⟨id, rfl, _⟩ <;> cases h
      · exact h)
  refine ⟨l, [{ target := .collected w.heap.size, args := #[] }], w1, { target := .fn (.func f) cv, args := #[.func (.yield l) #[] #[]] }, w1, f, #[.func (.yield l) #[] #[]] ++ cv, w1, hent1, ?_, fun _ _ => trivial, (by simp only [invoke]; exact hit.able _ _), fun h => by simp [Fence.wide] at h, ?_⟩
  · unfold resolve rangeCall
    dsimp only
    rw [hfx]
    simp [Deferred.ofValue, Act.eval]
  · refine callsIn_wide.2 (Calls.mono call ?_)
    rintro e w' ⟨⟨v, rfl⟩, i, O, X, hj, hi⟩
    have len' : a'.tmps.size = m := hl
    rcases hj with ⟨h1, hI, C⟩ | ⟨h1, h', x, c, hx, hq, C⟩
    · obtain rfl : i = xs.length := by omega
      refine ⟨_, _, run_endLoop C.lh (by rw [← hrec]; intro h; cases h), ?_⟩
      rw [show rec.pending = none by rw [← hrec]]
      exact ⟨_, done hI, C.rel hF.2 hTg gs len' _⟩
    · refine ⟨_, _, run_endLoop C.lh (by intro h; cases h), ?_⟩
      have R := C.rel hF.2 hTg gs len' (.loop { ({ rec with state := .done, pending := some c } : Loop) with state := .exhausted })
      rcases hx with ⟨rfl, rfl⟩ | ⟨id, rfl, rfl⟩
      · exact wpIn_ret ⟨_, hq, R⟩
      · exact wpIn_exit ⟨_, hq, R⟩⟩
end
end Av
end Go.Proofs.Ytjbldhhgooihfaa
