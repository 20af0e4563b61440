/- A rule for a region that draws its order, in which calls change a state in a fixed order while other operations make memory: each operation is shown once. -/
import Derived.Test.YtlabfbpnkjigoaaBase
import Derived.Orders
namespace Go.Proofs.Ytlabfbpnkjigoaa
open Go.RowKit
namespace Soft

/-- Of an operation: the slots whose values are known when it comes up, the slots that are still as they were, how many of the ordered operations have come up (at least, at most), and whether it is one of the ordered ones. -/
structure Info where
  ps : List Nat
  fs : List Nat
  lo : Nat
  hi : Nat
  ch : Bool

def lst (l : Array Bool) (i : Nat) : Bool := l.getD i false
def dstOf (ops : Array Oper) (i : Nat) : Option Nat := (ops[i]?).bind (·.dst)
def chOf (I : List Info) (i : Nat) : Bool := ((I[i]?).map (·.ch)).getD false
def cnt (p : Nat → Bool) : Nat → Nat
  | 0 => 0
  | k + 1 => cnt p k + if p k then 1 else 0
theorem cnt_mono {p q : Nat → Bool} (n : Nat) (h : ∀ i, i < n → p i = true → q i = true) : cnt p n ≤ cnt q n := by
  induction n with
  | zero => exact Nat.le_refl _
  | succ n ih =>
    have h1 := ih fun i hi => h i (by omega)
    have h2 := h n (by omega)
    unfold cnt
    cases hp : p n <;> cases hq : q n <;> simp_all <;> omega
theorem cnt_congr {p q : Nat → Bool} (n : Nat) (h : ∀ i, i < n → p i = q i) : cnt p n = cnt q n :=
  Nat.le_antisymm (cnt_mono n fun i hi hp => by rw [← h i hi]; exact hp) (cnt_mono n fun i hi hp => by rw [h i hi]; exact hp)
theorem cnt_set {p q : Nat → Bool} (n i : Nat) (hi : i < n) (hp : p i = false) (h : ∀ j, j ≠ i → q j = p j) : cnt q n = cnt p n + if q i then 1 else 0 := by
  induction n with
  | zero => omega
  | succ n ih =>
    unfold cnt
    by_cases e : i = n
    · subst e
      rw [cnt_congr (q := p) i fun j hj => h j (by omega), hp]
      simp
    · rw [ih (by omega), h n (fun e' => e e'.symm)]
      omega

def binds (e : Edge) : Bool := Region.binds .any e
def acyc (ops : Array Oper) : Bool := (List.range ops.size).all fun i => ((ops[i]?).map fun o => o.after.all fun e => !binds e || decide (e.on < i)).getD false
def okT (ops : Array Oper) (T : List (List Nat)) : Bool :=
  (List.range ops.size).all fun i => (T.getD i []).all fun j => ((ops[i]?).map fun o => o.after.any fun e => binds e && (e.on == j || (T.getD e.on []).contains j)).getD false
def okD (ops : Array Oper) : Bool := (List.range ops.size).all fun i => (List.range ops.size).all fun j => i == j || dstOf ops i == none || dstOf ops i != dstOf ops j
def okI (ops : Array Oper) (T : List (List Nat)) (I : List Info) : Bool :=
  (List.range ops.size).all fun i => ((I[i]?).map fun x =>
    (x.ps.all fun t => (T.getD i []).any fun d => dstOf ops d == some t) &&
    (x.fs.all fun t => (List.range ops.size).all fun j => dstOf ops j != some t || j == i || (T.getD j []).contains i) &&
    decide (x.lo ≤ cnt (fun j => chOf I j && (T.getD i []).contains j) ops.size) &&
    decide (cnt (fun j => chOf I j && (j != i && !(T.getD j []).contains i)) ops.size ≤ x.hi)).getD false
def okM (ops : Array Oper) (m : Nat) : Bool := (List.range ops.size).all fun i => match dstOf ops i with | some t => decide (t < m) | none => true
def okS (ops : Array Oper) (ds : List Nat) : Bool := ((List.range ops.size).all fun i => match dstOf ops i with | some t => ds.contains t | none => true) && ds.all fun t => (List.range ops.size).any fun i => dstOf ops i == some t
def check (ops : Array Oper) (T : List (List Nat)) (I : List Info) (N m : Nat) (ds : List Nat) : Bool := acyc ops && okT ops T && okD ops && okI ops T I && (cnt (chOf I) ops.size == N) && okM ops m && okS ops ds

/-- What is shown of one operation. -/
def ob (P : Program) (ops : Array Oper) (Φ : Nat → Nat → Value → World → Prop) (W : Nat → World → Prop) (R : Nat → World → World → Prop) (a0 : Act) (Q : Exit → Act → World → Prop) (x : Info) (o : Oper) : Prop :=
  ∀ (a : Act) (w : World) (k : Nat), x.lo ≤ k → k ≤ x.hi → W k w → (∀ t, t ∈ x.ps → Φ t k (a.eval (.tmp t)) w) → (∀ t, t ∈ x.fs → a.eval (.tmp t) = a0.eval (.tmp t)) →
    ∀ K : Act → World → Prop, (∀ v w', R k w w' → (∀ t, o.dst = some t → Φ t (if x.ch then k + 1 else k) v w') → W (if x.ch then k + 1 else k) w' → K (a.put o.dst v) w') →
      if Region.wanted o (yielded ops a.tmps) then o.wp P a w K Q else K (a.put o.dst undef) w
def obs (f : Info → Oper → Prop) : List Info → List Oper → Prop
  | x :: I, o :: l => f x o ∧ obs f I l
  | _, _ => True
theorem obs_at {f : Info → Oper → Prop} : ∀ (I : List Info) (l : List Oper) (i : Nat) (x : Info) (o : Oper), obs f I l → I[i]? = some x → l[i]? = some o → f x o
  | [], _, _, _, _, _, h, _ => by simp at h
  | _ :: _, [], _, _, _, _, _, h => by simp at h
  | x :: I, o :: l, 0, y, p, h, h1, h2 => by simp at h1 h2; subst h1 h2; exact h.1
  | x :: I, o :: l, i + 1, y, p, h, h1, h2 => obs_at I l i y p h.2 (by simpa using h1) (by simpa using h2)

/-- The state when some operations have come up. -/
structure J (ops : Array Oper) (I : List Info) (Φ : Nat → Nat → Value → World → Prop) (W : Nat → World → Prop) (a0 : Act) (l : Array Bool) (a : Act) (w : World) : Prop where
  size : l.size = ops.size
  down : ∀ i o, ops[i]? = some o → lst l i = true → ∀ e ∈ o.after, binds e = true → lst l e.on = true
  dfr : a.defers = a0.defers
  len : a.tmps.size = a0.tmps.size
  free : ∀ t, (∀ i, lst l i = true → dstOf ops i ≠ some t) → a.tmps[t]? = a0.tmps[t]?
  vals : ∀ i t, lst l i = true → dstOf ops i = some t → Φ t (cnt (fun j => chOf I j && lst l j) ops.size) (a.eval (.tmp t)) w
  world : W (cnt (fun j => chOf I j && lst l j) ops.size) w

theorem lst_set (l : Array Bool) (i j : Nat) (hi : i < l.size) : lst (l.setIfInBounds i true) j = if j = i then true else lst l j := by
  unfold lst
  by_cases e : j = i
  · subst e; simp [Array.getD_eq_getD_getElem?, hi]
  · rw [if_neg e]
    simp only [Array.getD_eq_getD_getElem?, Array.getElem?_setIfInBounds_ne (Ne.symm e)]

section
variable {P : Program} {ops : Array Oper} {T : List (List Nat)} {I : List Info} {Φ : Nat → Nat → Value → World → Prop} {W : Nat → World → Prop} {R : Nat → World → World → Prop} {a0 : Act} {Q : Exit → Act → World → Prop}

theorem closed (hA : acyc ops = true) (hT : okT ops T = true) {l : Array Bool} (hd : ∀ i o, ops[i]? = some o → lst l i = true → ∀ e ∈ o.after, binds e = true → lst l e.on = true) :
    ∀ (n i : Nat) (o : Oper), i < n → ops[i]? = some o → (∀ e ∈ o.after, binds e = true → lst l e.on = true) → ∀ j, j ∈ T.getD i [] → lst l j = true := by
  intro n
  induction n with
  | zero => intro i o h; omega
  | succ n ih =>
    intro i o hin ho he j hj
    have hi : i < ops.size := (Array.getElem?_eq_some_iff.1 ho).1
    have h1 := List.all_eq_true.1 (List.all_eq_true.1 hT i (List.mem_range.2 hi)) j hj
    simp only [ho, Option.map_some, Option.getD_some, Array.any_eq_true, Bool.and_eq_true, Bool.or_eq_true, beq_iff_eq, List.contains_iff_mem] at h1
    obtain ⟨x, hx, hb, h2⟩ := h1
    have hm : o.after[x] ∈ o.after := Array.getElem_mem hx
    have hl := he _ hm hb
    rcases h2 with h2 | h2
    · rw [← h2]; exact hl
    · have h3 := List.all_eq_true.1 hA i (List.mem_range.2 hi)
      simp only [ho, Option.map_some, Option.getD_some, Array.all_eq_true, Bool.or_eq_true, Bool.not_eq_true', decide_eq_true_eq] at h3
      have h4 : o.after[x].on < i := (h3 x hx).resolve_left (by rw [hb]; simp)
      have h5 : o.after[x].on < ops.size := by omega
      exact ih _ ops[o.after[x].on] (by omega) (by simp [h5]) (hd _ _ (by simp [h5]) hl) j h2

theorem ready_mem {l : Array Bool} {i : Nat} (hs : l.size = ops.size) (h : i ∈ Region.ready .any ops l) : ∃ o, ops[i]? = some o ∧ lst l i = false ∧ ∀ e ∈ o.after, binds e = true → lst l e.on = true := by
  unfold Region.ready at h
  rw [List.mem_filter, List.mem_range] at h
  obtain ⟨hi, h⟩ := h
  have ho : ops[i]? = some ops[i] := by simp [hi]
  simp only [ho, Option.map_some, Option.getD_some, Bool.and_eq_true, Bool.not_eq_true', Array.all_eq_true, Bool.or_eq_true] at h
  refine ⟨ops[i], ho, ?_, fun e he hb => ?_⟩
  · have := h.1
    unfold lst
    simp only [Array.getD_eq_getD_getElem?] at this ⊢
    rw [Array.getElem?_eq_getElem (by omega)] at this ⊢
    simpa using this
  · obtain ⟨x, hx, rfl⟩ := Array.getElem_of_mem he
    rcases h.2 x hx with h2 | h2
    · unfold binds at hb; rw [hb] at h2; cases h2
    · exact h2

theorem ready_nil (hA : acyc ops = true) {l : Array Bool} (hs : l.size = ops.size) (h : Region.ready .any ops l = []) : ∀ n i, i < n → i < ops.size → lst l i = true := by
  intro n
  induction n with
  | zero => intro i h; omega
  | succ n ih =>
    intro i hin hi
    cases hl : lst l i with
    | true => rfl
    | false =>
      exfalso
      have hm : i ∈ Region.ready .any ops l := by
        unfold Region.ready
        rw [List.mem_filter, List.mem_range]
        refine ⟨hi, ?_⟩
        have ho : ops[i]? = some ops[i] := by simp [hi]
        have h3 := List.all_eq_true.1 hA i (List.mem_range.2 hi)
        simp only [ho, Option.map_some, Option.getD_some, Bool.and_eq_true, Bool.not_eq_true', Array.all_eq_true, Bool.or_eq_true, decide_eq_true_eq] at h3 ⊢
        refine ⟨?_, fun x hx => ?_⟩
        · unfold lst at hl
          simp only [Array.getD_eq_getD_getElem?] at hl ⊢
          rw [Array.getElem?_eq_getElem (by omega)] at hl ⊢
          simpa using hl
        · rcases h3 x hx with h4 | h4
          · exact .inl h4
          · exact .inr (ih _ (by omega) (by omega))
      rw [h] at hm
      cases hm

theorem step_ (hA : acyc ops = true) (hT : okT ops T = true) (hD : okD ops = true) (hI : okI ops T I = true) (hstab : ∀ (t k : Nat) (c : Bool) v w w', R k w w' → Φ t k v w → Φ t (if c then k + 1 else k) v w')
    (hM : ∀ i t, dstOf ops i = some t → t < a0.tmps.size)
    (hob : obs (ob P ops Φ W R a0 Q) I ops.toList) {l : Array Bool} {a : Act} {w : World} (hJ : J ops I Φ W a0 l a w) {i : Nat} (hr : i ∈ Region.ready .any ops l)
    {K : Act → World → Prop} (hK : ∀ a' w', J ops I Φ W a0 (l.setIfInBounds i true) a' w' → K a' w') : wpOp P ops Q i K a w := by
  obtain ⟨o, ho, hl, he⟩ := ready_mem hJ.size hr
  have hi : i < ops.size := (Array.getElem?_eq_some_iff.1 ho).1
  have hc := closed hA hT hJ.down (i + 1) i o (by omega) ho he
  have h1 := List.all_eq_true.1 hI i (List.mem_range.2 hi)
  cases hx : I[i]? with
  | none => simp [hx] at h1
  | some x =>
    simp only [hx, Option.map_some, Option.getD_some, Bool.and_eq_true, List.all_eq_true, List.any_eq_true, beq_iff_eq, decide_eq_true_eq, List.mem_range, Bool.or_eq_true, bne_iff_ne, ne_eq, List.contains_iff_mem] at h1
    obtain ⟨⟨⟨h2, h3⟩, h4⟩, h5⟩ := h1
    have hdst : dstOf ops i = o.dst := by unfold dstOf; rw [ho]; rfl
    -- an operation that waits for i has not come up
    have later : ∀ j, j < ops.size → i ∈ T.getD j [] → lst l j = false := by
      intro j hj hm
      cases hlj : lst l j with
      | false => rfl
      | true =>
        have hoj : ops[j]? = some ops[j] := by simp [hj]
        have := closed hA hT hJ.down (j + 1) j _ (by omega) hoj (hJ.down j _ hoj hlj) i hm
        rw [hl] at this
        cases this
    have in_range : ∀ j, lst l j = true → j < ops.size := by
      intro j hj
      unfold lst at hj
      simp only [Array.getD_eq_getD_getElem?] at hj
      rcases Nat.lt_or_ge j l.size with h | h
      · rw [← hJ.size]; exact h
      · rw [Array.getElem?_eq_none h] at hj; cases hj
    have hob' := obs_at I ops.toList i x o hob hx (by simpa using ho)
    have key := hob' a w _ (Nat.le_trans h4 (cnt_mono _ fun j hj hp => by
        simp only [Bool.and_eq_true, List.contains_iff_mem] at hp ⊢
        exact ⟨hp.1, hc j hp.2⟩)) (Nat.le_trans (cnt_mono _ fun j hj hp => by
        simp only [Bool.and_eq_true] at hp
        simp only [Bool.and_eq_true, bne_iff_ne, ne_eq, Bool.not_eq_true']
        refine ⟨hp.1, ?_, ?_⟩
        · rintro rfl; rw [hl] at hp; exact absurd hp.2 (by simp)
        · cases hcj : (T.getD j []).contains i with
          | false => rfl
          | true =>
            have := later j hj (by simpa using hcj)
            rw [this] at hp
            exact absurd hp.2 (by simp)) h5) hJ.world
      (fun t ht => by
        obtain ⟨d, hd, hdt⟩ := h2 t ht
        exact hJ.vals d t (hc d hd) hdt)
      (fun t ht => by
        have := hJ.free t fun j hj hjt => by
          have hjn := in_range j hj
          rcases h3 t ht j hjn with (h6 | h6) | h6
          · exact h6 hjt
          · rw [h6, hl] at hj; cases hj
          · rw [later j hjn h6] at hj; cases hj
        simp [Act.eval, this])
      K (fun v w' hR hv hW => hK _ _ ?_)
    · unfold wpOp
      rw [ho]
      dsimp only
      split
      · rename_i hw; rw [if_pos hw] at key; exact .inl key
      · rename_i hw; rw [if_neg hw] at key; exact key
    · have hls : ∀ j, lst (l.setIfInBounds i true) j = if j = i then true else lst l j := fun j => lst_set l i j (by rw [hJ.size]; exact hi)
      have other : ∀ j t, lst l j = true → dstOf ops j = some t → o.dst ≠ some t := by
        intro j t hj hjt e
        have hjn := in_range j hj
        have h6 := List.all_eq_true.1 (List.all_eq_true.1 hD i (List.mem_range.2 hi)) j (List.mem_range.2 hjn)
        simp only [Bool.or_eq_true, beq_iff_eq, bne_iff_ne, ne_eq] at h6
        rcases h6 with (h6 | h6) | h6
        · rw [h6] at hl; rw [hl] at hj; cases hj
        · rw [hdst, e] at h6; cases h6
        · exact h6 (by rw [hdst, hjt, e])
      have h9 : cnt (fun j => chOf I j && lst (l.setIfInBounds i true) j) ops.size = if x.ch then cnt (fun j => chOf I j && lst l j) ops.size + 1 else cnt (fun j => chOf I j && lst l j) ops.size := by
        rw [cnt_set (p := fun j => chOf I j && lst l j) ops.size i hi (by simp [hl]) (fun j hj => by simp [hls, hj])]
        have h10 : chOf I i = x.ch := by simp [chOf, hx]
        cases hch : x.ch <;> simp [hls, h10, hch]
      refine ⟨by simpa using hJ.size, fun j oj hj hlj e he' hb => ?_, ?_, ?_, fun t ht => ?_, fun j t hj hjt => ?_, ?_⟩
      · rw [hls] at hlj ⊢
        by_cases hji : j = i
        · subst hji
          obtain rfl : oj = o := Option.some.inj (hj.symm.trans ho)
          split
          · rfl
          · exact he e he' hb
        · rw [if_neg hji] at hlj
          split
          · rfl
          · exact hJ.down j oj hj hlj e he' hb
      · rw [← hJ.dfr]; cases o.dst <;> rfl
      · rw [← hJ.len]; cases o.dst <;> simp [Act.put]
      · rw [← hJ.free t fun j hj => ht j (by rw [hls]; split <;> simp_all)]
        have h7 := ht i (by rw [hls]; simp)
        rw [hdst] at h7
        cases hod : o.dst with
        | none => rfl
        | some d =>
          rw [hod] at h7
          have : d ≠ t := fun e => h7 (by rw [e])
          simp [Act.put, Array.getElem?_setIfInBounds_ne this]
      · rw [hls] at hj
        by_cases hji : j = i
        · subst hji
          rw [hdst] at hjt
          -- the slot that was written just now
          have ht : t < a.tmps.size := by rw [hJ.len]; exact hM j t (by rw [hdst]; exact hjt)
          have : (a.put o.dst v).eval (.tmp t) = v := by rw [hjt]; simp [Act.put, Act.eval, ht]
          rw [this, h9]
          exact hv t hjt
        · rw [if_neg hji] at hj
          have h8 := other j t hj hjt
          rw [Act.eval_put (fun d hd e => h8 (by rw [hd]; injection e with e; rw [e]))]
          rw [h9]
          exact hstab _ _ _ _ _ _ hR (hJ.vals j t hj hjt)
      · rw [h9]; exact hW

theorem any_ (hA : acyc ops = true) (hT : okT ops T = true) (hD : okD ops = true) (hI : okI ops T I = true) (hstab : ∀ (t k : Nat) (c : Bool) v w w', R k w w' → Φ t k v w → Φ t (if c then k + 1 else k) v w') (hM : ∀ i t, dstOf ops i = some t → t < a0.tmps.size)
    (hob : obs (ob P ops Φ W R a0 Q) I ops.toList) (hend : ∀ l a w, (∀ i, i < ops.size → lst l i = true) → J ops I Φ W a0 l a w → Q .normal a w) :
    ∀ (fuel : Nat) (l : Array Bool) (a : Act) (w : World), cnt (fun i => !lst l i) ops.size ≤ fuel → J ops I Φ W a0 l a w → wpAny P .any ops Q fuel l a w := by
  intro fuel
  induction fuel with
  | zero =>
    intro l a w hf hJ
    have all : ∀ i, i < ops.size → lst l i = true := by
      intro i hi
      cases hl : lst l i with
      | true => rfl
      | false =>
        exfalso
        have h := cnt_set (p := fun j => !lst l j && j != i) (q := fun j => !lst l j) ops.size i hi (by simp) (fun j hj => by simp [hj])
        simp [hl] at h
        omega
    refine ⟨?_, hend l a w all hJ⟩
    cases hr : Region.ready .any ops l with
    | nil => rfl
    | cons i rest =>
      obtain ⟨o, ho, hl, _⟩ := ready_mem hJ.size (i := i) (by rw [hr]; simp)
      rw [all i (Array.getElem?_eq_some_iff.1 ho).1] at hl
      cases hl
  | succ fuel ih =>
    intro l a w hf hJ
    refine ⟨fun hr => hend l a w (fun i hi => ready_nil hA hJ.size hr (i + 1) i (by omega) hi) hJ, fun i hi => ?_⟩
    refine step_ hA hT hD hI hstab hM hob hJ hi fun a' w' hJ' => ih _ _ _ ?_ hJ'
    obtain ⟨o, ho, hl, _⟩ := ready_mem hJ.size hi
    have hin : i < ops.size := (Array.getElem?_eq_some_iff.1 ho).1
    have h := cnt_set (p := fun j => !lst (l.setIfInBounds i true) j) (q := fun j => !lst l j) ops.size i hin (by simp [lst_set l i i (by rw [hJ.size]; exact hin)]) (fun j hj => by simp [lst_set l i j (by rw [hJ.size]; exact hin), hj])
    simp [hl] at h
    omega

/-- The frame with the slots ds written. -/
def putAll (u : Nat → Value) : List Nat → Act → Act
  | [], a => a
  | t :: ds, a => putAll u ds (a.put (some t) (u t))
theorem putAll_at (u : Nat → Value) : ∀ (ds : List Nat) (a : Act) (t : Nat), (putAll u ds a).tmps[t]? = if t ∈ ds ∧ t < a.tmps.size then some (u t) else a.tmps[t]?
  | [], a, t => by simp [putAll]
  | d :: ds, a, t => by
    rw [putAll, putAll_at u ds]
    simp only [Act.put, Array.size_setIfInBounds, List.mem_cons]
    by_cases hm : t ∈ ds
    · by_cases hs : t < a.tmps.size
      · simp [hm, hs]
      · simp [hm, hs]
    · by_cases e : t = d
      · subst e
        by_cases hs : t < a.tmps.size
        · simp [hm, hs]
        · simp [hs]
      · simp [hm, e, Array.getElem?_setIfInBounds_ne (Ne.symm e)]
theorem putAll_defers (u : Nat → Value) : ∀ (ds : List Nat) (a : Act), (putAll u ds a).defers = a.defers
  | [], _ => rfl
  | _ :: ds, _ => (putAll_defers u ds _).trans rfl

/-- THE RULE. -/
theorem region {id : Nat} {w : World} (T : List (List Nat)) (I : List Info) (N m : Nat) (ds : List Nat) (hm : P.follows .mixedOrders = true) (hlen : a0.tmps.size = m) (hC : check ops T I N m ds = true)
    (Φ : Nat → Nat → Value → World → Prop) (W : Nat → World → Prop) (R : Nat → World → World → Prop) (hstab : ∀ (t k : Nat) (c : Bool) v w w', R k w w' → Φ t k v w → Φ t (if c then k + 1 else k) v w') (h0 : W 0 w.drew)
    (hob : obs (ob P ops Φ W R a0 Q) I ops.toList) (hend : ∀ (u : Nat → Value) w', W N w' → (∀ t, t ∈ ds → Φ t N (u t) w') → Q .normal (putAll u ds a0) w') : (Code.region id ops true).wp P Q a0 w := by
  unfold check at hC
  simp only [Bool.and_eq_true, beq_iff_eq] at hC
  obtain ⟨⟨⟨⟨⟨⟨hA, hT⟩, hD⟩, hI⟩, hN⟩, hM⟩, hS⟩ := hC
  have hM' : ∀ i t, dstOf ops i = some t → t < a0.tmps.size := by
    intro i t hit
    have hi : i < ops.size := by
      unfold dstOf at hit
      rcases Nat.lt_or_ge i ops.size with h | h
      · exact h
      · rw [Array.getElem?_eq_none h] at hit; cases hit
    have := List.all_eq_true.1 hM i (List.mem_range.2 hi)
    rw [hit] at this
    rw [hlen]
    simpa using this
  unfold okS at hS
  simp only [Bool.and_eq_true, List.all_eq_true, List.mem_range, List.any_eq_true, beq_iff_eq] at hS
  refine wp_region_any hm (any_ hA hT hD hI hstab hM' hob (fun l a w' all hJ => ?_) _ _ _ _ (by
    have := cnt_mono (p := fun i => !lst (Array.replicate ops.size false) i) (q := fun _ => true) ops.size (fun _ _ _ => rfl)
    have h2 : ∀ n, cnt (fun _ => true) n = n := by
      intro n
      induction n with
      | zero => rfl
      | succ n ih => simp [cnt, ih]
    rw [h2] at this
    exact this) ?_)
  · have e : a = putAll (fun t => a.eval (.tmp t)) ds a0 := by
      have h1 : a.tmps = (putAll (fun t => a.eval (.tmp t)) ds a0).tmps := by
        apply Array.ext_getElem?
        intro t
        rw [putAll_at]
        by_cases hd : t ∈ ds ∧ t < a0.tmps.size
        · rw [if_pos hd]
          have : t < a.tmps.size := by rw [hJ.len]; exact hd.2
          simp [Act.eval, this]
        · rw [if_neg hd]
          refine hJ.free t fun i hi hit => hd ⟨?_, hM' i t hit⟩
          have hin : i < ops.size := by
            unfold dstOf at hit
            rcases Nat.lt_or_ge i ops.size with h | h
            · exact h
            · rw [Array.getElem?_eq_none h] at hit; cases hit
          have := hS.1 i hin
          rw [hit] at this
          simpa using this
      have h2 : a.defers = (putAll (fun t => a.eval (.tmp t)) ds a0).defers := by rw [putAll_defers, hJ.dfr]
      cases a
      simp only at h1 h2
      generalize putAll _ ds a0 = b at *
      cases b
      simp_all
    rw [e]
    have hNN : cnt (fun j => chOf I j && lst l j) ops.size = N := by
      rw [← hN]
      exact cnt_congr _ fun i hi => by simp [all i hi]
    refine hend _ _ ?_ fun t ht => ?_
    · rw [← hNN]
      exact hJ.world
    · obtain ⟨i, hi, hit⟩ := hS.2 t ht
      rw [← hNN]
      exact hJ.vals i t (all i hi) hit
  · have hf : ∀ i, lst (Array.replicate ops.size false) i = false := by
      intro i
      unfold lst
      simp only [Array.getD_eq_getD_getElem?, Array.getElem?_replicate]
      split <;> rfl
    refine ⟨by simp, fun i o _ hl => ?_, rfl, rfl, fun _ _ => rfl, fun i t hl => ?_, ?_⟩
    · rw [hf] at hl; cases hl
    · rw [hf] at hl; cases hl
    · have : cnt (fun j => chOf I j && lst (Array.replicate ops.size false) j) ops.size = 0 := by
        have h3 : (fun j => chOf I j && lst (Array.replicate ops.size false) j) = fun _ => false := by
          funext j
          rw [hf, Bool.and_false]
        have h2 : ∀ n, cnt (fun _ => false) n = 0 := by
          intro n
          induction n with
          | zero => rfl
          | succ n ih => simp [cnt, ih]
        rw [h3]
        exact h2 _
      rw [this]
      exact h0
end

/-! ### The same, each operation over values alone -/
def uponV (P : Program) (next : Value → World → Prop) : Result Next → Prop
  | .ok (.value v) w' => next v w'
  | .ok .skip w' => next undef w'
  | .ok (.enter f args) w' => Calls P f args w' fun e w'' => ∃ v, e = .returned v ∧ next v w''
  | _ => False
theorem upon_of {P : Program} {o : Oper} {a : Act} {K : Act → World → Prop} {Q : Exit → Act → World → Prop} {next : Value → World → Prop} (h : ∀ v w', next v w' → K (a.put o.dst v) w') {r : Result Next}
    (hr : uponV P next r) : o.upon P a K Q r := by
  cases r with
  | halt x w' => exact absurd hr (by simp [uponV])
  | ok n w' =>
    cases n
    case value v => exact h _ _ hr
    case skip => exact h _ _ hr
    case enter f args => exact Calls.mono hr fun e w'' ⟨v, he, hv⟩ => by subst he; exact h _ _ hv
    all_goals exact False.elim hr
/-- A frame's reading of operands. -/
structure Rho (ρ : Operand → Value) : Prop where
  const : ∀ v, ρ (.const v) = v
  func : ∀ f, ρ (.func f) = .func (.func f) #[] #[]
  glob : ∀ g, ρ (.global g) = .pointer (some ⟨g, 0, none⟩)
def obV (P : Program) (ops : Array Oper) (Φ : Nat → Nat → Value → World → Prop) (W : Nat → World → Prop) (R : Nat → World → World → Prop) (a0 : Act) (x : Info) (o : Oper) : Prop :=
  ∀ (ρ : Operand → Value) (w : World) (k : Nat), Rho ρ → x.lo ≤ k → k ≤ x.hi → W k w → (∀ t, t ∈ x.ps → Φ t k (ρ (.tmp t)) w) → (∀ t, t ∈ x.fs → ρ (.tmp t) = a0.eval (.tmp t)) →
    ∀ next : Value → World → Prop, (∀ v w', R k w w' → (∀ t, o.dst = some t → Φ t (if x.ch then k + 1 else k) v w') → W (if x.ch then k + 1 else k) w' → next v w') →
      match o.guard with
      | none => uponV P next ((execOp ρ o).run P w)
      | some (j, want) => match dstOf ops j with
        | some t => (ρ (.tmp t) = .bool want → uponV P next ((execOp ρ o).run P w)) ∧ (ρ (.tmp t) ≠ .bool want → next undef w)
        | none => next undef w
theorem ob_of {P : Program} {ops : Array Oper} {Φ : Nat → Nat → Value → World → Prop} {W : Nat → World → Prop} {R : Nat → World → World → Prop} {a0 : Act} {Q : Exit → Act → World → Prop} {x : Info} {o : Oper}
    (h : obV P ops Φ W R a0 x o) : ob P ops Φ W R a0 Q x o := by
  intro a w k h1 h2 hW hv hf K hK
  have key := h a.eval w k ⟨fun _ => rfl, fun _ => rfl, fun _ => rfl⟩ h1 h2 hW hv hf (fun v w' => K (a.put o.dst v) w') hK
  cases hg : o.guard with
  | none =>
    rw [hg] at key
    rw [if_pos (by simp [Region.wanted, hg])]
    exact upon_of (fun _ _ h => h) key
  | some jw =>
    obtain ⟨j, want⟩ := jw
    rw [hg] at key
    dsimp only at key
    have hd : dstOf ops j = (ops[j]?).bind (·.dst) := rfl
    cases hj : dstOf ops j with
    | none =>
      rw [hj] at key
      have : Region.wanted o (yielded ops a.tmps) = false := by
        simp only [Region.wanted, hg, yielded, ← hd, hj]
        rfl
      rw [this]
      exact key
    | some t =>
      rw [hj] at key
      have e : Region.wanted o (yielded ops a.tmps) = true ↔ a.eval (.tmp t) = .bool want := by
        simp only [Region.wanted, hg, yielded, ← hd, hj, Option.bind_some, Act.eval]
        cases ht : a.tmps[t]? with
        | none => simp [Array.getD_eq_getD_getElem?, ht, undef]
        | some u => cases u <;> simp [Array.getD_eq_getD_getElem?, ht]
      by_cases hw : a.eval (.tmp t) = .bool want
      · rw [if_pos (e.2 hw)]
        exact upon_of (fun _ _ h => h) (key.1 hw)
      · rw [if_neg (fun h => hw (e.1 h))]
        exact key.2 hw
theorem uponV_append {P : Program} {next : Value → World → Prop} {ρ : Operand → Value} {w w' : World} {dst : Option Tmp} {ty : TypeId} {pos : String} {after : Array Edge} {guard : Option (Nat × Bool)} {s x : Operand} {t u : TypeId} {v' : Value}
    (h : (Builtin.append_ #[t, u] ty #[ρ s, ρ x]).run P w = .ok v' w') (hn : next v' w') :
    uponV P next ((execOp ρ { dst, op := .call { callee := .builtin .append, args := #[s, x], argTypes := #[t, u] }, type := ty, pos, after, guard }).run P w) := by
  unfold execOp
  simp only [resolve, invoke, builtin, Sem.run_bind, Sem.run_pure, Result.andThen_ok, List.map_toArray, List.map_cons, List.map_nil, h]
  exact hn
theorem obs_mono {f g : Info → Oper → Prop} (h : ∀ x o, f x o → g x o) : ∀ (I : List Info) (l : List Oper), obs f I l → obs g I l
  | [], _, _ => trivial
  | _ :: _, [], _ => trivial
  | _ :: I, _ :: l, hh => ⟨h _ _ hh.1, obs_mono h I l hh.2⟩

/-- THE RULE, over values. -/
theorem regionV {P : Program} {l : List Oper} {a0 : Act} {Q : Exit → Act → World → Prop} {id : Nat} {w : World} (T : List (List Nat)) (I : List Info) (N m : Nat) (ds : List Nat) (hm : P.follows .mixedOrders = true) (hlen : a0.tmps.size = m)
    (hC : check l.toArray T I N m ds = true) (Φ : Nat → Nat → Value → World → Prop) (W : Nat → World → Prop) (R : Nat → World → World → Prop)
    (hstab : ∀ (t k : Nat) (c : Bool) v w w', R k w w' → Φ t k v w → Φ t (if c then k + 1 else k) v w') (h0 : W 0 w.drew)
    (hob : obs (obV P l.toArray Φ W R a0) I l) (hend : ∀ (u : Nat → Value) w', W N w' → (∀ t, t ∈ ds → Φ t N (u t) w') → Q .normal (putAll u ds a0) w') : (Code.region id l.toArray true).wp P Q a0 w :=
  region T I N m ds hm hlen hC Φ W R hstab h0 (obs_mono (fun _ _ => ob_of) I _ hob) hend

/-- All but the blocks of E are as they were. -/
structure RG (E : Nat → Prop) (w w' : World) : Prop where
  os : w'.os = w.os
  tape : w'.tape = w.tape
  output : w'.output = w.output
  size : w.heap.size ≤ w'.heap.size
  block : ∀ j, j < w.heap.size → ¬ E j → w'.heap[j]? = w.heap[j]?
section
variable {E : Nat → Prop}
theorem RG_refl (w : World) : RG E w w := ⟨rfl, rfl, rfl, Nat.le_refl _, fun _ _ _ => rfl⟩
theorem RG_drew (w : World) : RG E w w.drew := ⟨rfl, rfl, rfl, Nat.le_refl _, fun _ _ _ => rfl⟩
theorem RG_alloc (w : World) (o : Obj) : RG E w (w.alloc o) := ⟨rfl, rfl, rfl, by simp, fun j hj _ => Below.heap_alloc w o j hj⟩
theorem RG_grown {w w' : World} {row : Option Nat} (h : w.grownBy w' row) (hE : ∀ g, row = some g → E g) : RG E w w' := ⟨h.os, h.tape, h.output, h.size, fun j hj hne => h.block j hj (fun e => hne (hE j e.symm))⟩
theorem RG_below {w w' : World} (h : Below w.heap.size w w') : RG E w w' := ⟨h.os, h.tape, h.output, h.size, fun j hj _ => h.block j hj⟩
theorem RG_set (w : World) (p : Addr) (u : Value) (hE : E p.block) : RG E w (w.setCell p u) := ⟨rfl, rfl, rfl, by simp [World.setCell], fun j _ hne => Below.heap_setCell w p u j (fun e => hne (e ▸ hE))⟩
theorem RG.trans {F : Nat → Prop} {a b c : World} (h : RG E a b) (g : RG F b c) (hF : ∀ j, j < a.heap.size → F j → E j) : RG E a c :=
  ⟨g.os.trans h.os, g.tape.trans h.tape, g.output.trans h.output, Nat.le_trans h.size g.size, fun j hj hne => (g.block j (Nat.lt_of_lt_of_le hj h.size) (fun f => hne (hF j hj f))).trans (h.block j hj hne)⟩
theorem RG.to_grown {w w' : World} {bd : Nat} (h : RG E w w') (hE : ∀ j, j < w.heap.size → E j → j = bd) : w.grownBy w' (some bd) :=
  ⟨h.os, h.tape, h.output, h.size, fun j hj hne => h.block j hj (fun e => hne (by rw [hE j hj e]))⟩
theorem RG.to_below {w w' : World} (h : RG E w w') (hE : ∀ j, j < w.heap.size → ¬ E j) : Below w.heap.size w w' :=
  ⟨h.os, h.tape, h.output, h.size, fun j hj => h.block j hj (hE j hj)⟩
theorem RG.mono {F : Nat → Prop} {w w' : World} (h : RG E w w') (hF : ∀ j, j < w.heap.size → E j → F j) : RG F w w' := ⟨h.os, h.tape, h.output, h.size, fun j hj hne => h.block j hj (fun e => hne (hF j hj e))⟩
theorem RG.own {w w' : World} {base : Nat} {e : TypeId} {size n : Nat} {v : Value} {xs : List Value} (h : RG E w w') (ho : w.ownsRow base e size v n xs) (hE : ∀ g, v.ownBlock = some g → ¬ E g) : w'.ownsRow base e size v n xs := by
  refine ⟨ho.1, ?_⟩
  rcases ho.2 with hn | ⟨g, cap, cur, rfl, hb, hgg, rest⟩
  · exact .inl hn
  · refine .inr ⟨g, cap, cur, rfl, hb, ?_, rest⟩
    rw [h.block g (Array.getElem?_eq_some_iff.1 hgg).1 (hE g rfl)]
    exact hgg
end
end Soft
end Go.Proofs.Ytlabfbpnkjigoaa
