/- Abstract values: loops that are counted, loops over lists; what stays as it is in them is read off the state. -/
import Derived.Test.YtjbldhhgooihfaaAvp
namespace Go.Proofs.Ytjbldhhgooihfaa
namespace Av
set_option linter.unusedSimpArgs false
set_option linter.unusedVariables false

def frcP (v : AV) (k : AV → Prop) : Prop := match v with
  | .s v => k (.s v)
  | .ptr j i o => k (.ptr j i o)
  | .agg cs => k (.agg cs)
  | .sl b xs => k (.sl b xs)
  | .ref j o n => k (.ref j o n)
  | .fp xs i o => k (.fp xs i o)
  | .fn f cs => k (.fn f cs)
  | .tup vs => k (.tup vs)
  | .bot => k .bot
  | .gh n => k (.gh n)
theorem frcP_eq (v : AV) (k : AV → Prop) : frcP v k = k v := by cases v <;> rfl
def frcLP : List AV → (List AV → Prop) → Prop
  | [], k => k []
  | x :: r, k => frcP x fun x => frcLP r fun r => k (x :: r)
theorem frcLP_eq : ∀ (l : List AV) (k : List AV → Prop), frcLP l k = k l
  | [], _ => rfl
  | x :: r, k => by rw [frcLP, frcP_eq, frcLP_eq r]
/-- The slots ts as they are when the keys K are kept. -/
def slotsC (K : List Nat) (h : Heap) (tm : List (Nat × AV)) : List Nat → (List (Nat × AV) → Prop) → Prop
  | [], k => k []
  | t :: ts, k => frcP (frzV K h (look tm t)) fun v => slotsC K h tm ts fun r => k ((t, v) :: r)
theorem slotsC_eq (K : List Nat) (h : Heap) (tm : List (Nat × AV)) : ∀ (ts : List Nat) (k : List (Nat × AV) → Prop), slotsC K h tm ts k = k (ts.map fun t => (t, frzV K h (look tm t)))
  | [], _ => rfl
  | t :: ts, k => by rw [slotsC, frcP_eq, slotsC_eq K h tm ts]; rfl
/-- The entries of the keys Ks as they are when the keys K are kept. -/
def heapC (K : List Nat) (h : Heap) : List Nat → (List (Nat × Ent) → Prop) → Prop
  | [], k => k []
  | j :: Ks, k => match h j with
    | none => heapC K h Ks k
    | some (.box cs) => frcLP (frzL K h cs) fun cs => heapC K h Ks fun r => k ((j, .box cs) :: r)
    | some (.arr sz xs st) => heapC K h Ks fun r => k ((j, .arr sz xs st) :: r)
    | some .dead => heapC K h Ks fun r => k ((j, .dead) :: r)
theorem heapC_eq (K : List Nat) (h : Heap) : ∀ (Ks : List Nat) (k : List (Nat × Ent) → Prop), heapC K h Ks k = k (Ks.filterMap fun j => (h j).map fun e => (j, frzE K h e))
  | [], _ => rfl
  | j :: Ks, k => by
    rw [heapC, List.filterMap_cons]
    cases h j with
    | none => exact heapC_eq K h Ks k
    | some e =>
      cases e with
      | box cs => dsimp only [Option.map_some]; rw [frcLP_eq, heapC_eq K h Ks]; rfl
      | arr sz xs st => dsimp only [Option.map_some]; rw [heapC_eq K h Ks]; rfl
      | dead => dsimp only [Option.map_some]; rw [heapC_eq K h Ks]; rfl

section
variable {P : Program} {K0 : List Nat} {F : Fr K0} {m : Nat} {Q : Exit → St → Prop} {st : St} {c : Code}
/-- The end of a round. -/
def rndQ (Q : Exit → St → Prop) (I : St → Prop) : Exit → St → Prop
  | .normal, s => I s
  | e, s => Q e s
/-- A loop with a counter: an invariant. -/
theorem sim_cntP (N : Nat) (K Ks ts ds : List Nat) (hK : K0.all (K.contains ·) = true) (I : Nat → List (Nat × AV) → List (Nat × Ent) → St → Prop)
    (h : slotsC K (lookE st.h) st.tm ts fun T => heapC K (lookE st.h) Ks fun U => I 0 T U (restr K ds st) ∧ (∀ i s, i < N → I i T U s → Sim P F m c s (rndQ Q fun s => I (i + 1) T U (restr K ds s))) ∧
      ∀ s, I N T U s → Sim P F m c s (rndQ Q fun _ => False)) : Sim P F m (.loop c) st Q := by
  rw [slotsC_eq, heapC_eq] at h
  generalize (ts.map _) = T at h
  generalize (Ks.filterMap _) = U at h
  obtain ⟨h0, h1, h2⟩ := h
  refine sim_loop_r (fun n s => ∃ i, n + i = N ∧ I i T U s) N K ds hK ⟨0, rfl, h0⟩ fun n s ⟨i, hi, hs⟩ => ?_
  by_cases hlt : i < N
  · refine (h1 i s hlt hs).mono fun e s' hq => ?_
    cases e with
    | normal => exact ⟨n - 1, by omega, i + 1, by omega, hq⟩
    | _ => exact hq
  · obtain rfl : i = N := by omega
    refine (h2 s hs).mono fun e s' hq => ?_
    cases e with
    | normal => exact hq.elim
    | _ => exact hq
/-- A loop with a counter. -/
theorem sim_cnt (N : Nat) (K Ks ts ds : List Nat) (hK : K0.all (K.contains ·) = true) (S : Nat → List (Nat × AV) → List (Nat × Ent) → St)
    (h : slotsC K (lookE st.h) st.tm ts fun T => heapC K (lookE st.h) Ks fun U => restr K ds st = S 0 T U ∧ (∀ i, i < N → Sim P F m c (S i T U) (rndQ Q fun s => restr K ds s = S (i + 1) T U)) ∧
      Sim P F m c (S N T U) (rndQ Q fun _ => False)) : Sim P F m (.loop c) st Q := by
  refine sim_cntP N K Ks ts ds hK (fun i T U s => s = S i T U) ?_
  rw [slotsC_eq, heapC_eq] at h ⊢
  obtain ⟨h0, h1, h2⟩ := h
  exact ⟨h0, fun i s hi hs => hs ▸ h1 i hi, fun s hs => hs ▸ h2⟩
/-- A loop with a measure. -/
theorem sim_whl (N : Nat) (K Ks ts ds : List Nat) (hK : K0.all (K.contains ·) = true) (I : Nat → List (Nat × AV) → List (Nat × Ent) → St → Prop)
    (h : slotsC K (lookE st.h) st.tm ts fun T => heapC K (lookE st.h) Ks fun U => I N T U (restr K ds st) ∧ ∀ n s, I n T U s → Sim P F m c s (rndQ Q fun s => ∃ n', n' < n ∧ I n' T U (restr K ds s))) : Sim P F m (.loop c) st Q := by
  rw [slotsC_eq, heapC_eq] at h
  generalize (ts.map _) = T at h
  generalize (Ks.filterMap _) = U at h
  obtain ⟨h0, h1⟩ := h
  refine sim_loop_r (fun n s => I n T U s) N K ds hK h0 fun n s hs => (h1 n s hs).mono fun e s' hq => ?_
  cases e with
  | normal => exact hq
  | _ => exact hq
/-- A loop over a list. -/
theorem sim_rng {α : Type} (l : List α) (K Ks ts ds : List Nat) (hK : K0.all (K.contains ·) = true) (S : Nat → List α → List (Nat × AV) → List (Nat × Ent) → St)
    (h : slotsC K (lookE st.h) st.tm ts fun T => heapC K (lookE st.h) Ks fun U => restr K ds st = S 0 [] T U ∧
      (∀ i pre x post, l = pre ++ x :: post → pre.length = i → Sim P F m c (S i pre T U) (rndQ Q fun s => restr K ds s = S (i + 1) (pre ++ [x]) T U)) ∧
      Sim P F m c (S l.length l T U) (rndQ Q fun _ => False)) : Sim P F m (.loop c) st Q := by
  refine sim_cnt l.length K Ks ts ds hK (fun i T U => S i (l.take i) T U) ?_
  rw [slotsC_eq, heapC_eq] at h ⊢
  obtain ⟨h0, h1, h2⟩ := h
  refine ⟨by simpa using h0, fun i hi => ?_, by simpa using h2⟩
  have := h1 i (l.take i) l[i] (l.drop (i + 1)) (by rw [← List.drop_eq_getElem_cons hi, List.take_append_drop]) (by simp; omega)
  rw [List.take_append_getElem hi] at this
  exact this
/-- A loop over a list: an invariant. -/
theorem sim_rngP {α : Type} (l : List α) (K Ks ts ds : List Nat) (hK : K0.all (K.contains ·) = true) (I : Nat → List α → List (Nat × AV) → List (Nat × Ent) → St → Prop)
    (h : slotsC K (lookE st.h) st.tm ts fun T => heapC K (lookE st.h) Ks fun U => I 0 [] T U (restr K ds st) ∧
      (∀ i pre x post s, l = pre ++ x :: post → pre.length = i → I i pre T U s → Sim P F m c s (rndQ Q fun s => I (i + 1) (pre ++ [x]) T U (restr K ds s))) ∧
      ∀ s, I l.length l T U s → Sim P F m c s (rndQ Q fun _ => False)) : Sim P F m (.loop c) st Q := by
  refine sim_cntP l.length K Ks ts ds hK (fun i T U s => I i (l.take i) T U s) ?_
  rw [slotsC_eq, heapC_eq] at h ⊢
  obtain ⟨h0, h1, h2⟩ := h
  refine ⟨by simpa using h0, fun i s hi hs => ?_, fun s hs => h2 s (by simpa using hs)⟩
  have := h1 i (l.take i) l[i] (l.drop (i + 1)) s (by rw [← List.drop_eq_getElem_cons hi, List.take_append_drop]) (by simp; omega) hs
  rw [List.take_append_getElem hi] at this
  exact this
end
section
variable {α : Type} {l pre post : List α} {x : α} {i : Nat}
theorem rng_lt (h : l = pre ++ x :: post) (hi : pre.length = i) : i < l.length := by subst h; simp; omega
theorem rng_at {β : Type} (f : α → β) (h : l = pre ++ x :: post) (hi : pre.length = i) : (l.map f)[i]? = some (f x) := by subst h; subst hi; simp
theorem rng_mem (h : l = pre ++ x :: post) : x ∈ l := by subst h; simp
theorem map_len {β : Type} (f : α → β) (l : List α) : (l.map f).length = l.length := by simp
theorem map_hd {n : Nat} (f : α → AV) (l : List α) (h : ∀ x, (f x).cells.length = n) : ∀ y, (l.map f)[0]? = some y → y.cells.length = n := fun y hy => by
  rw [List.getElem?_map, Option.map_eq_some_iff] at hy
  obtain ⟨x, _, rfl⟩ := hy
  exact h x
theorem idx_at {β : Type} (f : α → β) (l : List α) (i : Nat) (hi : i < l.length) : (l.map f)[i]? = some (f l[i]) := by simp [hi]
end
end Av
end Go.Proofs.Ytjbldhhgooihfaa
