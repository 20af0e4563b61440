
/- law17: what following the parents leads to, however long; valid slots stay valid. -/
import Derived.Test.YtjbldhhgooihfaaGreatRgI
import Derived.Test.YtjbldhhgooihfaaGreatRgV
namespace Go.Proofs.YtjbldhhgooihfaaGreat
namespace Av
set_option linter.unusedSimpArgs false
set_option linter.unusedVariables false
set_option maxRecDepth 4000
set_option maxHeartbeats 1000000
theorem pigeon : ∀ (n : Nat) (f : Nat → Nat), (∀ i, i ≤ n → f i < n) → ∃ i j, i < j ∧ j ≤ n ∧ f i = f j
  | 0, f, h => absurd (h 0 (Nat.le_refl _)) (Nat.not_lt_zero _)
  | n + 1, f, h => by
    by_cases hx : ∃ i, i ≤ n ∧ f i = f (n + 1)
    · obtain ⟨i, h1, h2⟩ := hx
      exact ⟨i, n + 1, by omega, Nat.le_refl _, h2⟩
    · obtain ⟨i, j, h1, h2, h3⟩ := pigeon n (fun i => if f i < f (n + 1) then f i else f i - 1) fun i hi => by
        have h4 := h i (by omega)
        have h5 := h (n + 1) (Nat.le_refl _)
        have h6 : f i ≠ f (n + 1) := fun e => hx ⟨i, hi, e⟩
        split <;> omega
      refine ⟨i, j, h1, by omega, ?_⟩
      have h4 : f i ≠ f (n + 1) := fun e => hx ⟨i, by omega, e⟩
      have h5 : f j ≠ f (n + 1) := fun e => hx ⟨j, h2, e⟩
      split at h3 <;> split at h3 <;> omega
def par (l : List Tk) (s : Int) : Int := (l.getD s.toNat default).par
/-- The slot that k parents lead to. -/
def ndP (l : List Tk) (s : Int) : Nat → Int
  | 0 => s
  | k + 1 => par l (ndP l s k)
theorem ndP_succ (l : List Tk) (s : Int) : ∀ k, ndP l s (k + 1) = ndP l (par l s) k
  | 0 => rfl
  | k + 1 => by rw [ndP, ndP_succ l s k]; rfl
theorem ndP_add (l : List Tk) (s : Int) (i : Nat) : ∀ k, ndP l s (i + k) = ndP l (ndP l s i) k
  | 0 => rfl
  | k + 1 => by rw [← Nat.add_assoc, ndP, ndP_add l s i k]; rfl
theorem chF_mem (l : List Tk) (t : Int) : ∀ (n : Nat) (s : Int), t ∈ chF l n s ↔ ∃ k, k < n ∧ (∀ j, j ≤ k → usF l (ndP l s j) = true) ∧ ndP l s k = t
  | 0, s => by simp [chF]
  | n + 1, s => by
    rw [chF_succ]
    constructor
    · intro h
      cases hu : usF l s
      · rw [hu] at h; simp at h
      · rw [hu, cond_true, List.mem_cons] at h
        rcases h with rfl | h
        · exact ⟨0, by omega, fun j hj => by rw [Nat.le_zero.1 hj]; exact hu, rfl⟩
        · obtain ⟨k, h1, h2, h3⟩ := (chF_mem l t n _).1 h
          refine ⟨k + 1, by omega, fun j hj => ?_, by rw [ndP_succ]; exact h3⟩
          cases j with
          | zero => exact hu
          | succ j => rw [ndP_succ]; exact h2 j (by omega)
    · rintro ⟨k, h1, h2, h3⟩
      have hu := h2 0 (Nat.zero_le _)
      change usF l s = true at hu
      rw [hu, cond_true, List.mem_cons]
      cases k with
      | zero => exact .inl h3.symm
      | succ k =>
        rw [ndP_succ] at h3
        refine .inr ((chF_mem l t n _).2 ⟨k, by omega, fun j hj => ?_, h3⟩)
        have := h2 (j + 1) (by omega)
        rw [ndP_succ] at this
        exact this
theorem chF_8 {l : List Tk} (h8 : l.length = 8) (s t : Int) (n : Nat) (h : t ∈ chF l n s) : t ∈ chF l 8 s := by
  obtain ⟨k, _, h2, h3⟩ := (chF_mem l t n s).1 h
  clear h
  suffices ∀ m k, k ≤ m → (∀ j, j ≤ k → usF l (ndP l s j) = true) → ndP l s k = t → t ∈ chF l 8 s from this k k (Nat.le_refl _) h2 h3
  intro m
  induction m with
  | zero => intro k hk h2 h3; exact (chF_mem l t 8 s).2 ⟨k, by omega, h2, h3⟩
  | succ m ih =>
    intro k hk h2 h3
    by_cases h : k < 8
    · exact (chF_mem l t 8 s).2 ⟨k, h, h2, h3⟩
    obtain ⟨i, j, h4, h5, h6⟩ := pigeon 8 (fun i => (ndP l s i).toNat) fun i hi => by
      have := usF_bd (h2 i (by omega))
      omega
    have e1 := usF_bd (h2 i (by omega))
    have e2 := usF_bd (h2 j (by omega))
    have e3 : ndP l s i = ndP l s j := by omega
    have e4 : ∀ r, ndP l s (i + r) = ndP l s (j + r) := fun r => by rw [ndP_add, ndP_add, e3]
    refine ih (i + (k - j)) (by omega) (fun r hr => h2 r (by omega)) ?_
    rw [e4, show j + (k - j) = k by omega]
    exact h3
theorem chF_mono (l : List Tk) {t s : Int} {n m : Nat} (hnm : n ≤ m) (h : t ∈ chF l n s) : t ∈ chF l m s := by
  obtain ⟨k, h1, h2, h3⟩ := (chF_mem l t n s).1 h
  exact (chF_mem l t m s).2 ⟨k, by omega, h2, h3⟩
/-- Following the parents leads from a used slot to another one. -/
inductive Rch (l : List Tk) : Int → Int → Prop
  | base (s : Int) : usF l s = true → Rch l s s
  | step (s t : Int) : usF l s = true → Rch l (par l s) t → Rch l s t
theorem rch_of (l : List Tk) (t : Int) : ∀ (n : Nat) (s : Int), t ∈ chF l n s → Rch l s t
  | 0, s, h => by simp [chF] at h
  | n + 1, s, h => by
    rw [chF_succ] at h
    cases hu : usF l s
    · rw [hu] at h; simp at h
    · rw [hu, cond_true, List.mem_cons] at h
      rcases h with rfl | h
      · exact .base _ hu
      · exact .step _ _ hu (rch_of l t n _ h)
theorem rch_mem {l : List Tk} {s t : Int} (h : Rch l s t) : ∃ n, t ∈ chF l n s := by
  induction h with
  | base s hu => exact ⟨1, by rw [chF_succ, hu, cond_true]; exact List.mem_cons_self⟩
  | step s t hu _ ih =>
    obtain ⟨n, hn⟩ := ih
    exact ⟨n + 1, by rw [chF_succ, hu, cond_true]; exact List.mem_cons_of_mem _ hn⟩
theorem ld_rch {l : List Tk} (h8 : l.length = 8) (s t : Int) : ldF l 9 s t = true ↔ Rch l s t := by
  rw [ldF_ch, List.any_eq_true]
  constructor
  · rintro ⟨x, h1, h2⟩
    rw [beq_iff_eq] at h2
    subst h2
    exact rch_of l _ _ _ h1
  · intro h
    obtain ⟨n, hn⟩ := rch_mem h
    exact ⟨t, chF_mono l (by omega) (chF_8 h8 s t n hn), by simp⟩
theorem de_rch {l : List Tk} (h8 : l.length = 8) (s t : Int) : deF l s t = true ↔ Rch l s t := by
  unfold deF
  rw [List.any_eq_true]
  constructor
  · rintro ⟨x, h1, h2⟩
    rw [beq_iff_eq] at h2
    subst h2
    exact rch_of l _ _ _ h1
  · intro h
    obtain ⟨n, hn⟩ := rch_mem h
    exact ⟨t, chF_8 h8 s t n hn, by simp⟩
theorem de_ld {l : List Tk} (h8 : l.length = 8) (s t : Int) : deF l s t = ldF l 9 s t := by
  rw [Bool.eq_iff_iff, de_rch h8, ld_rch h8]
theorem tv_eq (l : List Tk) : tvF l = tv2F l := by
  unfold tvF tv2F
  by_cases h8 : l.length = 8
  case neg => rw [decide_eq_false (by omega)]; rfl
  rw [decide_eq_true (by omega), Bool.true_and, Bool.true_and, h8, Bool.eq_iff_iff]
  simp only [Bool.and_eq_true, List.all_eq_true, List.mem_range]
  have hs : ∀ i : Nat, i < 7 → (tokF l ((i : Int) + 1) = tok2F l (i + 1)) := fun i hi => by
    unfold tokF tok2F
    rw [de_ld h8, h8, show (((i + 1 : Nat) : Int) = (i : Int) + 1) by omega, show ((i : Int) + 1).toNat = i + 1 by omega, decide_eq_false (by omega : ¬ i + 1 = 0), Bool.false_or]
  constructor
  · rintro ⟨h1, h2⟩
    unfold rootF at h1
    simp only [Bool.and_eq_true, decide_eq_true_eq] at h1
    obtain ⟨⟨u, p, q⟩, r⟩ := h1
    refine ⟨by unfold root2F; rw [u, p, q]; rfl, fun i hi => ?_⟩
    cases i with
    | zero =>
      unfold tok2F
      rw [if_pos u, r, h8]
      have : ldF l 9 ((0 : Nat) : Int) 0 = true := (ld_rch h8 _ _).2 (.base _ (by unfold usF; rw [decide_eq_true (by omega)]; exact u))
      rw [show (8 + 1) = 9 from rfl, this]
      rfl
    | succ i => rw [← hs i (by omega)]; exact h2 i (by omega)
  · rintro ⟨h1, h2⟩
    have h3 := h2 0 (by omega)
    unfold root2F at h1
    simp only [Bool.and_eq_true, decide_eq_true_eq] at h1
    obtain ⟨u, p, q⟩ := h1
    unfold tok2F at h3
    rw [if_pos u] at h3
    simp only [Bool.and_eq_true] at h3
    refine ⟨by unfold rootF; rw [u, p, q, h3.1.1]; rfl, fun i hi => by rw [hs i hi]; exact h2 (i + 1) (by omega)⟩
/-- Valid slots. -/
structure TV (l : List Tk) : Prop where
  n : l.length = 8
  u : (l.getD 0 default).used = true
  p : (l.getD 0 default).par = -1
  e : (l.getD 0 default).til = 0
  f : ∀ i, i < 8 → (l.getD i default).used = false → if2F (l.getD i default) = true
  s : ∀ i, i < 8 → (l.getD i default).used = true → soF (l.getD i default) = true ∧ Rch l i 0 ∧ (i ≠ 0 → wiF (l.getD i default).rights (l.getD (l.getD i default).par.toNat default).rights = true ∧ (l.getD i default).cls ≤ (l.getD (l.getD i default).par.toNat default).cls ∧ laF (l.getD i default).til (l.getD (l.getD i default).par.toNat default).til = false)
theorem tv_iff (l : List Tk) : tv2F l = true ↔ TV l := by
  unfold tv2F
  simp only [Bool.and_eq_true, decide_eq_true_eq, List.all_eq_true, List.mem_range]
  constructor
  · rintro ⟨h8, h1, h2⟩
    have h8 : l.length = 8 := by omega
    unfold root2F at h1
    simp only [Bool.and_eq_true, decide_eq_true_eq] at h1
    refine ⟨h8, h1.1, h1.2.1, h1.2.2, fun i hi hu => ?_, fun i hi hu => ?_⟩
    · have := h2 i (by omega)
      unfold tok2F at this
      rw [if_neg (by rw [hu]; simp)] at this
      exact this
    · have := h2 i (by omega)
      unfold tok2F at this
      rw [if_pos hu, h8] at this
      simp only [Bool.and_eq_true, Bool.or_eq_true, decide_eq_true_eq, Bool.not_eq_true'] at this
      obtain ⟨⟨a, b⟩, c⟩ := this
      refine ⟨a, (ld_rch h8 _ _).1 b, fun h0 => ?_⟩
      rcases c with c | c
      · exact absurd c h0
      · exact ⟨c.1.1, c.1.2, c.2⟩
  · rintro ⟨h8, u, p, e, f, s⟩
    refine ⟨by omega, by unfold root2F; rw [u, p, e]; rfl, fun i hi => ?_⟩
    unfold tok2F
    cases hu : (l.getD i default).used
    · rw [if_neg (by simp)]
      exact f i (by omega) hu
    · rw [if_pos rfl, h8]
      obtain ⟨a, b, c⟩ := s i (by omega) hu
      simp only [Bool.and_eq_true, Bool.or_eq_true, decide_eq_true_eq, Bool.not_eq_true']
      refine ⟨⟨a, (ld_rch h8 _ _).2 b⟩, ?_⟩
      by_cases h0 : i = 0
      · exact .inl h0
      · have c := c h0
        exact .inr ⟨⟨c.1, c.2.1⟩, c.2.2⟩
theorem getD_set (l : List Tk) (j : Nat) (t : Tk) (i : Nat) (hj : j < l.length) : (l.set j t).getD i default = if i = j then t else l.getD i default := by
  simp only [List.getD_eq_getElem?_getD, List.getElem?_set]
  split
  · rename_i h; subst h; simp [hj]
  · rename_i h; rw [if_neg (fun e => h e.symm)]
theorem usF_iff (l : List Tk) (s : Int) : usF l s = true ↔ ∃ i : Nat, s = i ∧ i < l.length ∧ (l.getD i default).used = true := by
  unfold usF
  rw [Bool.and_eq_true, decide_eq_true_eq]
  constructor
  · rintro ⟨h1, h2⟩
    exact ⟨s.toNat, by omega, by omega, h2⟩
  · rintro ⟨i, rfl, h1, h2⟩
    exact ⟨by omega, h2⟩
theorem Rch.us {l : List Tk} {s t : Int} (h : Rch l s t) : usF l s = true := by
  cases h <;> assumption
theorem Rch.par0 {l : List Tk} {s : Int} (h : Rch l s 0) (h0 : s ≠ 0) : Rch l (par l s) 0 := by
  cases h with
  | base _ _ => exact absurd rfl h0
  | step _ _ _ h => exact h
theorem Rch.trans {l : List Tk} {s t u : Int} (h : Rch l s t) (g : Rch l t u) : Rch l s u := by
  induction h with
  | base _ _ => exact g
  | step s t hu _ ih => exact .step _ _ hu (ih g)
theorem if2F_fr : if2F frT = true := by decide
theorem tv_dv {l l' : List Tk} {pa ri cl li : Int} {sec : List Int} {now i : Int} (h : DvOK l pa ri cl li sec now l' i) : TV l' := by
  obtain ⟨hv, hs, hn, hu, hw, hc, hf, hla, j, rfl, hj, hjf, rfl⟩ := h
  have T := (tv_iff l).1 hv
  have h8 := T.n
  obtain ⟨pn, rfl, p8, pu⟩ := (usF_iff l pa).1 hu
  rw [Int.toNat_natCast] at hw hc hla
  have hj0 : j ≠ 0 := fun e => by rw [e, T.u] at hjf; cases hjf
  have hpj : pn ≠ j := fun e => by rw [e, hjf] at pu; cases pu
  have hgj : ∀ i, (l.set j ⟨true, sec, (pn : Int), ri, cl, unt li now⟩).getD i default = if i = j then ⟨true, sec, (pn : Int), ri, cl, unt li now⟩ else l.getD i default := fun i => getD_set l j _ i (by omega)
  have hus : ∀ s : Int, usF l s = true → s ≠ j ∧ usF (l.set j ⟨true, sec, (pn : Int), ri, cl, unt li now⟩) s = true ∧ par (l.set j ⟨true, sec, (pn : Int), ri, cl, unt li now⟩) s = par l s := fun s hs => by
    obtain ⟨i, rfl, h1, h2⟩ := (usF_iff l s).1 hs
    have hij : i ≠ j := fun e => by rw [e, hjf] at h2; cases h2
    refine ⟨by omega, (usF_iff _ _).2 ⟨i, rfl, by simpa using h1, by rw [hgj, if_neg hij]; exact h2⟩, ?_⟩
    unfold par
    rw [Int.toNat_natCast, hgj, if_neg hij]
  have hr : ∀ s t : Int, Rch l s t → Rch (l.set j ⟨true, sec, (pn : Int), ri, cl, unt li now⟩) s t := fun s t h => by
    induction h with
    | base s hu => exact .base _ (hus s hu).2.1
    | step s t hu _ ih => exact .step _ _ (hus s hu).2.1 (by rw [(hus s hu).2.2]; exact ih)
  refine ⟨by simpa using h8, by rw [hgj, if_neg (fun e => hj0 e.symm)]; exact T.u, by rw [hgj, if_neg (fun e => hj0 e.symm)]; exact T.p, by rw [hgj, if_neg (fun e => hj0 e.symm)]; exact T.e, fun i hi hf => ?_, fun i hi hf => ?_⟩
  · rw [hgj] at hf ⊢
    by_cases hij : i = j
    · rw [if_pos hij] at hf; cases hf
    · rw [if_neg hij] at hf ⊢; exact T.f i hi hf
  · by_cases hij : i = j
    · subst hij
      have e : ∀ k, k = i → (l.set i ⟨true, sec, (pn : Int), ri, cl, unt li now⟩).getD k default = ⟨true, sec, (pn : Int), ri, cl, unt li now⟩ := fun k hk => by rw [hgj, if_pos hk]
      have ep : (l.set i ⟨true, sec, (pn : Int), ri, cl, unt li now⟩).getD pn default = l.getD pn default := by rw [hgj, if_neg hpj]
      rw [e i rfl]
      obtain ⟨a, b, _⟩ := T.s pn (by omega) pu
      unfold soF so2F at a
      simp only [Bool.and_eq_true, decide_eq_true_eq] at a
      unfold wiF at hw
      simp only [Bool.and_eq_true] at hw
      refine ⟨?_, .step _ _ ((usF_iff _ _).2 ⟨i, rfl, by simpa using (by omega : i < l.length), by rw [e i rfl]⟩) ?_, fun _ => ?_⟩
      · unfold soF so2F
        dsimp only
        have : 0 ≤ unt li now ∧ unt li now ≤ 2147483648 := by unfold unt; split <;> omega
        rw [hw.1.1, Bool.true_and, decide_eq_true_eq]
        omega
      · unfold par
        rw [Int.toNat_natCast, e i rfl]
        exact hr _ _ b
      · dsimp only
        rw [Int.toNat_natCast, ep]
        unfold wiF
        simp only [Bool.and_eq_true]
        exact ⟨hw, hc.2, hla⟩
    · have e : (l.set j ⟨true, sec, (pn : Int), ri, cl, unt li now⟩).getD i default = l.getD i default := by rw [hgj, if_neg hij]
      rw [e] at hf ⊢
      obtain ⟨a, b, c⟩ := T.s i hi hf
      refine ⟨a, hr _ _ b, fun h0 => ?_⟩
      have hp := Rch.us (b.par0 (by omega))
      unfold par at hp
      rw [Int.toNat_natCast] at hp
      obtain ⟨q, q1, q2, q3⟩ := (usF_iff l _).1 hp
      have c := c h0
      rw [q1, Int.toNat_natCast] at c ⊢
      have hqj : q ≠ j := fun e => by rw [e, hjf] at q3; cases q3
      rw [hgj, if_neg hqj]
      exact c
/-- Slots set free, those of a set that is closed under children, without slot 0. -/
theorem tv_fr {l : List Tk} (T : TV l) (p : Nat → Bool) (h0 : p 0 = false) (hp : ∀ i : Nat, i < 8 → p i = false → (l.getD i default).used = true → i ≠ 0 → ∀ q : Nat, par l i = q → p q = false) : TV (frB p l 8) := by
  have h8 := T.n
  have hg : ∀ i, i < 8 → (frB p l 8).getD i default = if p i = true then frT else l.getD i default := fun i hi => by
    unfold frB
    simp only [List.getD_eq_getElem?_getD, List.getElem?_map, List.getElem?_range (show i < l.length by omega)]
    simp [hi]
  have hn : (frB p l 8).length = 8 := by rw [frB_len]; exact h8
  have hr : ∀ s t : Int, Rch l s t → t = 0 → (∀ i : Nat, s = i → p i = false) → Rch (frB p l 8) s 0 := fun s t h => by
    induction h with
    | base s hu =>
      rintro rfl hpi
      obtain ⟨i, e, h1, h2⟩ := (usF_iff l _).1 hu
      refine .base _ ((usF_iff _ _).2 ⟨i, e, by omega, ?_⟩)
      rw [hg i (by omega), if_neg (by rw [hpi i e]; decide)]
      exact h2
    | step s t hu hr ih =>
      rintro rfl hpi
      obtain ⟨i, e, h1, h2⟩ := (usF_iff l _).1 hu
      have hf : (frB p l 8).getD i default = l.getD i default := by rw [hg i (by omega), if_neg (by rw [hpi i e]; decide)]
      by_cases hi0 : i = 0
      · subst hi0
        subst e
        exact .base _ ((usF_iff _ _).2 ⟨0, rfl, by omega, by rw [hf]; exact h2⟩)
      · refine .step _ _ ((usF_iff _ _).2 ⟨i, e, by omega, by rw [hf]; exact h2⟩) ?_
        have e2 : par (frB p l 8) s = par l s := by unfold par; rw [e, Int.toNat_natCast, hf]
        rw [e2]
        exact ih rfl fun q hq => hp i (by omega) (hpi i e) h2 hi0 q (by rw [← e]; exact hq)
  refine ⟨hn, by rw [hg 0 (by omega), h0]; exact T.u, by rw [hg 0 (by omega), h0]; exact T.p, by rw [hg 0 (by omega), h0]; exact T.e, fun i hi hf => ?_, fun i hi hf => ?_⟩
  · rw [hg i hi] at hf ⊢
    cases hpi : p i with
    | true => rw [if_pos rfl]; exact if2F_fr
    | false => rw [hpi, if_neg (by decide)] at hf; rw [if_neg (by decide)]; exact T.f i hi hf
  · have hpi : p i = false := by
      cases hpi : p i with
      | false => rfl
      | true => rw [hg i hi, hpi, if_pos rfl] at hf; cases hf
    have e : (frB p l 8).getD i default = l.getD i default := by rw [hg i hi, if_neg (by rw [hpi]; decide)]
    rw [e] at hf ⊢
    obtain ⟨a, b, c⟩ := T.s i hi hf
    refine ⟨a, hr _ _ b rfl fun q hq => by rw [show q = i by omega]; exact hpi, fun hi0 => ?_⟩
    have hpu := Rch.us (b.par0 (by omega))
    have c := c hi0
    unfold par at hpu
    rw [Int.toNat_natCast] at hpu
    obtain ⟨q, q1, q2, q3⟩ := (usF_iff l _).1 hpu
    have hq := hp i hi hpi hf hi0 q (by unfold par; rw [Int.toNat_natCast]; exact q1)
    rw [q1, Int.toNat_natCast] at c ⊢
    rw [hg q (by omega), if_neg (by rw [hq]; decide)]
    exact c
theorem rch_0 {l : List Tk} (T : TV l) {t : Int} (h : Rch l 0 t) : t = 0 := by
  cases h with
  | base _ _ => rfl
  | step _ _ _ h =>
    have := Rch.us h
    unfold par at this
    rw [show (0 : Int).toNat = 0 from rfl, T.p] at this
    have := usF_bd this
    omega
theorem tv_rv {l : List Tk} (T : TV l) (s : Int) (h0 : s ≠ 0) : TV (frB (fun i => ldF l 9 i s) l 8) := by
  refine tv_fr T _ ?_ fun i hi hpi hu hi0 q hq => ?_
  · rw [Bool.eq_false_iff, ne_eq, ld_rch T.n]
    exact fun h => h0 (rch_0 T h)
  · rw [Bool.eq_false_iff, ne_eq, ld_rch T.n] at hpi ⊢
    exact fun h => hpi (.step _ _ ((usF_iff _ _).2 ⟨i, rfl, by have := T.n; omega, hu⟩) (by rw [hq]; exact h))
/-- What Expire leaves. -/
theorem exp_fr {l : List Tk} (h8 : l.length = 8) (now : Int) : expF l now = frB (fun j => (List.range 8).any fun i => usF l i && exF (l.getD i default) now && ldF l 9 j i) l 8 := by
  unfold expF frB
  rw [h8]
  apply List.map_congr_left
  intro j hj
  rw [List.mem_range] at hj
  unfold exAt
  have : ((chF l 8 j).any fun a => exF (l.getD a.toNat default) now) = ((List.range 8).any fun i => usF l i && exF (l.getD i default) now && ldF l 9 j i) := by
    rw [Bool.eq_iff_iff, List.any_eq_true, List.any_eq_true]
    constructor
    · rintro ⟨a, h1, h2⟩
      have hu := chF_us _ _ _ h1
      obtain ⟨i, rfl, h3, h4⟩ := (usF_iff l a).1 hu
      rw [Int.toNat_natCast] at h2
      exact ⟨i, List.mem_range.2 (by omega), by rw [hu, h2, (ld_rch h8 _ _).2 (rch_of _ _ _ _ h1)]; rfl⟩
    · rintro ⟨i, _, h2⟩
      simp only [Bool.and_eq_true] at h2
      obtain ⟨n, hn⟩ := rch_mem ((ld_rch h8 _ _).1 h2.2)
      exact ⟨i, chF_8 h8 _ _ n hn, by rw [Int.toNat_natCast]; exact h2.1.2⟩
  rw [this]
  simp [hj]
end Av
end Go.Proofs.YtjbldhhgooihfaaGreat
