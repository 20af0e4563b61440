/- Rings: without a target every phase becomes green again; plain Lean. -/
import Derived.Test.YthmnhefaeknppaaRkB
namespace Go.Proofs.Ythmnhefaeknppaa
namespace Av
set_option linter.unusedSimpArgs false
set_option linter.unusedVariables false
set_option maxRecDepth 4000
set_option maxHeartbeats 1000000
/-! ### Sums -/
def smN (f : Nat → Int) : Nat → Int
  | 0 => 0
  | n + 1 => smN f n + f n
theorem sm_le {f g : Nat → Int} : ∀ n, (∀ i, i < n → f i ≤ g i) → smN f n ≤ smN g n
  | 0, _ => Int.le_refl _
  | n + 1, h => by
    have := sm_le n (fun i hi => h i (by omega))
    have := h n (by omega)
    unfold smN
    omega
theorem sm_lt {f g : Nat → Int} {k : Nat} (hk : f k + 1 ≤ g k) : ∀ n, k < n → (∀ i, i < n → f i ≤ g i) → smN f n + 1 ≤ smN g n
  | 0, h, _ => absurd h (Nat.not_lt_zero _)
  | n + 1, h, hl => by
    unfold smN
    by_cases e : k = n
    · subst e
      have := sm_le k (fun i hi => hl i (by omega))
      omega
    · have := sm_lt hk n (by omega) (fun i hi => hl i (by omega))
      have := hl n (by omega)
      omega
theorem sm_0 {f : Nat → Int} (n : Nat) (h : ∀ i, i < n → 0 ≤ f i) : 0 ≤ smN f n := by
  have e : ∀ n, smN (fun _ => 0) n = 0 := fun n => by
    induction n with
    | zero => rfl
    | succ n ih => show smN _ n + 0 = 0; omega
  have := sm_le (f := fun _ => 0) n h
  rw [e] at this
  exact this
theorem sm_at {f : Nat → Int} (n k : Nat) (hk : k < n) (h : ∀ i, i < n → 0 ≤ f i) : f k ≤ smN f n := by
  induction n with
  | zero => exact absurd hk (Nat.not_lt_zero _)
  | succ n ih =>
    unfold smN
    by_cases e : k = n
    · subst e
      have := sm_0 (f := f) k (fun i hi => h i (by omega))
      omega
    · have := ih (by omega) (fun i hi => h i (by omega))
      have := h n (by omega)
      omega
/-! ### Nothing that is not red is still to come -/
def RU (j : Jn) (c : Ct) : Prop := ∀ q : Nat, q < j.ph.length → (liO c q).lamp ≠ 0 → (phO j q).group = c.gr ∧ (c.nx.getD (phO j q).ring.toNat default = -1 ∨ (q : Int) < c.nx.getD (phO j q).ring.toNat default)
theorem ru_ls {j : Jn} (J : JV j) {c : Ct} (C : CV j c) (R : RU j c) (t : Int) : RU j ⟨lsF j c t, c.gr, c.nx, c.wt⟩ := fun q hq hn => by
  rw [ls_at _ _ _ _ _ hq] at hn
  exact R q hq ((lp_v (lv := lvS j c t q) (by have := J.ti q hq; omega) (by have := J.ti q hq; omega) (C.k q hq)).2 hn)
theorem ru_red {j : Jn} {c : Ct} (h : ∀ q, q < j.ph.length → (liO c q).lamp = 0) : RU j c := fun q hq hn => absurd (h q hq) hn
theorem ru_bg {j : Jn} (J : JV j) {c : Ct} (C : CV j c) (R : RU j c) {p : Nat} (hp : p < j.ph.length) : RU j (bgF j c p) := by
  unfold bgF
  split
  · exact R
  · rename_i hk
    have hk : kpF j c p = false := by simpa using hk
    have hrp := J.rg p hp
    intro q hq hn
    have hli : (b2F j c p).li = c.li.set p ⟨1, 0⟩ := by unfold b2F; split <;> rfl
    have hln : (b2F j c p).nx.length = 2 := by unfold b2F; split; exact C.m; rfl
    have e0 : liO ⟨(b2F j c p).li, (b2F j c p).gr, (b2F j c p).nx.set (phO j p).ring.toNat (flF j (phO j p).ring (phO j p).group (p + 1)), (b2F j c p).wt⟩ q = if q = p then ⟨1, 0⟩ else liO c q := by
      unfold liO
      dsimp only
      rw [hli]
      exact liO_set c p q ⟨1, 0⟩ 0 [] 0 (by rw [C.n]; exact hp)
    rw [e0] at hn
    dsimp only
    have hg : (b2F j c p).gr = (phO j p).group := by
      unfold b2F
      split
      · rename_i h; exact h
      · rfl
    have es : ∀ (r : Nat) (f : Int), r < 2 → ((b2F j c p).nx.set (phO j p).ring.toNat f).getD r default = if r = (phO j p).ring.toNat then f else (b2F j c p).nx.getD r default := fun r f hr2 => by
      simp only [List.getD_eq_getElem?_getD, List.getElem?_set]
      split
      · rename_i h; subst h; rw [if_pos rfl, hln, if_pos hr2]; rfl
      · rename_i h; rw [if_neg (fun e => h e.symm)]
    have hrq := J.rg q hq
    rw [es _ _ (by omega)]
    by_cases e : q = p
    · subst e
      refine ⟨hg.symm, ?_⟩
      rw [if_pos rfl]
      rcases flF_spec j (phO j q).ring (phO j q).group (q + 1) with h | h
      · exact .inl h
      · exact .inr (by have := h.2; omega)
    · rw [if_neg e] at hn
      obtain ⟨h1, h2⟩ := R q hq hn
      unfold kpF at hk
      rw [List.any_eq_false] at hk
      have hc : cfP j.cf p q = false := by
        have := hk q (List.mem_range.2 (by rw [C.n]; exact hq))
        simp only [Bool.and_eq_true, not_and, Bool.not_eq_true] at this
        exact this (by simpa using hn)
      have hsame : ¬ ((phO j p).ring = (phO j q).ring ∨ (phO j p).group ≠ (phO j q).group) := fun h => by
        rw [J.ap p q hp hq (fun h => e h.symm) h] at hc
        cases hc
      have hg2 : (phO j p).group = (phO j q).group := by
        refine Classical.byContradiction fun h => hsame (.inr h)
      have hr2 : (phO j p).ring ≠ (phO j q).ring := fun h => hsame (.inl h)
      have e2 : b2F j c p = b1F c p := by unfold b2F; rw [if_pos (by rw [hg2, h1])]
      rw [if_neg (by omega), e2]
      exact ⟨h1, h2⟩
theorem ru_sv {j : Jn} (J : JV j) {c : Ct} (C : CV j c) (R : RU j c) {t : Nat} (ht : t < j.ph.length) (r : Int) : RU j (svS j t c r) := by
  unfold svS
  split
  · split
    · exact R
    · rename_i h
      rcases svP_spec (j := j) (c := c) (r := r) ht with h1 | ⟨p, h1, h2, _⟩
      · exact absurd h1 h
      · rw [h1, Int.toNat_natCast]
        exact ru_bg J C R h2
  · exact R
theorem ru_cy1 {j : Jn} (J : JV j) {c : Ct} (C : CV j c) (R : RU j c) {r : Nat} (hr : r < 2) : RU j (cyS j c r) := by
  unfold cyS
  split
  · rename_i h
    rw [Int.toNat_natCast] at h ⊢
    rcases C.v r hr with h1 | h1
    · exact absurd h1 h.2
    · exact ru_bg J C R (by have := h1.2.1; have := h1.1; omega)
  · exact R
theorem ar_red {j : Jn} {c : Ct} (hn : c.li.length = j.ph.length) (h : arF c = true) : ∀ q, q < j.ph.length → (liO c q).lamp = 0 := fun q hq => by
  unfold arF at h
  have := List.all_eq_true.1 h (liO c q) (by unfold liO; rw [List.getD_eq_getElem?_getD, List.getElem?_eq_getElem (by omega)]; exact List.getElem_mem _)
  simpa using this
theorem ru_st {j : Jn} (J : JV j) {c : Ct} (C : CV j c) (R : RU j c) (t : Int) : RU j (stF j c t) := by
  unfold stF
  split
  · exact R
  · have h0 : c.wt = 0 := by have := C.w; omega
    have L := cv_ls J C h0 t
    have RL := ru_ls J C R t
    split
    · rename_i h
      unfold aimF at h
      rw [decide_eq_true_eq] at h
      have h1 := cv_sv J L h0 (t := t.toNat) (by omega) 0
      exact ru_sv J h1.1 (ru_sv J L RL (by omega) 0) (by omega) 1
    · have hLw : (⟨lsF j c t, c.gr, c.nx, c.wt⟩ : Ct).wt = 0 := h0
      generalize (⟨lsF j c t, c.gr, c.nx, c.wt⟩ : Ct) = cl at *
      unfold cyF
      have hgp := grF_pos J
      have CE : CV j (if cyO cl = true then etF j cl ((cl.gr + 1) % grF j) else cl) ∧ (if cyO cl = true then etF j cl ((cl.gr + 1) % grF j) else cl).wt = 0 ∧ RU j (if cyO cl = true then etF j cl ((cl.gr + 1) % grF j) else cl) := by
        split
        · rename_i ho
          refine ⟨cv_et L ⟨Int.emod_nonneg _ (by omega), Int.emod_lt_of_pos _ (by omega)⟩, hLw, ru_red ?_⟩
          unfold cyO at ho
          rw [Bool.and_eq_true] at ho
          exact ar_red (j := j) (c := etF j cl ((cl.gr + 1) % grF j)) L.n ho.1
        · exact ⟨L, hLw, RL⟩
      have h2 := cv_cy1 J CE.1 CE.2.1 (r := 0) (by omega)
      exact ru_cy1 J h2.1 (ru_cy1 J CE.1 CE.2.2 (r := 0) (by omega)) (r := 1) (by omega)
theorem ru_stI {j : Jn} (J : JV j) {c : Ct} (C : CV j c) (R : RU j c) (t : Int) : ∀ k, RU j (stI j c t k)
  | 0 => R
  | k + 1 => ru_st J (stI_v J C t k) (ru_stI J C R t k) t
/-! ### The time to red -/
def fuF (p : Ph) : Int := max p.maxg (lnF p) + p.yel + p.red
def sgF (p : Ph) (l : Li) : Int := if l.lamp = 1 then max 1 (max p.maxg (lnF p) - l.tk) + p.yel + p.red else if l.lamp = 2 then p.yel - l.tk + p.red else if l.lamp = 3 then p.red - l.tk else 0
theorem sg_red {p : Ph} {l : Li} (h : l.lamp = 0) : sgF p l = 0 := by
  unfold sgF
  rw [if_neg (by omega), if_neg (by omega), if_neg (by omega)]
theorem sg_new {p : Ph} (h : 1 ≤ p.maxg) : sgF p ⟨1, 0⟩ = fuF p := by
  unfold sgF fuF
  dsimp only
  rw [if_pos rfl]
  omega
theorem sg_bd {p : Ph} {l : Li} (hv : lvF p l = true) (hy : 1 ≤ p.yel) (hr : 0 ≤ p.red) (hln : 1 ≤ p.maxg) : 0 ≤ sgF p l ∧ sgF p l ≤ fuF p ∧ (l.lamp ≠ 0 → 1 ≤ sgF p l) := by
  unfold lvF at hv
  unfold sgF fuF
  by_cases h1 : l.lamp = 1
  · rw [if_pos h1]
    rw [if_neg (by omega), if_pos h1, decide_eq_true_eq] at hv
    omega
  rw [if_neg h1]
  by_cases h2 : l.lamp = 2
  · rw [if_pos h2]
    rw [if_neg (by omega), if_neg h1, if_pos h2, decide_eq_true_eq] at hv
    omega
  rw [if_neg h2]
  by_cases h3 : l.lamp = 3
  · rw [if_pos h3]
    rw [if_neg (by omega), if_neg h1, if_neg h2, if_pos h3, decide_eq_true_eq] at hv
    omega
  rw [if_neg h3]
  rw [if_neg h1, if_neg h2, if_neg h3] at hv
  by_cases h0 : l.lamp = 0
  · omega
  · rw [if_neg h0] at hv; cases hv
theorem sg_step {p : Ph} {l : Li} (hv : lvF p l = true) (hy : 1 ≤ p.yel) (hr : 0 ≤ p.red) (hln : lnF p ≤ 1000) (hmg : p.maxg ≤ 1000) : sgF p (lpF p l (decide (p.maxg ≤ l.tk + 1))) ≤ max 0 (sgF p l - 1) := by
  unfold lvF at hv
  unfold lpF
  by_cases h1 : l.lamp = 1
  · rw [if_pos h1]
    rw [if_neg (by omega), if_pos h1, decide_eq_true_eq] at hv
    have e : sgF p l = max 1 (max p.maxg (lnF p) - l.tk) + p.yel + p.red := by unfold sgF; rw [if_pos h1]
    rw [e]
    simp only [decide_eq_true_eq]
    split
    · rename_i h
      have e2 : sgF p ⟨2, 0⟩ = p.yel - 0 + p.red := rfl
      rw [e2]; omega
    · rename_i h
      have e2 : sgF p ⟨1, min (l.tk + 1) 1073741824⟩ = max 1 (max p.maxg (lnF p) - min (l.tk + 1) 1073741824) + p.yel + p.red := rfl
      rw [e2]
      omega
  by_cases h2 : l.lamp = 2
  · rw [if_neg h1, if_pos h2]
    rw [if_neg (by omega), if_neg h1, if_pos h2, decide_eq_true_eq] at hv
    have e : sgF p l = p.yel - l.tk + p.red := by unfold sgF; rw [if_neg h1, if_pos h2]
    rw [e]
    split
    · have e2 : sgF p ⟨2, l.tk + 1⟩ = p.yel - (l.tk + 1) + p.red := rfl
      rw [e2]; omega
    · split
      · rw [sg_red rfl]; omega
      · have e2 : sgF p ⟨3, 0⟩ = p.red - 0 := rfl
        rw [e2]; omega
  by_cases h3 : l.lamp = 3
  · rw [if_neg h1, if_neg h2, if_pos h3]
    rw [if_neg (by omega), if_neg h1, if_neg h2, if_pos h3, decide_eq_true_eq] at hv
    have e : sgF p l = p.red - l.tk := by unfold sgF; rw [if_neg h1, if_neg h2, if_pos h3]
    rw [e]
    split
    · have e2 : sgF p ⟨3, l.tk + 1⟩ = p.red - (l.tk + 1) := rfl
      rw [e2]; omega
    · rw [sg_red rfl]; omega
  · rw [if_neg h1, if_neg h2, if_neg h3]
    unfold sgF
    rw [if_neg h1, if_neg h2, if_neg h3]
    omega
/-! ### How often a phase begins before another -/
def pdB (j : Jn) (gr : Int) (nx : List Int) (q : Nat) : Bool := decide ((phO j q).group = gr ∧ nx.getD (phO j q).ring.toNat default ≠ -1 ∧ nx.getD (phO j q).ring.toNat default ≤ (q : Int))
def dsF (j : Jn) (gr : Int) (q : Nat) : Int := ((phO j q).group - gr - 1) % grF j + 1
def rnF (j : Jn) (gr : Int) (nx : List Int) (p q : Nat) : Int := (if pdB j gr nx q = true then 1 else 0) + (if pdB j gr nx p = true then 0 else if dsF j gr q ≤ dsF j gr p then 1 else 0)
def piF (j : Jn) (c : Ct) (p q : Nat) : Int := sgF (phO j q) (liO c q) + rnF j c.gr c.nx p q * fuF (phO j q)
def pot (j : Jn) (c : Ct) (p : Nat) : Int := smN (piF j c p) j.ph.length
theorem rn_bd (j : Jn) (gr : Int) (nx : List Int) (p q : Nat) : 0 ≤ rnF j gr nx p q ∧ rnF j gr nx p q ≤ 2 ∧ (pdB j gr nx q = false → rnF j gr nx p q ≤ 1) := by
  unfold rnF
  refine ⟨?_, ?_, fun h => ?_⟩
  · split <;> split <;> (try split) <;> omega
  · split <;> split <;> (try split) <;> omega
  · rw [h, if_neg (by decide)]
    split
    · omega
    · split <;> omega
/-- The least phase of a ring in a group. -/
theorem fl_le {j : Jn} {q : Nat} (hq : q < j.ph.length) {r g f : Int} (hr : (phO j q).ring = r) (hg : (phO j q).group = g) (hf : f ≤ q) : flF j r g f ≠ -1 ∧ flF j r g f ≤ q := by
  have hb : ((phO j q).ring == r && (decide (f ≤ (q : Int)) && (phO j q).group == g)) = true := by
    rw [hr, hg, decide_eq_true hf]; simp
  have e : (rpF j r).find? (fun p : Nat => decide (f ≤ (p : Int)) && (phO j p).group == g) = (List.range j.ph.length).find? (fun p : Nat => (phO j p).ring == r && (decide (f ≤ (p : Int)) && (phO j p).group == g)) := by
    unfold rpF rpN
    rw [List.find?_filter]
    congr 1
    funext a
    rw [Bool.decide_and, Bool.decide_eq_true, Bool.decide_eq_true]
  unfold flF
  rw [e]
  split
  · rename_i p h
    refine ⟨by omega, ?_⟩
    rw [List.find?_range_eq_some] at h
    refine Classical.byContradiction fun hc => ?_
    have := h.2.2 q (by omega)
    rw [hb] at this
    cases this
  · rename_i h
    rw [List.find?_eq_none] at h
    exact absurd hb (h q (List.mem_range.2 hq))
theorem ds_eq {j : Jn} (J : JV j) {gr : Int} (hg : 0 ≤ gr ∧ gr < grF j) {q : Nat} (hq : q < j.ph.length) : dsF j gr q = if gr < (phO j q).group then (phO j q).group - gr else (phO j q).group - gr + grF j := by
  have h1 := J.gp q hq
  have h2 := grN_le j.ph j.ph.length q hq
  change (phO j q).group + 1 ≤ grF j at h2
  unfold dsF
  split
  · rw [Int.emod_eq_of_lt (by omega) (by omega)]; omega
  · rw [show (phO j q).group - gr - 1 = ((phO j q).group - gr - 1 + grF j) + grF j * (-1) by omega, Int.add_mul_emod_self_left, Int.emod_eq_of_lt (by omega) (by omega)]; omega
theorem rn_enter {j : Jn} (J : JV j) {c : Ct} (hg : 0 ≤ c.gr ∧ c.gr < grF j) (hn : ∀ r : Nat, r < 2 → c.nx.getD r default = -1) {p q : Nat} (hp : p < j.ph.length) (hq : q < j.ph.length) : rnF j (etF j c ((c.gr + 1) % grF j)).gr (etF j c ((c.gr + 1) % grF j)).nx p q ≤ rnF j c.gr c.nx p q := by
  have hgp := grF_pos J
  have hm : 0 ≤ (c.gr + 1) % grF j ∧ (c.gr + 1) % grF j < grF j := ⟨Int.emod_nonneg _ (by omega), Int.emod_lt_of_pos _ (by omega)⟩
  have hpd : ∀ s, s < j.ph.length → pdB j c.gr c.nx s = false := fun s hs => by
    have hr := J.rg s hs
    unfold pdB
    rw [hn _ (by omega)]
    exact decide_eq_false (fun h => h.2.1 rfl)
  have hpe : ∀ s, s < j.ph.length → pdB j (etF j c ((c.gr + 1) % grF j)).gr (etF j c ((c.gr + 1) % grF j)).nx s = decide ((phO j s).group = (c.gr + 1) % grF j) := fun s hs => by
    have hr := J.rg s hs
    unfold pdB
    apply decide_eq_decide.2
    refine ⟨fun h => h.1, fun h => ⟨h, ?_⟩⟩
    have e : (etF j c ((c.gr + 1) % grF j)).nx.getD (phO j s).ring.toNat default = flF j (phO j s).ring ((c.gr + 1) % grF j) 0 := by
      have : (phO j s).ring = 0 ∨ (phO j s).ring = 1 := by omega
      rcases this with h | h
      · rw [h]; rfl
      · rw [h]; rfl
    rw [e]
    exact fl_le hs rfl h (by omega)
  have hge : (etF j c ((c.gr + 1) % grF j)).gr = (c.gr + 1) % grF j := rfl
  unfold rnF
  rw [hpd p hp, hpd q hq, hpe p hp, hpe q hq, hge, ds_eq J hg hp, ds_eq J hg hq, ds_eq J hm hp, ds_eq J hm hq]
  have h1 := J.gp q hq
  have h2 := grN_le j.ph j.ph.length q hq
  change (phO j q).group + 1 ≤ grF j at h2
  have h3 := J.gp p hp
  have h4 := grN_le j.ph j.ph.length p hp
  change (phO j p).group + 1 ≤ grF j at h4
  have hme : (c.gr + 1 < grF j ∧ (c.gr + 1) % grF j = c.gr + 1) ∨ (c.gr + 1 = grF j ∧ (c.gr + 1) % grF j = 0) := by
    by_cases h : c.gr + 1 < grF j
    · exact .inl ⟨h, Int.emod_eq_of_lt (by omega) h⟩
    · have : c.gr + 1 = grF j := by omega
      exact .inr ⟨this, by rw [this, Int.emod_self]⟩
  generalize (c.gr + 1) % grF j = m at *
  generalize grF j = G at *
  generalize (phO j q).group = a at *
  generalize (phO j p).group = b at *
  generalize c.gr = g at *
  simp only [decide_eq_true_eq]
  clear hpd hpe hge hn
  (repeat' split) <;> omega
theorem pd_one {j : Jn} {gr : Int} {nx nx' : List Int} {q : Nat} (hq : q < j.ph.length) {r : Nat} (hr : (phO j q).ring = r) (b : Option Nat) (hb : ∀ p, b = some p → nx.getD r default = (p : Int) ∧ (phO j p).group = gr) (h1 : ∀ p, b = some p → nx'.getD r default = flF j r gr (p + 1)) (h2 : b = none → nx'.getD r default = nx.getD r default) :
    pdB j gr nx' q = (pdB j gr nx q && !decide (b = some q)) ∧ (b = some q → pdB j gr nx q = true) := by
  have hrt : (phO j q).ring.toNat = r := by omega
  unfold pdB
  rw [hrt]
  match b, hb, h1, h2 with
  | none, _, _, h2 => rw [h2 rfl]; simp
  | some b, hb, h1, _ =>
    obtain ⟨e1, e2⟩ := hb b rfl
    rw [h1 b rfl, e1]
    have hs := flF_spec j r gr (b + 1)
    have hl := fun (hg : (phO j q).group = gr) (hf : (b : Int) + 1 ≤ q) => fl_le hq hr hg hf
    generalize flF j r gr (b + 1) = f at *
    by_cases e : b = q
    · subst e
      refine ⟨?_, fun _ => decide_eq_true ⟨e2, by omega, by omega⟩⟩
      rw [decide_eq_true (show some b = some b from rfl), decide_eq_false]
      · simp
      · rintro ⟨_, k1, k2⟩
        rcases hs with h | h
        · exact k1 h
        · have := h.2; omega
    · refine ⟨?_, fun h => absurd (Option.some.inj h) e⟩
      rw [decide_eq_false (show ¬ some b = some q from fun h => e (Option.some.inj h))]
      rw [Bool.not_false, Bool.and_true]
      apply decide_eq_decide.2
      constructor
      · rintro ⟨k0, k1, k2⟩
        refine ⟨k0, by omega, ?_⟩
        rcases hs with h | h
        · exact absurd h k1
        · have := h.2; omega
      · rintro ⟨k0, _, k2⟩
        exact ⟨k0, hl k0 (by omega)⟩
theorem pi_0 {j : Jn} (J : JV j) {c : Ct} (C : CV j c) (p q : Nat) (hq : q < j.ph.length) : 0 ≤ piF j c p q ∧ ((liO c q).lamp ≠ 0 → 1 ≤ piF j c p q) := by
  have hti := J.ti q hq
  have h1 := sg_bd (C.k q hq) (by omega) (by omega) (by omega)
  have h2 := (rn_bd j c.gr c.nx p q).1
  have h3 : 0 ≤ rnF j c.gr c.nx p q * fuF (phO j q) := Int.mul_nonneg h2 (by omega)
  unfold piF
  exact ⟨by omega, fun h => by have := h1.2.2 h; omega⟩
theorem pot_bd {j : Jn} (J : JV j) {c : Ct} (C : CV j c) (R : RU j c) (p : Nat) : pot j c p ≤ smN (fun q => 2 * fuF (phO j q)) j.ph.length := by
  refine sm_le _ fun q hq => ?_
  have hti := J.ti q hq
  have h1 := sg_bd (C.k q hq) (by omega) (by omega) (by omega)
  have h2 := rn_bd j c.gr c.nx p q
  have hF : 0 ≤ fuF (phO j q) := by omega
  show sgF (phO j q) (liO c q) + rnF j c.gr c.nx p q * fuF (phO j q) ≤ 2 * fuF (phO j q)
  by_cases hn : (liO c q).lamp = 0
  · have h3 := Int.mul_le_mul_of_nonneg_right h2.2.1 hF
    rw [sg_red hn]
    omega
  · obtain ⟨k1, k2⟩ := R q hq hn
    have hpd : pdB j c.gr c.nx q = false := decide_eq_false (fun h => by omega)
    have h3 := Int.mul_le_mul_of_nonneg_right (h2.2.2 hpd) hF
    omega
theorem pot_step {j : Jn} (J : JV j) {c : Ct} (C : CV j c) (h0 : c.wt = 0) {p : Nat} (hp : p < j.ph.length) :
    (stF j c (-1)).wt = 0 ∧ ((liO (stF j c (-1)) p).lamp = 1 ∨ ((∃ q, q < j.ph.length ∧ (liO (stF j c (-1)) q).lamp ≠ 0) ∧ pot j (stF j c (-1)) p ≤ pot j c p ∧ ((∃ q, q < j.ph.length ∧ (liO c q).lamp ≠ 0) → pot j (stF j c (-1)) p + 1 ≤ pot j c p))) := by
  have haim : aimF j (-1) = false := decide_eq_false (by omega)
  have L := cv_ls J C h0 (-1)
  have hls := fun p hp => ls_at (j := j) (c := c) (-1) c.gr c.nx c.wt p hp
  obtain ⟨cl, hcl⟩ : ∃ cl : Ct, cl = ⟨lsF j c (-1), c.gr, c.nx, c.wt⟩ := ⟨_, rfl⟩
  have hst : stF j c (-1) = cyS j (cyS j (if cyO cl = true then etF j cl ((cl.gr + 1) % grF j) else cl) 0) 1 := by
    unfold stF
    rw [if_neg (by omega), if_neg (by rw [haim]; decide), hcl]
    rfl
  rw [← hcl] at L hls
  have eg : cl.gr = c.gr := by rw [hcl]
  have en : cl.nx = c.nx := by rw [hcl]
  have ew : cl.wt = 0 := by rw [hcl]; exact h0
  have hgp := grF_pos J
  have CE : CV j (if cyO cl = true then etF j cl ((cl.gr + 1) % grF j) else cl) ∧ (if cyO cl = true then etF j cl ((cl.gr + 1) % grF j) else cl).wt = 0 := by
    split
    · exact ⟨cv_et L ⟨Int.emod_nonneg _ (by omega), Int.emod_lt_of_pos _ (by omega)⟩, ew⟩
    · exact ⟨L, ew⟩
  have el : ∀ p, liO (if cyO cl = true then etF j cl ((cl.gr + 1) % grF j) else cl) p = liO cl p := fun p => by split <;> rfl
  -- the lights
  have hsl : ∀ q, q < j.ph.length → 0 ≤ sgF (phO j q) (liO cl q) ∧ sgF (phO j q) (liO cl q) ≤ sgF (phO j q) (liO c q) ∧ ((liO c q).lamp ≠ 0 → sgF (phO j q) (liO cl q) + 1 ≤ sgF (phO j q) (liO c q)) := fun q hq => by
    have hti := J.ti q hq
    have h1 := sg_bd (C.k q hq) (by omega) (by omega) (by omega)
    have h2 := sg_bd (L.k q hq) (by omega) (by omega) (by omega)
    have h3 := sg_step (C.k q hq) (by omega) (by omega) (by unfold lnF; omega) (by omega)
    have e : lvS j c (-1) q = decide ((phO j q).maxg ≤ (liO c q).tk + 1) := by unfold lvS; rw [if_neg (by rw [haim]; decide)]
    rw [hls q hq, e] at h2 ⊢
    refine ⟨h2.1, by omega, fun hn => ?_⟩
    have := h1.2.2 hn
    omega
  -- a new group
  have hre : ∀ q, q < j.ph.length → rnF j (if cyO cl = true then etF j cl ((cl.gr + 1) % grF j) else cl).gr (if cyO cl = true then etF j cl ((cl.gr + 1) % grF j) else cl).nx p q ≤ rnF j c.gr c.nx p q := fun q hq => by
    rw [← eg, ← en]
    split
    · rename_i ho
      unfold cyO at ho
      rw [Bool.and_eq_true] at ho
      refine rn_enter J L.g (fun r hr => ?_) hp hq
      have h1 := List.all_eq_true.1 ho.2 (cl.nx.getD r default) (by rw [List.getD_eq_getElem?_getD, List.getElem?_eq_getElem (by have := L.m; omega)]; exact List.getElem_mem _)
      simpa using h1
    · exact Int.le_refl _
  have hent : (∀ q, q < j.ph.length → (liO cl q).lamp = 0) → (if cyO cl = true then etF j cl ((cl.gr + 1) % grF j) else cl).nx.getD 0 default ≠ -1 ∨ (if cyO cl = true then etF j cl ((cl.gr + 1) % grF j) else cl).nx.getD 1 default ≠ -1 := fun hr => by
    have har : arF cl = true := by
      unfold arF
      rw [List.all_eq_true]
      intro l hl
      obtain ⟨i, hi, rfl⟩ := List.getElem_of_mem hl
      have := hr i (by rw [← L.n]; exact hi)
      simpa [liO, List.getD, hi] using this
    by_cases ho : cyO cl = true
    · rw [if_pos ho]
      have hm : 0 ≤ (cl.gr + 1) % grF j ∧ (cl.gr + 1) % grF j < grF j := ⟨Int.emod_nonneg _ (by omega), Int.emod_lt_of_pos _ (by omega)⟩
      obtain ⟨q, hq, hqg⟩ := gr_has J hm.1 hm.2
      have hfl := fl_some hq
      rw [hqg] at hfl
      have hrq := J.rg q hq
      have : (phO j q).ring = 0 ∨ (phO j q).ring = 1 := by omega
      rcases this with h | h
      · rw [h] at hfl; exact .inl hfl
      · rw [h] at hfl; exact .inr hfl
    · rw [if_neg ho]
      refine Classical.byContradiction fun hc => ho ?_
      unfold cyO
      rw [har, Bool.true_and, List.all_eq_true]
      intro x hx
      obtain ⟨i, hi, rfl⟩ := List.getElem_of_mem hx
      have hm := L.m
      have : i = 0 ∨ i = 1 := by omega
      have h2 : cl.nx.getD 0 default = -1 ∧ cl.nx.getD 1 default = -1 := by
        refine ⟨Classical.byContradiction fun h => hc (.inl h), Classical.byContradiction fun h => hc (.inr h)⟩
      have e : cl.nx[i] = cl.nx.getD i default := by simp [List.getD, hi]
      rw [e, beq_iff_eq]
      rcases this with rfl | rfl
      · exact h2.1
      · exact h2.2
  have hwt : (stF j c (-1)).wt = 0 := by
    rw [hst]
    have h2 := cv_cy1 J CE.1 CE.2 (r := 0) (by omega)
    exact (cv_cy1 J h2.1 h2.2 (r := 1) (by omega)).2
  refine ⟨hwt, ?_⟩
  obtain ⟨C2, hgr, b0, b1, f0, f1, hli, n0, n0', n1, n1', must⟩ := ord_2 J CE.1 CE.2
  rw [← hst] at C2 hgr hli n0 n0' n1 n1'
  generalize (if cyO cl = true then etF j cl ((cl.gr + 1) % grF j) else cl) = c0 at *
  generalize stF j c (-1) = x at *
  by_cases hbp : b0 = some p ∨ b1 = some p
  · left
    rw [hli p hp, if_pos hbp]
  right
  have hpd : ∀ q, q < j.ph.length → pdB j x.gr x.nx q = (pdB j c0.gr c0.nx q && !decide (b0 = some q ∨ b1 = some q)) ∧ ((b0 = some q ∨ b1 = some q) → pdB j c0.gr c0.nx q = true) := fun q hq => by
    rw [hgr]
    have hrq := J.rg q hq
    have : (phO j q).ring = 0 ∨ (phO j q).ring = 1 := by omega
    rcases this with h | h
    · have hb1 : b1 ≠ some q := fun e => by have := (f1 q e).2.2.1; omega
      have := pd_one hq (r := 0) h b0 (fun s hs => ⟨(f0 s hs).1, (f0 s hs).2.2.2.1⟩) n0 n0'
      rw [this.1]
      refine ⟨?_, fun e => this.2 (by rcases e with e | e; exact e; exact absurd e hb1)⟩
      simp [hb1]
    · have hb0 : b0 ≠ some q := fun e => by have := (f0 q e).2.2.1; omega
      have := pd_one hq (r := 1) h b1 (fun s hs => ⟨(f1 s hs).1, (f1 s hs).2.2.2.1⟩) n1 n1'
      rw [this.1]
      refine ⟨?_, fun e => this.2 (by rcases e with e | e; exact absurd e hb0; exact e)⟩
      simp [hb0]
  have hpp : pdB j x.gr x.nx p = pdB j c0.gr c0.nx p := by
    rw [(hpd p hp).1, decide_eq_false hbp]; simp
  have hq : ∀ q, q < j.ph.length → piF j x p q ≤ sgF (phO j q) (liO c0 q) + rnF j c0.gr c0.nx p q * fuF (phO j q) := fun q hq => by
    have hti := J.ti q hq
    unfold piF
    rw [hli q hq]
    by_cases hb : b0 = some q ∨ b1 = some q
    · rw [if_pos hb, sg_new (by omega)]
      have hr : (liO c0 q).lamp = 0 := by
        rcases hb with h | h
        · exact (f0 q h).2.2.2.2
        · exact (f1 q h).2.2.2.2
      rw [sg_red hr]
      have e : rnF j c0.gr c0.nx p q = rnF j x.gr x.nx p q + 1 := by
        unfold rnF
        rw [hpp, (hpd q hq).1, (hpd q hq).2 hb, decide_eq_true hb, hgr]
        simp only [Bool.not_true, Bool.and_false, if_true]
        rw [if_neg (show ¬ false = true by decide)]
        omega
      rw [e, Int.add_mul]
      omega
    · rw [if_neg hb]
      have e : rnF j x.gr x.nx p q = rnF j c0.gr c0.nx p q := by
        unfold rnF
        rw [hpp, (hpd q hq).1, decide_eq_false hb, hgr]
        simp
      rw [e]
      exact Int.le_refl _
  have hall : ∀ q, q < j.ph.length → piF j x p q ≤ piF j c p q ∧ ((liO c q).lamp ≠ 0 → piF j x p q + 1 ≤ piF j c p q) := fun q hq2 => by
    have h1 := hq q hq2
    rw [el q] at h1
    have h2 := hsl q hq2
    have hti := J.ti q hq2
    have hF : 0 ≤ fuF (phO j q) := by unfold fuF; omega
    have h3 := Int.mul_le_mul_of_nonneg_right (hre q hq2) hF
    have e : piF j c p q = sgF (phO j q) (liO c q) + rnF j c.gr c.nx p q * fuF (phO j q) := rfl
    exact ⟨by omega, fun hn => by have := h2.2.2 hn; omega⟩
  refine ⟨?_, sm_le _ fun q hq2 => (hall q hq2).1, fun ⟨q, hq2, hn⟩ => sm_lt ((hall q hq2).2 hn) _ hq2 fun q hq2 => (hall q hq2).1⟩
  by_cases hr : ∀ q, q < j.ph.length → (liO c0 q).lamp = 0
  · have hor := must hr (hent (fun q hq2 => by rw [← el q]; exact hr q hq2))
    rcases hor with h | h
    · match b0, h, f0, hli with
      | some b, _, f0, hli =>
        have hb := (f0 b rfl).2.1
        refine ⟨b, hb, ?_⟩
        rw [hli b hb, if_pos (.inl rfl)]
        decide
      | none, h, _, _ => exact absurd rfl h
    · match b1, h, f1, hli with
      | some b, _, f1, hli =>
        have hb := (f1 b rfl).2.1
        refine ⟨b, hb, ?_⟩
        rw [hli b hb, if_pos (.inr rfl)]
        decide
      | none, h, _, _ => exact absurd rfl h
  · obtain ⟨q, hq2⟩ := Classical.not_forall.1 hr
    obtain ⟨hq2, hn⟩ := Classical.not_imp.1 hq2
    refine ⟨q, hq2, ?_⟩
    rw [hli q hq2]
    split
    · decide
    · exact hn
/-- Each phase becomes green. -/
theorem turn_k {j : Jn} (J : JV j) {p : Nat} (hp : p < j.ph.length) : ∀ (N : Nat) (c : Ct), CV j c → c.wt = 0 → (pot j c p ≤ N ∧ ((∀ q, q < j.ph.length → (liO c q).lamp = 0) → pot j c p + 1 ≤ N)) → ∃ k, 1 ≤ k ∧ k ≤ N ∧ (liO (stI j c (-1) k) p).lamp = 1
  | 0, c, C, h0, ⟨h1, h2⟩ => by
    have hp0 := sm_0 (f := piF j c p) j.ph.length (fun i hi => (pi_0 J C p i hi).1)
    change 0 ≤ pot j c p at hp0
    by_cases hr : ∀ q, q < j.ph.length → (liO c q).lamp = 0
    · have := h2 hr; omega
    · obtain ⟨q, hq2⟩ := Classical.not_forall.1 hr
      obtain ⟨hq2, hn⟩ := Classical.not_imp.1 hq2
      have h3 := sm_at (f := piF j c p) j.ph.length q hq2 (fun i hi => (pi_0 J C p i hi).1)
      have h4 := (pi_0 J C p q hq2).2 hn
      change _ ≤ pot j c p at h3
      omega
  | N + 1, c, C, h0, ⟨h1, h2⟩ => by
    obtain ⟨hw, h⟩ := pot_step J C h0 hp
    rcases h with h | ⟨⟨q, hq, hn⟩, h3, h4⟩
    · exact ⟨1, by omega, by omega, h⟩
    · have h5 : pot j (stF j c (-1)) p ≤ N := by
        by_cases hr : ∀ q, q < j.ph.length → (liO c q).lamp = 0
        · have := h2 hr; omega
        · obtain ⟨s, hs⟩ := Classical.not_forall.1 hr
          obtain ⟨hs, hs2⟩ := Classical.not_imp.1 hs
          have := h4 ⟨s, hs, hs2⟩
          omega
      obtain ⟨k, k1, k2, k3⟩ := turn_k J hp N (stF j c (-1)) (cv_st J C (-1)) hw ⟨h5, fun hr => absurd (hr q hq) hn⟩
      exact ⟨k + 1, by omega, by omega, by rw [← stI_front]; exact k3⟩
theorem turn_all {j : Jn} (J : JV j) {c : Ct} (C : CV j c) (R : RU j c) {p : Nat} (hp : p < j.ph.length) : ∃ k : Nat, 1 ≤ k ∧ (k : Int) ≤ j.st + 1 + smN (fun q => 2 * fuF (phO j q)) j.ph.length ∧ (liO (stI j c (-1) k) p).lamp = 1 := by
  have hw := C.w
  obtain ⟨w, hw2⟩ : ∃ w : Nat, c.wt = w := ⟨c.wt.toNat, by omega⟩
  have e := wait_k (j := j) (t := -1) w c hw2
  have C1 := stI_v J C (-1) w
  have R1 := ru_stI J C R (-1) w
  have hb := pot_bd J C1 R1 p
  have hp0 := sm_0 (f := piF j (stI j c (-1) w) p) j.ph.length (fun i hi => (pi_0 J C1 p i hi).1)
  change 0 ≤ pot j (stI j c (-1) w) p at hp0
  have hz : (stI j c (-1) w).wt = 0 := by rw [e]
  obtain ⟨k, k1, k2, k3⟩ := turn_k J hp ((pot j (stI j c (-1) w) p).toNat + 1) _ C1 hz ⟨by omega, fun _ => by omega⟩
  rw [stI_add] at k3
  exact ⟨w + k, by omega, by omega, k3⟩
end Av
end Go.Proofs.Ythmnhefaeknppaa
