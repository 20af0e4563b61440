
/- Rings: what a control becomes, in plain Lean; what stays true of it. -/
import Derived.Test.YtkliodbbcblobaaGreatCfB
namespace Go.Proofs.YtkliodbbcblobaaGreat
namespace Av
set_option linter.unusedSimpArgs false
set_option linter.unusedVariables false
set_option maxRecDepth 4000
set_option maxHeartbeats 1000000
structure Li where
  lamp : Int
  tk : Int
structure Ct where
  li : List Li
  gr : Int
  nx : List Int
  wt : Int
instance : Inhabited Li := ⟨⟨0, 0⟩⟩
def liA (l : Li) : AV := .agg [iA l.lamp, iA l.tk]
def ctA (c : Ct) : AV := .agg [slA liA c.li, iA c.gr, slA iA c.nx, iA c.wt]
/-- Do p and q conflict? -/
def cfP (rows : List Int) (p q : Int) : Bool := decide (0 ≤ p ∧ 0 ≤ q ∧ p < rows.length ∧ q < rows.length) && (andI (shrI (rows.getD p.toNat default) q) 1 == 1)
def lnF (p : Ph) : Int := max p.ming (p.walk + p.clear)
def lpF (p : Ph) (l : Li) (lv : Bool) : Li :=
  if l.lamp = 1 then (if lv = true ∧ lnF p ≤ l.tk + 1 then ⟨2, 0⟩ else ⟨1, min (l.tk + 1) 1073741824⟩)
  else if l.lamp = 2 then (if l.tk + 1 < p.yel then ⟨2, l.tk + 1⟩ else if p.red = 0 then ⟨0, 0⟩ else ⟨3, 0⟩)
  else if l.lamp = 3 then (if l.tk + 1 < p.red then ⟨3, l.tk + 1⟩ else ⟨0, 0⟩)
  else l
/-- A light is valid. -/
def lvF (p : Ph) (l : Li) : Bool := if l.lamp = 0 then decide (l.tk = 0) else if l.lamp = 1 then decide (0 ≤ l.tk ∧ l.tk ≤ 1073741824) else if l.lamp = 2 then decide (0 ≤ l.tk ∧ l.tk < p.yel) else if l.lamp = 3 then decide (0 ≤ l.tk ∧ l.tk < p.red) else false
def phO (j : Jn) (p : Nat) : Ph := j.ph.getD p default
def liO (c : Ct) (p : Nat) : Li := c.li.getD p default
/-- p is a phase of the ring r in the group g. -/
def InO (j : Jn) (r g p : Int) : Prop := 0 ≤ p ∧ p < j.ph.length ∧ (phO j p.toNat).ring = r ∧ (phO j p.toNat).group = g
def grN (ps : List Ph) : Nat → Int
  | 0 => 0
  | i + 1 => max (grN ps i) ((ps.getD i default).group + 1)
def grF (j : Jn) : Int := grN j.ph j.ph.length
theorem grN_le (ps : List Ph) (n : Nat) : ∀ i, i < n → (ps.getD i default).group + 1 ≤ grN ps n := by
  induction n with
  | zero => intro i h; exact absurd h (Nat.not_lt_zero _)
  | succ n ih =>
    intro i h
    unfold grN
    by_cases e : i = n
    · subst e; omega
    · have := ih i (by omega); omega
/-- The phases of a ring, ascending, those before i. -/
def rpN (j : Jn) (r : Int) (i : Nat) : List Nat := (List.range i).filter fun p => (phO j p).ring == r
def rpF (j : Jn) (r : Int) : List Nat := rpN j r j.ph.length
theorem rpF_mem {j : Jn} {r : Int} {p : Nat} : p ∈ rpF j r ↔ p < j.ph.length ∧ (phO j p).ring = r := by
  unfold rpF rpN
  rw [List.mem_filter, List.mem_range, beq_iff_eq]
/-- The least phase from f on of the ring r in the group g. -/
def flF (j : Jn) (r g f : Int) : Int := match (rpF j r).find? (fun p : Nat => decide (f ≤ (p : Int)) && (phO j p).group == g) with
  | some p => p
  | none => -1
theorem flF_spec (j : Jn) (r g f : Int) : flF j r g f = -1 ∨ InO j r g (flF j r g f) ∧ f ≤ flF j r g f := by
  unfold flF
  split
  · rename_i p h
    have h1 := List.find?_some h
    have h2 := rpF_mem.1 (List.mem_of_find?_eq_some h)
    simp only [Bool.and_eq_true, beq_iff_eq, decide_eq_true_eq] at h1
    exact .inr ⟨⟨by omega, by omega, h2.2, h1.2⟩, h1.1⟩
  · exact .inl rfl
def etF (j : Jn) (c : Ct) (g : Int) : Ct := ⟨c.li, g, [flF j 0 g 0, flF j 1 g 0], c.wt⟩
/-- Is p kept from beginning? -/
def kpF (j : Jn) (c : Ct) (p : Int) : Bool := (List.range c.li.length).any fun q => (liO c q).lamp != 0 && cfP j.cf p q
def b1F (c : Ct) (p : Nat) : Ct := ⟨c.li.set p ⟨1, 0⟩, c.gr, c.nx, c.wt⟩
def b2F (j : Jn) (c : Ct) (p : Nat) : Ct := if c.gr = (phO j p).group then b1F c p else etF j (b1F c p) (phO j p).group
def bgF (j : Jn) (c : Ct) (p : Nat) : Ct :=
  if kpF j c p = true then c
  else ⟨(b2F j c p).li, (b2F j c p).gr, (b2F j c p).nx.set (phO j p).ring.toNat (flF j (phO j p).ring (phO j p).group (p + 1)), (b2F j c p).wt⟩
/-- Is a ring dark? -/
def dkF (j : Jn) (c : Ct) (r : Int) : Bool := (rpF j r).all fun p => (liO c p).lamp == 0
/-- The candidate of a ring beside a target. -/
def cmF (j : Jn) (x r t : Int) : Int := match (rpF j r).find? (fun p : Nat => !cfP j.cf p t && decide (x ≠ -1 ∧ x ≤ (p : Int))) with
  | some p => p
  | none => match (rpF j r).find? (fun p : Nat => !cfP j.cf p t) with
    | some p => p
    | none => -1
def svP (j : Jn) (c : Ct) (r : Int) (t : Nat) : Int := if r = (phO j t).ring then t else cmF j (c.nx.getD r.toNat default) r t
def svS (j : Jn) (t : Nat) (c : Ct) (r : Int) : Ct := if dkF j c r = true then (if svP j c r t = -1 then c else bgF j c (svP j c r t).toNat) else c
def arF (c : Ct) : Bool := c.li.all fun l => l.lamp == 0
def cyO (c : Ct) : Bool := arF c && c.nx.all fun p => p == -1
def cyS (j : Jn) (c : Ct) (r : Int) : Ct := if dkF j c r = true ∧ c.nx.getD r.toNat default ≠ -1 then bgF j c (c.nx.getD r.toNat default).toNat else c
def cyF (j : Jn) (c : Ct) : Ct := cyS j (cyS j (if cyO c = true then etF j c ((c.gr + 1) % grF j) else c) 0) 1
def aimF (j : Jn) (t : Int) : Bool := decide (0 ≤ t ∧ t < j.ph.length)
def lvS (j : Jn) (c : Ct) (t : Int) (p : Nat) : Bool :=
  if aimF j t = true then decide ((p : Int) ≠ t) && (decide ((phO j p).maxg ≤ (liO c p).tk + 1) || cfP j.cf p t) else decide ((phO j p).maxg ≤ (liO c p).tk + 1)
def lsF (j : Jn) (c : Ct) (t : Int) : List Li := (List.range j.ph.length).map fun p => lpF (phO j p) (liO c p) (lvS j c t p)
def stF (j : Jn) (c : Ct) (t : Int) : Ct :=
  if 0 < c.wt then ⟨c.li, c.gr, c.nx, c.wt - 1⟩
  else if aimF j t = true then svS j t.toNat (svS j t.toNat ⟨lsF j c t, c.gr, c.nx, c.wt⟩ 0) 1
  else cyF j ⟨lsF j c t, c.gr, c.nx, c.wt⟩
/-- A junction that is valid. -/
structure JV (j : Jn) : Prop where
  n : 1 ≤ j.ph.length ∧ j.ph.length ≤ 8
  c : j.cf.length = j.ph.length
  row : ∀ i, i < j.ph.length → 0 ≤ j.cf.getD i default ∧ j.cf.getD i default < 2 ^ j.ph.length
  ir : ∀ p : Nat, p < j.ph.length → cfP j.cf p p = false
  sy : ∀ p q : Nat, p < j.ph.length → q < j.ph.length → cfP j.cf p q = cfP j.cf q p
  ap : ∀ p q : Nat, p < j.ph.length → q < j.ph.length → p ≠ q → (phO j p).ring = (phO j q).ring ∨ (phO j p).group ≠ (phO j q).group → cfP j.cf p q = true
  rg : ∀ p : Nat, p < j.ph.length → 0 ≤ (phO j p).ring ∧ (phO j p).ring ≤ 1
  gp : ∀ p : Nat, p < j.ph.length → 0 ≤ (phO j p).group ∧ (phO j p).group ≤ 3
  ti : ∀ p : Nat, p < j.ph.length → 1 ≤ (phO j p).ming ∧ (phO j p).ming ≤ (phO j p).maxg ∧ (phO j p).maxg ≤ 60 ∧ 1 ≤ (phO j p).yel ∧ (phO j p).yel ≤ 60 ∧ 0 ≤ (phO j p).red ∧ (phO j p).red ≤ 60 ∧ 0 ≤ (phO j p).walk ∧ (phO j p).walk ≤ 60 ∧ 0 ≤ (phO j p).clear ∧ (phO j p).clear ≤ 60 ∧ (phO j p).walk + (phO j p).clear ≤ (phO j p).maxg ∧ ((phO j p).walk = 0 ↔ (phO j p).clear = 0)
  lo : ∀ p : Nat, p < j.ph.length → ∀ g : Int, 0 ≤ g → g < (phO j p).group → ∃ q : Nat, q < j.ph.length ∧ (phO j q).group = g
  st : 0 ≤ j.st ∧ j.st ≤ 60
/-- A control that is valid. -/
structure CV (j : Jn) (c : Ct) : Prop where
  n : c.li.length = j.ph.length
  k : ∀ p, p < j.ph.length → lvF (phO j p) (liO c p) = true
  x : ∀ p q : Nat, p < j.ph.length → q < j.ph.length → p ≠ q → (liO c p).lamp ≠ 0 → (liO c q).lamp ≠ 0 → cfP j.cf p q = false
  g : 0 ≤ c.gr ∧ c.gr < grF j
  m : c.nx.length = 2
  v : ∀ r : Nat, r < 2 → c.nx.getD r default = -1 ∨ InO j r c.gr (c.nx.getD r default)
  w : 0 ≤ c.wt ∧ c.wt ≤ j.st
  z : c.wt = 0 ∨ ∀ p, p < j.ph.length → (liO c p).lamp = 0
theorem grF_pos {j : Jn} (J : JV j) : 1 ≤ grF j := by
  have h1 := grN_le j.ph j.ph.length 0 (by have := J.n; omega)
  have h2 := J.gp 0 (by have := J.n; omega)
  unfold phO at h2
  unfold grF
  omega
theorem etF_v (j : Jn) (c : Ct) (g : Int) : ∀ r : Nat, r < 2 → (etF j c g).nx.getD r default = -1 ∨ InO j r g ((etF j c g).nx.getD r default) := by
  intro r hr
  have : r = 0 ∨ r = 1 := by omega
  rcases this with rfl | rfl
  · rcases flF_spec j 0 g 0 with h | h
    · exact .inl h
    · exact .inr h.1
  · rcases flF_spec j 1 g 0 with h | h
    · exact .inl h
    · exact .inr h.1
theorem cv_et {j : Jn} {c : Ct} (C : CV j c) {g : Int} (hg : 0 ≤ g ∧ g < grF j) : CV j (etF j c g) :=
  ⟨C.n, C.k, C.x, hg, rfl, etF_v j c g, C.w, C.z⟩
theorem liO_set (c : Ct) (p q : Nat) (l : Li) (gr : Int) (nx : List Int) (wt : Int) (hp : p < c.li.length) : liO ⟨c.li.set p l, gr, nx, wt⟩ q = if q = p then l else liO c q := by
  unfold liO
  simp only [List.getD_eq_getElem?_getD, List.getElem?_set]
  split
  · rename_i h; subst h; simp [hp]
  · rename_i h; rw [if_neg (fun e => h e.symm)]
theorem cv_b1 {j : Jn} (J : JV j) {c : Ct} (C : CV j c) (h0 : c.wt = 0) {p : Nat} (hp : p < j.ph.length) (hk : kpF j c p = false) : CV j (b1F c p) := by
  have hl := C.n
  have hs : ∀ q, liO (b1F c p) q = if q = p then ⟨1, 0⟩ else liO c q := fun q => liO_set c p q _ _ _ _ (by omega)
  unfold kpF at hk
  rw [List.any_eq_false] at hk
  have hc : ∀ q : Nat, q < j.ph.length → (liO c q).lamp ≠ 0 → cfP j.cf p q = false := fun q hq hn => by
    have := hk q (List.mem_range.2 (by omega))
    simp only [Bool.and_eq_true, not_and, Bool.not_eq_true] at this
    exact this (by simpa using hn)
  refine ⟨by unfold b1F; simpa using hl, fun q hq => ?_, fun q r hq hr hqr h1 h2 => ?_, C.g, C.m, C.v, C.w, .inl h0⟩
  · rw [hs]
    split
    · rfl
    · exact C.k q hq
  · rw [hs] at h1 h2
    by_cases e1 : q = p
    · subst e1
      rw [if_neg (fun e => hqr e.symm)] at h2
      exact hc r hr h2
    · rw [if_neg e1] at h1
      by_cases e2 : r = p
      · subst e2
        rw [J.sy q r hq hr]
        exact hc q hq h1
      · rw [if_neg e2] at h2
        exact C.x q r hq hr hqr h1 h2
theorem cv_b2 {j : Jn} (J : JV j) {c : Ct} (C : CV j c) (h0 : c.wt = 0) {p : Nat} (hp : p < j.ph.length) (hk : kpF j c p = false) : CV j (b2F j c p) ∧ (b2F j c p).gr = (phO j p).group ∧ (b2F j c p).wt = 0 := by
  have h1 := cv_b1 J C h0 hp hk
  unfold b2F
  split
  · rename_i h
    exact ⟨h1, h, h0⟩
  · have hg := J.gp p hp
    have := grN_le j.ph j.ph.length p hp
    exact ⟨cv_et h1 ⟨hg.1, by unfold grF; unfold phO; omega⟩, rfl, h0⟩
theorem cv_bg {j : Jn} (J : JV j) {c : Ct} (C : CV j c) (h0 : c.wt = 0) {p : Nat} (hp : p < j.ph.length) : CV j (bgF j c p) ∧ (bgF j c p).wt = 0 := by
  unfold bgF
  split
  · exact ⟨C, h0⟩
  · rename_i hk
    obtain ⟨B, hg, hw⟩ := cv_b2 J C h0 hp (by simpa using hk)
    have hr := J.rg p hp
    refine ⟨⟨B.n, B.k, B.x, B.g, by rw [List.length_set]; exact B.m, fun r hr2 => ?_, B.w, B.z⟩, hw⟩
    have hs := flF_spec j (phO j p).ring (phO j p).group (p + 1)
    generalize flF j (phO j p).ring (phO j p).group (p + 1) = f at *
    dsimp only
    have e : ((b2F j c p).nx.set (phO j p).ring.toNat f).getD r default = if r = (phO j p).ring.toNat then f else (b2F j c p).nx.getD r default := by
      simp only [List.getD_eq_getElem?_getD, List.getElem?_set]
      split
      · rename_i h; subst h; rw [if_pos rfl, B.m, if_pos hr2]; rfl
      · rename_i h; rw [if_neg (fun e => h e.symm)]
    rw [e]
    split
    · rename_i h
      rcases hs with hs | hs
      · exact .inl hs
      · refine .inr ?_
        rw [hg, show (r : Int) = (phO j p).ring by omega]
        exact hs.1
    · exact B.v r hr2
theorem cmF_spec (j : Jn) (x r t : Int) : cmF j x r t = -1 ∨ ∃ p : Nat, cmF j x r t = p ∧ p < j.ph.length ∧ (phO j p).ring = r ∧ cfP j.cf p t = false := by
  unfold cmF
  split
  · rename_i p h
    have h1 := List.find?_some h
    have h2 := rpF_mem.1 (List.mem_of_find?_eq_some h)
    simp only [Bool.and_eq_true, Bool.not_eq_true'] at h1
    exact .inr ⟨p, rfl, h2.1, h2.2, h1.1⟩
  · split
    · rename_i p h
      have h1 := List.find?_some h
      have h2 := rpF_mem.1 (List.mem_of_find?_eq_some h)
      rw [Bool.not_eq_true'] at h1
      exact .inr ⟨p, rfl, h2.1, h2.2, h1⟩
    · exact .inl rfl
theorem svP_spec {j : Jn} {c : Ct} {r : Int} {t : Nat} (ht : t < j.ph.length) : svP j c r t = -1 ∨ ∃ p : Nat, svP j c r t = p ∧ p < j.ph.length ∧ (phO j p).ring = r := by
  unfold svP
  split
  · rename_i h
    exact .inr ⟨t, rfl, ht, h.symm⟩
  · rcases cmF_spec j (c.nx.getD r.toNat default) r t with h | ⟨p, h1, h2, h3, _⟩
    · exact .inl h
    · exact .inr ⟨p, h1, h2, h3⟩
theorem cv_sv {j : Jn} (J : JV j) {c : Ct} (C : CV j c) (h0 : c.wt = 0) {t : Nat} (ht : t < j.ph.length) (r : Int) : CV j (svS j t c r) ∧ (svS j t c r).wt = 0 := by
  unfold svS
  split
  · split
    · exact ⟨C, h0⟩
    · rename_i h
      rcases svP_spec (j := j) (c := c) (r := r) ht with h1 | ⟨p, h1, h2, _⟩
      · exact absurd h1 h
      · rw [h1, Int.toNat_natCast]
        exact cv_bg J C h0 h2
  · exact ⟨C, h0⟩
theorem cv_cy1 {j : Jn} (J : JV j) {c : Ct} (C : CV j c) (h0 : c.wt = 0) {r : Nat} (hr : r < 2) : CV j (cyS j c r) ∧ (cyS j c r).wt = 0 := by
  unfold cyS
  split
  · rename_i h
    rw [Int.toNat_natCast] at h ⊢
    rcases C.v r hr with h1 | h1
    · exact absurd h1 h.2
    · exact cv_bg J C h0 (by have := h1.2.1; have := h1.1; omega)
  · exact ⟨C, h0⟩
theorem cv_cy {j : Jn} (J : JV j) {c : Ct} (C : CV j c) (h0 : c.wt = 0) : CV j (cyF j c) := by
  have h1 : CV j (if cyO c = true then etF j c ((c.gr + 1) % grF j) else c) ∧ (if cyO c = true then etF j c ((c.gr + 1) % grF j) else c).wt = 0 := by
    split
    · have := grF_pos J
      exact ⟨cv_et C ⟨Int.emod_nonneg _ (by omega), Int.emod_lt_of_pos _ (by omega)⟩, h0⟩
    · exact ⟨C, h0⟩
  have h2 := cv_cy1 J h1.1 h1.2 (r := 0) (by omega)
  exact (cv_cy1 J h2.1 h2.2 (r := 1) (by omega)).1
theorem lp_v {p : Ph} {l : Li} {lv : Bool} (hy : 1 ≤ p.yel) (hr : 0 ≤ p.red) (h : lvF p l = true) : lvF p (lpF p l lv) = true ∧ ((lpF p l lv).lamp ≠ 0 → l.lamp ≠ 0) := by
  unfold lvF at h
  unfold lpF
  by_cases h1 : l.lamp = 1
  · rw [if_pos h1]
    rw [if_neg (by omega), if_pos h1, decide_eq_true_eq] at h
    split
    · refine ⟨by unfold lvF; simp; omega, fun _ => by omega⟩
    · refine ⟨by unfold lvF; simp; omega, fun _ => by omega⟩
  by_cases h2 : l.lamp = 2
  · rw [if_neg h1, if_pos h2]
    rw [if_neg (by omega), if_neg h1, if_pos h2, decide_eq_true_eq] at h
    split
    · refine ⟨by unfold lvF; simp; omega, fun _ => by omega⟩
    · split
      · refine ⟨by unfold lvF; simp, fun h => absurd rfl h⟩
      · refine ⟨by unfold lvF; simp; omega, fun _ => by omega⟩
  by_cases h3 : l.lamp = 3
  · rw [if_neg h1, if_neg h2, if_pos h3]
    rw [if_neg (by omega), if_neg h1, if_neg h2, if_pos h3, decide_eq_true_eq] at h
    split
    · refine ⟨by unfold lvF; simp; omega, fun _ => by omega⟩
    · refine ⟨by unfold lvF; simp, fun h => absurd rfl h⟩
  · rw [if_neg h1, if_neg h2, if_neg h3]
    exact ⟨by unfold lvF; exact h, fun h => h⟩
theorem ls_at {j : Jn} {c : Ct} (t gr : Int) (nx : List Int) (wt : Int) (p : Nat) (hp : p < j.ph.length) : liO ⟨lsF j c t, gr, nx, wt⟩ p = lpF (phO j p) (liO c p) (lvS j c t p) := by
  show (lsF j c t).getD p default = _
  unfold lsF
  simp only [List.getD_eq_getElem?_getD, List.getElem?_map, List.getElem?_range hp]
  rfl
theorem cv_ls {j : Jn} (J : JV j) {c : Ct} (C : CV j c) (h0 : c.wt = 0) (t : Int) : CV j ⟨lsF j c t, c.gr, c.nx, c.wt⟩ := by
  have hs := fun p hp => lp_v (lv := lvS j c t p) (by have := J.ti p hp; omega) (by have := J.ti p hp; omega) (C.k p hp)
  refine ⟨by simp [lsF], fun p hp => ?_, fun p q hp hq hpq h1 h2 => ?_, C.g, C.m, C.v, C.w, .inl h0⟩
  · rw [ls_at _ _ _ _ _ hp]
    exact (hs p hp).1
  · rw [ls_at _ _ _ _ _ hp] at h1
    rw [ls_at _ _ _ _ _ hq] at h2
    exact C.x p q hp hq hpq ((hs p hp).2 h1) ((hs q hq).2 h2)
/-- Controls stay valid. -/
theorem cv_st {j : Jn} (J : JV j) {c : Ct} (C : CV j c) (t : Int) : CV j (stF j c t) := by
  unfold stF
  split
  · rename_i h
    have hz := C.z
    have hw := C.w
    refine ⟨C.n, C.k, C.x, C.g, C.m, C.v, by dsimp only; omega, ?_⟩
    rcases hz with hz | hz
    · omega
    · exact .inr hz
  · have h0 : c.wt = 0 := by have := C.w; omega
    have L := cv_ls J C h0 t
    split
    · rename_i h
      unfold aimF at h
      rw [decide_eq_true_eq] at h
      have h1 := cv_sv J L h0 (t := t.toNat) (by omega) 0
      exact (cv_sv J h1.1 h1.2 (t := t.toNat) (by omega) 1).1
    · exact cv_cy J L h0
end Av
end Go.Proofs.YtkliodbbcblobaaGreat
