/- Rings: without a target each ring begins its phases in order; plain Lean. -/
import Derived.Test.YthmnhefaeknppaaRkA
namespace Go.Proofs.Ythmnhefaeknppaa
namespace Av
set_option linter.unusedSimpArgs false
set_option linter.unusedVariables false
set_option maxRecDepth 4000
set_option maxHeartbeats 1000000
/-- A phase p of the ring r begins. -/
structure Bgn (j : Jn) (c c' : Ct) (r p : Nat) : Prop where
  nx : c.nx.getD r default = p
  lt : p < j.ph.length
  rg : (phO j p).ring = r
  gp : (phO j p).group = c.gr
  gr : c'.gr = c.gr
  red : (liO c p).lamp = 0
  li : ∀ q, liO c' q = if q = p then ⟨1, 0⟩ else liO c q
  n1 : c'.nx = c.nx.set r (flF j r c.gr (p + 1))
  wt : c'.wt = c.wt
theorem bg_bgn {j : Jn} (J : JV j) {c : Ct} (C : CV j c) {r : Nat} (hr : r < 2) (hd : dkF j c r = true) {p : Nat} (hnx : c.nx.getD r default = p) (hk : kpF j c p = false) : Bgn j c (bgF j c p) r p := by
  have hv : InO j r c.gr p := by
    rcases C.v r hr with h | h
    · rw [hnx] at h; omega
    · rw [hnx] at h; exact h
  obtain ⟨h1, h2, h3, h4⟩ := hv
  rw [Int.toNat_natCast] at h3 h4
  have hp : p < j.ph.length := by omega
  have e2 : b2F j c p = b1F c p := by unfold b2F; rw [if_pos h4.symm]
  have e : bgF j c p = ⟨c.li.set p ⟨1, 0⟩, c.gr, c.nx.set r (flF j r c.gr (p + 1)), c.wt⟩ := by
    unfold bgF
    rw [if_neg (by rw [hk]; decide), e2, h3, h4, Int.toNat_natCast]
    rfl
  rw [e]
  exact ⟨hnx, hp, h3, h4, rfl, dk_red hd hp h3, fun q => liO_set c p q _ _ _ _ (by rw [C.n]; exact hp), rfl, rfl⟩
theorem cy_cases {j : Jn} (J : JV j) {c : Ct} (C : CV j c) {r : Nat} (hr : r < 2) : cyS j c r = c ∨ ∃ p, Bgn j c (cyS j c r) r p := by
  unfold cyS
  split
  · rename_i h
    rw [Int.toNat_natCast] at h ⊢
    obtain ⟨p, hp⟩ : ∃ p : Nat, c.nx.getD r default = p := by
      rcases C.v r hr with h1 | h1
      · exact absurd h1 h.2
      · exact ⟨(c.nx.getD r default).toNat, by have := h1.1; omega⟩
    rw [hp, Int.toNat_natCast]
    cases hk : kpF j c p with
    | true => left; unfold bgF; rw [if_pos hk]
    | false => exact .inr ⟨p, bg_bgn J C hr h.1 hp hk⟩
  · exact .inl rfl
/-- Where all are red and there is a phase to begin, it begins. -/
theorem cy_must {j : Jn} (J : JV j) {c : Ct} (C : CV j c) {r : Nat} (hr : r < 2) (ha : ∀ p, p < j.ph.length → (liO c p).lamp = 0) (hn : c.nx.getD r default ≠ -1) : ∃ p, Bgn j c (cyS j c r) r p := by
  have hd : dkF j c r = true := by
    unfold dkF
    rw [List.all_eq_true]
    intro p hp
    rw [beq_iff_eq]
    exact ha p (rpF_mem.1 hp).1
  obtain ⟨p, hp⟩ : ∃ p : Nat, c.nx.getD r default = p := by
    rcases C.v r hr with h1 | h1
    · exact absurd h1 hn
    · exact ⟨(c.nx.getD r default).toNat, by have := h1.1; omega⟩
  have hk : kpF j c p = false := by
    unfold kpF
    rw [List.any_eq_false]
    intro q hq
    have hq := List.mem_range.1 hq
    rw [C.n] at hq
    rw [ha q hq]
    simp
  have e : cyS j c r = bgF j c p := by
    unfold cyS
    rw [Int.toNat_natCast, if_pos ⟨hd, hn⟩, hp, Int.toNat_natCast]
  rw [e]
  exact ⟨p, bg_bgn J C hr hd hp hk⟩
theorem grN_at (ps : List Ph) : ∀ n, 1 ≤ n → (∀ i, i < n → 0 ≤ (ps.getD i default).group) → ∃ i, i < n ∧ (ps.getD i default).group + 1 = grN ps n
  | 0, h, _ => absurd h (by omega)
  | n + 1, _, h => by
    by_cases hn : n = 0
    · subst hn
      refine ⟨0, by omega, ?_⟩
      have := h 0 (by omega)
      show _ = max (0 : Int) ((ps.getD 0 default).group + 1)
      omega
    · obtain ⟨i, hi, he⟩ := grN_at ps n (by omega) (fun i hi => h i (by omega))
      unfold grN
      by_cases hc : (ps.getD n default).group + 1 ≤ grN ps n
      · exact ⟨i, by omega, by omega⟩
      · exact ⟨n, by omega, by omega⟩
/-- Each group has a phase. -/
theorem gr_has {j : Jn} (J : JV j) {g : Int} (h0 : 0 ≤ g) (h1 : g < grF j) : ∃ q : Nat, q < j.ph.length ∧ (phO j q).group = g := by
  obtain ⟨i, hi, he⟩ := grN_at j.ph j.ph.length (by have := J.n; omega) (fun i hi => by have := J.gp i hi; unfold phO at this; omega)
  change _ = grF j at he
  by_cases h : g = (phO j i).group
  · exact ⟨i, hi, h.symm⟩
  · have : g < (phO j i).group := by unfold phO at *; omega
    exact J.lo i hi g h0 this
theorem fl_some {j : Jn} {q : Nat} (hq : q < j.ph.length) : flF j (phO j q).ring (phO j q).group 0 ≠ -1 := by
  unfold flF
  split
  · omega
  · rename_i h
    rw [List.find?_eq_none] at h
    have := h q (rpF_mem.2 ⟨hq, rfl⟩)
    rw [decide_eq_true (show (0 : Int) ≤ (q : Int) by omega)] at this
    simp at this
/-- What has begun in a step. -/
def NG (j : Jn) (c x : Ct) (p : Nat) : Prop := (liO x p).lamp = 1 ∧ (liO c p).lamp ≠ 1
/-- What a step without a target makes of the order. -/
structure OrS (j : Jn) (c x : Ct) : Prop where
  gp : ∀ p, p < j.ph.length → NG j c x p → (phO j p).group = x.gr
  un : ∀ p q, p < j.ph.length → q < j.ph.length → NG j c x p → NG j c x q → (phO j p).ring = (phO j q).ring → p = q
  go : x.gr = c.gr ∨ (x.gr = (c.gr + 1) % grF j ∧ ∃ p, p < j.ph.length ∧ NG j c x p)
  st : x.gr = c.gr → grF j ≠ 1 → ∀ p, p < j.ph.length → NG j c x p → c.nx.getD (phO j p).ring.toNat default = p
  n1 : ∀ p, p < j.ph.length → NG j c x p → x.nx.getD (phO j p).ring.toNat default = -1 ∨ (p : Int) < x.nx.getD (phO j p).ring.toNat default
  n0 : x.gr = c.gr → grF j ≠ 1 → ∀ r : Nat, r < 2 → (∀ p, p < j.ph.length → NG j c x p → (phO j p).ring ≠ r) → x.nx.getD r default = c.nx.getD r default
  ng : x.gr ≠ c.gr → ∀ r : Nat, r < 2 → x.nx.getD r default = -1 ∨ 0 ≤ x.nx.getD r default
/-- A light that is green after the lights' step was so before. -/
theorem lp_green {p : Ph} {l : Li} {lv : Bool} (h : (lpF p l lv).lamp = 1) : l.lamp = 1 := by
  unfold lpF at h
  split at h
  · assumption
  · split at h
    · split at h
      · exact absurd h (by dsimp only; decide)
      · split at h
        · exact absurd h (by dsimp only; decide)
        · exact absurd h (by dsimp only; decide)
    · split at h
      · split at h
        · exact absurd h (by dsimp only; decide)
        · exact absurd h (by dsimp only; decide)
      · exact h
theorem lp_red {p : Ph} {l : Li} {lv : Bool} (h : (lpF p l lv).lamp = 0) : l.lamp ≠ 1 := by
  intro h1
  unfold lpF at h
  rw [if_pos h1] at h
  split at h
  · exact absurd h (by dsimp only; decide)
  · exact absurd h (by dsimp only; decide)
/-- A round of the rings, of what the lights' step has made. -/
theorem ord_2 {j : Jn} (J : JV j) {c0 : Ct} (C0 : CV j c0) (h0 : c0.wt = 0) :
    CV j (cyS j (cyS j c0 0) 1) ∧ (cyS j (cyS j c0 0) 1).gr = c0.gr ∧
    ∃ b0 b1 : Option Nat, (∀ p, b0 = some p → c0.nx.getD 0 default = (p : Int) ∧ p < j.ph.length ∧ (phO j p).ring = 0 ∧ (phO j p).group = c0.gr ∧ (liO c0 p).lamp = 0) ∧
      (∀ p, b1 = some p → c0.nx.getD 1 default = (p : Int) ∧ p < j.ph.length ∧ (phO j p).ring = 1 ∧ (phO j p).group = c0.gr ∧ (liO c0 p).lamp = 0) ∧
      (∀ q, q < j.ph.length → liO (cyS j (cyS j c0 0) 1) q = if b0 = some q ∨ b1 = some q then ⟨1, 0⟩ else liO c0 q) ∧
      (∀ p, b0 = some p → (cyS j (cyS j c0 0) 1).nx.getD 0 default = flF j 0 c0.gr (p + 1)) ∧ (b0 = none → (cyS j (cyS j c0 0) 1).nx.getD 0 default = c0.nx.getD 0 default) ∧
      (∀ p, b1 = some p → (cyS j (cyS j c0 0) 1).nx.getD 1 default = flF j 1 c0.gr (p + 1)) ∧ (b1 = none → (cyS j (cyS j c0 0) 1).nx.getD 1 default = c0.nx.getD 1 default) ∧
      ((∀ p, p < j.ph.length → (liO c0 p).lamp = 0) → (c0.nx.getD 0 default ≠ -1 ∨ c0.nx.getD 1 default ≠ -1) → b0 ≠ none ∨ b1 ≠ none) := by
  have C1 := cv_cy1 J C0 h0 (r := 0) (by omega)
  have C2 := cv_cy1 J C1.1 C1.2 (r := 1) (by omega)
  change CV j (cyS j c0 0) ∧ (cyS j c0 0).wt = 0 at C1
  change CV j (cyS j (cyS j c0 0) 1) ∧ _ at C2
  have set0 : ∀ (l : List Int) (f : Int), l.length = 2 → (l.set 0 f).getD 0 default = f ∧ (l.set 0 f).getD 1 default = l.getD 1 default ∧ (l.set 1 f).getD 0 default = l.getD 0 default ∧ (l.set 1 f).getD 1 default = f := fun l f hl => by
    match l, hl with
    | [a, b], _ => exact ⟨rfl, rfl, rfl, rfl⟩
  have m0 := C0.m
  have m1 := C1.1.m
  have s1 : cyS j c0 0 = c0 ∨ ∃ p, Bgn j c0 (cyS j c0 0) 0 p := cy_cases J C0 (r := 0) (by omega)
  have s2 : cyS j (cyS j c0 0) 1 = cyS j c0 0 ∨ ∃ p, Bgn j (cyS j c0 0) (cyS j (cyS j c0 0) 1) 1 p := cy_cases J C1.1 (r := 1) (by omega)
  have mu0 : (∀ p, p < j.ph.length → (liO c0 p).lamp = 0) → c0.nx.getD 0 default ≠ -1 → ∃ p, Bgn j c0 (cyS j c0 0) 0 p := fun ha hn => cy_must J C0 (r := 0) (by omega) ha hn
  have mu1 : (∀ p, p < j.ph.length → (liO (cyS j c0 0) p).lamp = 0) → (cyS j c0 0).nx.getD 1 default ≠ -1 → ∃ p, Bgn j (cyS j c0 0) (cyS j (cyS j c0 0) 1) 1 p := fun ha hn => cy_must J C1.1 (r := 1) (by omega) ha hn
  generalize cyS j (cyS j c0 0) 1 = c2 at *
  generalize cyS j c0 0 = c1 at *
  have notB : ∀ {a b : Ct} {r p : Nat}, Bgn j a b r p → b ≠ a := fun B e => by
    have := B.li
    rename_i a b r p
    have h := B.li p
    rw [if_pos rfl, e] at h
    have h2 := B.red
    rw [h] at h2
    exact absurd h2 (by decide)
  refine ⟨C2.1, ?_, ?_⟩
  · have e1 : c1.gr = c0.gr := by rcases s1 with h | ⟨p, h⟩; rw [h]; exact h.gr
    have e2 : c2.gr = c1.gr := by rcases s2 with h | ⟨p, h⟩; rw [h]; exact h.gr
    rw [e2, e1]
  rcases s1 with h1 | ⟨p1, h1⟩
  · subst h1
    rcases s2 with h2 | ⟨p2, h2⟩
    · subst h2
      refine ⟨none, none, fun p h => (nomatch h), fun p h => (nomatch h), fun q _ => by simp, fun p h => (nomatch h), fun _ => rfl, fun p h => (nomatch h), fun _ => rfl, fun ha hn => ?_⟩
      exfalso
      rcases hn with hn | hn
      · obtain ⟨p, B⟩ := mu0 ha hn
        exact notB B rfl
      · obtain ⟨p, B⟩ := mu1 ha hn
        exact notB B rfl
    · refine ⟨none, some p2, fun p h => (nomatch h), fun p h => ?_, fun q _ => ?_, fun p h => (nomatch h), fun _ => ?_, fun p h => ?_, fun h => (nomatch h), fun _ _ => .inr (by simp)⟩
      · injection h with h; subst h; exact ⟨h2.nx, h2.lt, h2.rg, h2.gp, h2.red⟩
      · rw [h2.li q]
        by_cases e : q = p2
        · subst e; simp
        · rw [if_neg e, if_neg (by simp [Ne.symm e, eq_comm, e])]
      · rw [h2.n1]; exact (set0 _ _ m0).2.2.1
      · injection h with h; subst h; rw [h2.n1]; exact (set0 _ _ m0).2.2.2
  · rcases s2 with h2 | ⟨p2, h2⟩
    · subst h2
      refine ⟨some p1, none, fun p h => ?_, fun p h => (nomatch h), fun q _ => ?_, fun p h => ?_, fun h => (nomatch h), fun p h => (nomatch h), fun _ => ?_, fun _ _ => .inl (by simp)⟩
      · injection h with h; subst h; exact ⟨h1.nx, h1.lt, h1.rg, h1.gp, h1.red⟩
      · rw [h1.li q]
        by_cases e : q = p1
        · subst e; simp
        · rw [if_neg e, if_neg (by simp [Ne.symm e, eq_comm, e])]
      · injection h with h; subst h; rw [h1.n1]; exact (set0 _ _ m0).1
      · rw [h1.n1]; exact (set0 _ _ m0).2.1
    · have hne : p2 ≠ p1 := fun e => by
        have a := h1.rg
        have b := h2.rg
        rw [e] at b
        omega
      refine ⟨some p1, some p2, fun p h => ?_, fun p h => ?_, fun q _ => ?_, fun p h => ?_, fun h => (nomatch h), fun p h => ?_, fun h => (nomatch h), fun _ _ => .inl (by simp)⟩
      · injection h with h; subst h; exact ⟨h1.nx, h1.lt, h1.rg, h1.gp, h1.red⟩
      · injection h with h
        subst h
        have a := h2.nx
        rw [h1.n1, (set0 _ _ m0).2.1] at a
        have b := h2.red
        rw [h1.li, if_neg hne] at b
        exact ⟨a, h2.lt, h2.rg, h2.gp.trans h1.gr, b⟩
      · rw [h2.li q]
        by_cases e : q = p2
        · subst e; simp
        · rw [if_neg e, h1.li q]
          by_cases e1 : q = p1
          · subst e1; simp
          · rw [if_neg e1, if_neg (by simp [Ne.symm e, Ne.symm e1, eq_comm, e, e1])]
      · injection h with h
        subst h
        rw [h2.n1, (set0 _ _ m1).2.2.1, h1.n1]
        exact (set0 _ _ m0).1
      · injection h with h
        subst h
        rw [h2.n1, (set0 _ _ m1).2.2.2, h1.gr]
        rfl
theorem ord_st {j : Jn} (J : JV j) {c : Ct} (C : CV j c) : OrS j c (stF j c (-1)) := by
  have hCx := cv_st J C (-1)
  by_cases hw : 0 < c.wt
  · have e : stF j c (-1) = ⟨c.li, c.gr, c.nx, c.wt - 1⟩ := by unfold stF; rw [if_pos hw]
    have hno : ∀ p, ¬ NG j c (stF j c (-1)) p := fun p h => by rw [e] at h; exact h.2 h.1
    refine ⟨fun p _ h => absurd h (hno p), fun p q _ _ h => absurd h (hno p), .inl (by rw [e]), fun _ _ p _ h => absurd h (hno p), fun p _ h => absurd h (hno p), fun _ _ r _ _ => by rw [e], fun h => absurd (by rw [e]) h⟩
  have h0 : c.wt = 0 := by have := C.w; omega
  have haim : aimF j (-1) = false := decide_eq_false (by omega)
  have L := cv_ls J C h0 (-1)
  have hls := fun p hp => ls_at (j := j) (c := c) (-1) c.gr c.nx c.wt p hp
  obtain ⟨cl, hcl⟩ : ∃ cl : Ct, cl = ⟨lsF j c (-1), c.gr, c.nx, c.wt⟩ := ⟨_, rfl⟩
  have hst : stF j c (-1) = cyS j (cyS j (if cyO cl = true then etF j cl ((cl.gr + 1) % grF j) else cl) 0) 1 := by
    unfold stF
    rw [if_neg hw, if_neg (by rw [haim]; decide), hcl]
    rfl
  rw [← hcl] at L hls
  have eg : cl.gr = c.gr := by rw [hcl]
  have en : cl.nx = c.nx := by rw [hcl]
  have ew : cl.wt = 0 := by rw [hcl]; exact h0
  have hgp := grF_pos J
  have CE : CV j (if cyO cl = true then etF j cl ((cl.gr + 1) % grF j) else cl) ∧ (if cyO cl = true then etF j cl ((cl.gr + 1) % grF j) else cl).wt = 0 := by
    split
    · exact ⟨cv_et L ⟨Int.emod_nonneg _ (by omega), Int.emod_lt_of_pos _ (by omega)⟩, ew⟩
    · exact ⟨L, ew⟩
  have el : ∀ p, liO (if cyO cl = true then etF j cl ((cl.gr + 1) % grF j) else cl) p = liO cl p := fun p => by split <;> rfl
  obtain ⟨C2, hgr, b0, b1, f0, f1, hli, n0, n0', n1, n1', must⟩ := ord_2 J CE.1 CE.2
  rw [← hst] at C2 hgr hli n0 n0' n1 n1'
  generalize hc0 : (if cyO cl = true then etF j cl ((cl.gr + 1) % grF j) else cl) = c0 at *
  generalize stF j c (-1) = x at *
  have ng : ∀ p, p < j.ph.length → (NG j c x p ↔ (b0 = some p ∨ b1 = some p)) := fun p hp => by
    unfold NG
    rw [hli p hp]
    by_cases h : b0 = some p ∨ b1 = some p
    · rw [if_pos h]
      have hr : (liO c0 p).lamp = 0 := by
        rcases h with h | h
        · exact (f0 p h).2.2.2.2
        · exact (f1 p h).2.2.2.2
      rw [el, hls p hp] at hr
      exact ⟨fun _ => h, fun _ => ⟨rfl, lp_red hr⟩⟩
    · rw [if_neg h, el, hls p hp]
      exact ⟨fun k => absurd (lp_green k.1) k.2, fun k => absurd k h⟩
  have hrg : ∀ p, p < j.ph.length → NG j c x p → (phO j p).group = c0.gr ∧ ((b0 = some p ∧ (phO j p).ring = 0) ∨ (b1 = some p ∧ (phO j p).ring = 1)) := fun p hp h => by
    rcases (ng p hp).1 h with h | h
    · exact ⟨(f0 p h).2.2.2.1, .inl ⟨h, (f0 p h).2.2.1⟩⟩
    · exact ⟨(f1 p h).2.2.2.1, .inr ⟨h, (f1 p h).2.2.1⟩⟩
  have hent : cyO cl = true → (c0.gr = (c.gr + 1) % grF j ∧ (∀ r : Nat, r < 2 → c0.nx.getD r default = -1 ∨ 0 ≤ c0.nx.getD r default) ∧ ∃ p, p < j.ph.length ∧ NG j c x p) := fun ho => by
    rw [if_pos ho] at hc0
    have hm : 0 ≤ (cl.gr + 1) % grF j ∧ (cl.gr + 1) % grF j < grF j := ⟨Int.emod_nonneg _ (by omega), Int.emod_lt_of_pos _ (by omega)⟩
    refine ⟨by rw [← hc0, ← eg]; rfl, fun r hr => ?_, ?_⟩
    · rcases CE.1.v r hr with h | h
      · exact .inl h
      · exact .inr h.1
    · have hred : ∀ p, p < j.ph.length → (liO c0 p).lamp = 0 := fun p hp => by
        rw [el]
        unfold cyO at ho
        rw [Bool.and_eq_true] at ho
        have h1 := ho.1
        unfold arF at h1
        rw [List.all_eq_true] at h1
        have h2 := h1 (liO cl p) (by
          have := L.n
          simp [liO, List.getD, show p < cl.li.length by omega])
        simpa using h2
      obtain ⟨q, hq, hqg⟩ := gr_has J hm.1 hm.2
      have hq0 := fl_some hq
      have hqr := J.rg q hq
      have hnx : c0.nx = [flF j 0 ((cl.gr + 1) % grF j) 0, flF j 1 ((cl.gr + 1) % grF j) 0] := by rw [← hc0]; rfl
      rw [hqg] at hq0
      have : (phO j q).ring = 0 ∨ (phO j q).ring = 1 := by omega
      have hb : b0 ≠ none ∨ b1 ≠ none := by
        refine must hred ?_
        rcases this with h | h
        · rw [h] at hq0; left; rw [hnx]; exact hq0
        · rw [h] at hq0; right; rw [hnx]; exact hq0
      rcases hb with hb | hb
      · obtain ⟨p, hp⟩ := Option.ne_none_iff_exists'.1 hb
        exact ⟨p, (f0 p hp).2.1, (ng p (f0 p hp).2.1).2 (.inl hp)⟩
      · obtain ⟨p, hp⟩ := Option.ne_none_iff_exists'.1 hb
        exact ⟨p, (f1 p hp).2.1, (ng p (f1 p hp).2.1).2 (.inr hp)⟩
  have hnot : cyO cl = false → c0.gr = c.gr ∧ c0.nx = c.nx := fun ho => by
    rw [ho, if_neg (by decide)] at hc0
    exact ⟨by rw [← hc0, eg], by rw [← hc0, en]⟩
  have hsame : x.gr = c.gr → grF j ≠ 1 → c0.nx = c.nx := fun h1 h2 => by
    cases ho : cyO cl with
    | false => exact (hnot ho).2
    | true =>
      exfalso
      have h3 := (hent ho).1
      rw [← hgr, h1] at h3
      have hg := C.g
      by_cases h4 : c.gr + 1 < grF j
      · rw [Int.emod_eq_of_lt (by omega) h4] at h3; omega
      · rw [show c.gr + 1 = grF j by omega, Int.emod_self] at h3; omega
  refine ⟨fun p hp h => by rw [(hrg p hp h).1, hgr], fun p q hp hq h1 h2 hr => ?_, ?_, fun h1 h2 p hp h => ?_, fun p hp h => ?_, fun h1 h2 r hr hno => ?_, fun h1 r hr => ?_⟩
  · rcases (hrg p hp h1).2 with ⟨a, b⟩ | ⟨a, b⟩ <;> rcases (hrg q hq h2).2 with ⟨d, e⟩ | ⟨d, e⟩
    · rw [a] at d; injection d
    · omega
    · omega
    · rw [a] at d; injection d
  · rw [hgr]
    cases ho : cyO cl with
    | false => exact .inl (hnot ho).1
    | true => exact .inr ⟨(hent ho).1, (hent ho).2.2⟩
  · have e := hsame h1 h2
    rcases (hrg p hp h).2 with ⟨a, b⟩ | ⟨a, b⟩
    · rw [b, ← e]; exact (f0 p a).1
    · rw [b, ← e]; exact (f1 p a).1
  · rcases (hrg p hp h).2 with ⟨a, b⟩ | ⟨a, b⟩
    · rw [b]
      show x.nx.getD 0 default = -1 ∨ _ < x.nx.getD 0 default
      rw [n0 p a]
      rcases flF_spec j 0 c0.gr (p + 1) with h | h
      · exact .inl h
      · exact .inr (by have := h.2; omega)
    · rw [b]
      show x.nx.getD 1 default = -1 ∨ _ < x.nx.getD 1 default
      rw [n1 p a]
      rcases flF_spec j 1 c0.gr (p + 1) with h | h
      · exact .inl h
      · exact .inr (by have := h.2; omega)
  · have e := hsame h1 h2
    rw [← e]
    have : r = 0 ∨ r = 1 := by omega
    rcases this with rfl | rfl
    · refine n0' ?_
      cases hb : b0 with
      | none => rfl
      | some p => exact absurd (f0 p hb).2.2.1 (hno p (f0 p hb).2.1 ((ng p (f0 p hb).2.1).2 (.inl hb)))
    · refine n1' ?_
      cases hb : b1 with
      | none => rfl
      | some p => exact absurd (f1 p hb).2.2.1 (hno p (f1 p hb).2.1 ((ng p (f1 p hb).2.1).2 (.inr hb)))
  · rcases hCx.v r hr with h | h
    · exact .inl h
    · exact .inr h.1
/-! ### What the statement keeps -/
def ngB (c x : Ct) (p : Nat) : Bool := (liO x p).lamp == 1 && !((liO c p).lamp == 1)
theorem ngB_iff {j : Jn} {c x : Ct} {p : Nat} : ngB c x p = true ↔ NG j c x p := by
  unfold ngB NG
  rw [Bool.and_eq_true, Bool.not_eq_true', beq_iff_eq, beq_eq_false_iff_ne]
/-- Group and last phases of the rings, when the phases ahead of i have been looked at. -/
def orP (j : Jn) (c x : Ct) (s : Int × Int × Int) (p : Nat) : Int × Int × Int :=
  if ngB c x p = true then
    let l := if (phO j p).group ≠ s.1 then (-1, -1) else s.2
    ((phO j p).group, if (phO j p).ring = 0 then (p, l.2) else (l.1, p))
  else s
def orN (j : Jn) (c x : Ct) (s : Int × Int × Int) : Nat → Int × Int × Int
  | 0 => s
  | i + 1 => orP j c x (orN j c x s i) i
def lastO (s : Int × Int × Int) (r : Int) : Int := if r = 0 then s.2.1 else s.2.2
structure OrI (j : Jn) (c : Ct) (s : Int × Int × Int) : Prop where
  g : s.1 = c.gr
  l : grF j ≠ 1 → ∀ r : Nat, r < 2 → c.nx.getD r default = -1 ∨ lastO s r < c.nx.getD r default
theorem orN_spec {j : Jn} (J : JV j) {c x : Ct} (O : OrS j c x) {s : Int × Int × Int} (I : OrI j c s) : ∀ i, i ≤ j.ph.length →
    ((∀ p, p < i → ¬ NG j c x p) ∧ orN j c x s i = s) ∨
    ((∃ p, p < i ∧ NG j c x p) ∧ (orN j c x s i).1 = x.gr ∧ ∀ r : Nat, r < 2 →
      (∃ p, p < i ∧ NG j c x p ∧ (phO j p).ring = r ∧ lastO (orN j c x s i) r = p) ∨
      ((∀ p, p < i → NG j c x p → (phO j p).ring ≠ r) ∧ lastO (orN j c x s i) r = if x.gr ≠ c.gr then -1 else lastO s r))
  | 0, _ => .inl ⟨fun p h => absurd h (Nat.not_lt_zero _), rfl⟩
  | i + 1, hi => by
    have ih := orN_spec J O I i (by omega)
    have e : orN j c x s (i + 1) = orP j c x (orN j c x s i) i := rfl
    rw [e]
    by_cases hn : ngB c x i = true
    case neg =>
      have e2 : orP j c x (orN j c x s i) i = orN j c x s i := by unfold orP; rw [if_neg hn]
      have hn2 : ¬ NG j c x i := fun h => hn (ngB_iff.2 h)
      have ext : ∀ {P : Nat → Prop}, (∀ p, p < i → NG j c x p → P p) → ∀ p, p < i + 1 → NG j c x p → P p := fun h p hp h2 => by
        by_cases hpi : p = i
        · subst hpi; exact absurd h2 hn2
        · exact h p (by omega) h2
      rw [e2]
      rcases ih with ⟨h1, h2⟩ | ⟨⟨p, hp, hp2⟩, h2, h3⟩
      · exact .inl ⟨fun p hp h => ext (P := fun _ => False) h1 p hp h, h2⟩
      · refine .inr ⟨⟨p, by omega, hp2⟩, h2, fun r hr => ?_⟩
        rcases h3 r hr with ⟨q, a, b, d, f⟩ | ⟨a, b⟩
        · exact .inl ⟨q, by omega, b, d, f⟩
        · exact .inr ⟨ext a, b⟩
    case pos =>
      have hN := (ngB_iff (j := j)).1 hn
      have hg := O.gp i (by omega) hN
      have hr := J.rg i (by omega)
      have key : ∀ r : Nat, r < 2 → (phO j i).ring ≠ r → lastO (orP j c x (orN j c x s i) i) r = if (phO j i).group ≠ (orN j c x s i).1 then -1 else lastO (orN j c x s i) r := fun r hr2 hne => by
        unfold orP lastO
        rw [if_pos hn]
        dsimp only
        by_cases h0 : (phO j i).ring = 0
        · have hr1 : r = 1 := by omega
          subst hr1
          rw [if_pos h0]
          by_cases hgg : (phO j i).group = (orN j c x s i).1 <;> simp [hgg]
        · have hr0 : r = 0 := by omega
          subst hr0
          rw [if_neg h0]
          by_cases hgg : (phO j i).group = (orN j c x s i).1 <;> simp [hgg]
      have key2 : lastO (orP j c x (orN j c x s i) i) (phO j i).ring = i := by
        unfold orP lastO
        rw [if_pos hn]
        dsimp only
        by_cases h0 : (phO j i).ring = 0
        · rw [if_pos h0, if_pos h0]
        · rw [if_neg h0, if_neg h0]
      have k1 : (orP j c x (orN j c x s i) i).1 = x.gr := by
        unfold orP
        rw [if_pos hn]
        exact hg
      right
      refine ⟨⟨i, by omega, hN⟩, k1, fun r hr2 => ?_⟩
      by_cases hri : (phO j i).ring = r
      · left
        exact ⟨i, by omega, hN, hri, by rw [← hri]; exact key2⟩
      rw [key r hr2 hri]
      rcases ih with ⟨h1, h2⟩ | ⟨_, h2, h3⟩
      · right
        refine ⟨fun p hp h => ?_, ?_⟩
        · by_cases hpi : p = i
          · subst hpi; exact hri
          · exact absurd h (h1 p (by omega))
        · rw [h2, hg, I.g]
      · rw [h2, hg, if_neg (by simp)]
        rcases h3 r hr2 with ⟨q, a, b, d, f⟩ | ⟨a, b⟩
        · exact .inl ⟨q, by omega, b, d, f⟩
        · refine .inr ⟨fun p hp h => ?_, b⟩
          by_cases hpi : p = i
          · subst hpi; exact hri
          · exact a p (by omega) h
/-- What the statement asks of each phase that begins. -/
theorem orN_ok {j : Jn} (J : JV j) {c x : Ct} (O : OrS j c x) {s : Int × Int × Int} (I : OrI j c s) (i : Nat) (hi : i < j.ph.length) (hn : ngB c x i = true) :
    ((phO j i).group ≠ (orN j c x s i).1 → (phO j i).group = ((orN j c x s i).1 + 1) % grF j) ∧ ((phO j i).group = (orN j c x s i).1 → grF j ≠ 1 → lastO (orN j c x s i) (phO j i).ring < i) := by
  have hN := (ngB_iff (j := j)).1 hn
  have hg := O.gp i (by omega) hN
  have hr := J.rg i (by omega)
  have hs := orN_spec J O I i (by omega)
  refine ⟨fun h => ?_, fun h h1 => ?_⟩
  · rw [hg] at h ⊢
    rcases hs with ⟨_, h2⟩ | ⟨_, h2, _⟩
    · rw [h2, I.g] at h ⊢
      rcases O.go with h3 | h3
      · exact absurd h3 h
      · exact h3.1
    · exact absurd h2.symm h
  · rw [hg] at h
    obtain ⟨r, hrr⟩ : ∃ r : Nat, (phO j i).ring = r := ⟨(phO j i).ring.toNat, by omega⟩
    have hsame : x.gr = c.gr → lastO s r < i := fun hx => by
      have h3 := O.st hx h1 i hi hN
      rw [hrr, Int.toNat_natCast] at h3
      rcases I.l h1 r (by omega) with h4 | h4
      · omega
      · omega
    rw [hrr]
    rcases hs with ⟨_, h2⟩ | ⟨_, h2, h3⟩
    · rw [h2] at h ⊢
      exact hsame (h.trans I.g)
    · rcases h3 r (by omega) with ⟨q, a, b, d, f⟩ | ⟨a, b⟩
      · have := O.un q i (by omega) hi b hN (d.trans hrr.symm)
        omega
      · rw [b]
        split
        · omega
        · rename_i hx
          exact hsame (Classical.byContradiction hx)
/-- It is kept. -/
theorem orN_I {j : Jn} (J : JV j) {c x : Ct} (O : OrS j c x) {s : Int × Int × Int} (I : OrI j c s) : OrI j x (orN j c x s j.ph.length) := by
  have hs := orN_spec J O I j.ph.length (Nat.le_refl _)
  rcases hs with ⟨h1, h2⟩ | ⟨⟨p, hp, hN⟩, h2, h3⟩
  · have hx : x.gr = c.gr := by
      rcases O.go with h | ⟨_, p, hp, hN⟩
      · exact h
      · exact absurd hN (h1 p hp)
    rw [h2]
    refine ⟨by rw [hx]; exact I.g, fun hg r hr => ?_⟩
    rw [O.n0 hx hg r hr (fun p hp h => absurd h (h1 p hp))]
    exact I.l hg r hr
  · refine ⟨h2, fun hg r hr => ?_⟩
    rcases h3 r hr with ⟨q, a, b, d, f⟩ | ⟨a, b⟩
    · rw [f]
      have := O.n1 q a b
      rw [d, Int.toNat_natCast] at this
      exact this
    · rw [b]
      split
      · rename_i hx
        rcases O.ng hx r hr with h | h
        · exact .inl h
        · exact .inr (by omega)
      · rename_i hx
        have hx := Classical.byContradiction hx
        rw [O.n0 hx hg r hr a]
        exact I.l hg r hr
end Av
end Go.Proofs.Ythmnhefaeknppaa
