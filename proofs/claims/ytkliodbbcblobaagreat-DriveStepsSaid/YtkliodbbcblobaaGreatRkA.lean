
/- Rings: every target is reached; plain Lean. -/
import Derived.Test.YtkliodbbcblobaaGreatRiM
import Derived.Test.YtkliodbbcblobaaGreatRiN
namespace Go.Proofs.YtkliodbbcblobaaGreat
namespace Av
set_option linter.unusedSimpArgs false
set_option linter.unusedVariables false
set_option maxRecDepth 4000
set_option maxHeartbeats 1000000
/-- How long until a light is red, if it may leave. -/
def tauF (p : Ph) (l : Li) : Int :=
  if l.lamp = 1 then max 1 (lnF p - l.tk) + p.yel + p.red else if l.lamp = 2 then p.yel - l.tk + p.red else if l.lamp = 3 then p.red - l.tk else 0
theorem tau_red {p : Ph} {l : Li} (h : l.lamp = 0) : tauF p l = 0 := by unfold tauF; rw [if_neg (by omega), if_neg (by omega), if_neg (by omega)]
theorem tau_0 {p : Ph} {l : Li} (hv : lvF p l = true) (hy : 1 ≤ p.yel) (hr : 0 ≤ p.red) (h : tauF p l ≤ 0) : l.lamp = 0 := by
  unfold lvF at hv
  unfold tauF at h
  by_cases h0 : l.lamp = 0
  · exact h0
  rw [if_neg h0] at hv
  by_cases h1 : l.lamp = 1
  · rw [if_pos h1] at h hv
    omega
  rw [if_neg h1] at h hv
  by_cases h2 : l.lamp = 2
  · rw [if_pos h2] at h hv
    rw [decide_eq_true_eq] at hv
    omega
  rw [if_neg h2] at h hv
  by_cases h3 : l.lamp = 3
  · rw [if_pos h3] at h hv
    rw [decide_eq_true_eq] at hv
    omega
  rw [if_neg h3] at hv
  cases hv
theorem tau_le {p : Ph} {l : Li} (hv : lvF p l = true) (hy : 1 ≤ p.yel) (hr : 0 ≤ p.red) (hln : 1 ≤ lnF p) : tauF p l ≤ lnF p + p.yel + p.red := by
  unfold lvF at hv
  unfold tauF
  by_cases h1 : l.lamp = 1
  · rw [if_pos h1]
    rw [if_neg (by omega), if_pos h1, decide_eq_true_eq] at hv
    omega
  rw [if_neg h1]
  by_cases h2 : l.lamp = 2
  · rw [if_pos h2]
    rw [if_neg (by omega), if_neg h1, if_pos h2, decide_eq_true_eq] at hv
    omega
  rw [if_neg h2]
  by_cases h3 : l.lamp = 3
  · rw [if_pos h3]
    rw [if_neg (by omega), if_neg h1, if_neg h2, if_pos h3, decide_eq_true_eq] at hv
    omega
  rw [if_neg h3]
  omega
theorem tau_step {p : Ph} {l : Li} {lv : Bool} (hv : lvF p l = true) (hy : 1 ≤ p.yel) (hr : 0 ≤ p.red) (hln : lnF p ≤ 1000) (hlv : l.lamp = 1 → lv = true) : tauF p (lpF p l lv) ≤ max 0 (tauF p l - 1) := by
  unfold lvF at hv
  unfold lpF
  by_cases h1 : l.lamp = 1
  · rw [if_pos h1, hlv h1]
    rw [if_neg (by omega), if_pos h1, decide_eq_true_eq] at hv
    have e : tauF p l = max 1 (lnF p - l.tk) + p.yel + p.red := by unfold tauF; rw [if_pos h1]
    rw [e]
    split
    · rename_i h
      have e2 : tauF p ⟨2, 0⟩ = p.yel - 0 + p.red := rfl
      rw [e2]; omega
    · rename_i h
      have e2 : tauF p ⟨1, min (l.tk + 1) 1073741824⟩ = max 1 (lnF p - min (l.tk + 1) 1073741824) + p.yel + p.red := rfl
      rw [e2]
      have : ¬ lnF p ≤ l.tk + 1 := fun k => h ⟨rfl, k⟩
      omega
  by_cases h2 : l.lamp = 2
  · rw [if_neg h1, if_pos h2]
    rw [if_neg (by omega), if_neg h1, if_pos h2, decide_eq_true_eq] at hv
    have e : tauF p l = p.yel - l.tk + p.red := by unfold tauF; rw [if_neg h1, if_pos h2]
    rw [e]
    split
    · have e2 : tauF p ⟨2, l.tk + 1⟩ = p.yel - (l.tk + 1) + p.red := rfl
      rw [e2]; omega
    · split
      · rw [tau_red rfl]; omega
      · have e2 : tauF p ⟨3, 0⟩ = p.red - 0 := rfl
        rw [e2]; omega
  by_cases h3 : l.lamp = 3
  · rw [if_neg h1, if_neg h2, if_pos h3]
    rw [if_neg (by omega), if_neg h1, if_neg h2, if_pos h3, decide_eq_true_eq] at hv
    have e : tauF p l = p.red - l.tk := by unfold tauF; rw [if_neg h1, if_neg h2, if_pos h3]
    rw [e]
    split
    · have e2 : tauF p ⟨3, l.tk + 1⟩ = p.red - (l.tk + 1) := rfl
      rw [e2]; omega
    · rw [tau_red rfl]; omega
  · rw [if_neg h1, if_neg h2, if_neg h3]
    unfold tauF
    rw [if_neg h1, if_neg h2, if_neg h3]
    omega
/-! ### A step with a target -/
theorem sv_li {j : Jn} {c : Ct} (C : CV j c) {t : Nat} (ht : t < j.ph.length) (r : Int) (p : Nat) : liO (svS j t c r) p = liO c p ∨ (liO (svS j t c r) p = ⟨1, 0⟩ ∧ (p = t ∨ cfP j.cf p t = false)) := by
  unfold svS
  split
  · split
    · exact .inl rfl
    · rename_i h
      unfold svP at h ⊢
      split at h
      · rename_i hr
        rw [if_pos hr, Int.toNat_natCast]
        rcases bgF_li C.n ht p with h2 | ⟨h1, h2⟩
        · exact .inl h2
        · exact .inr ⟨h2, .inl h1⟩
      · rename_i hr
        rw [if_neg hr]
        rcases cmF_spec j (c.nx.getD r.toNat default) r t with h1 | ⟨q, h1, h2, _, h4⟩
        · exact absurd h1 h
        · rw [h1, Int.toNat_natCast]
          rcases bgF_li C.n h2 p with h3 | ⟨h3, h5⟩
          · exact .inl h3
          · subst h3; exact .inr ⟨h5, .inr h4⟩
  · exact .inl rfl
theorem sv_rel {j : Jn} {c : Ct} (C : CV j c) {t : Nat} (ht : t < j.ph.length) (r : Int) (p : Nat) (hp : p ≠ t) (hc : cfP j.cf p t = true) : liO (svS j t c r) p = liO c p := by
  rcases sv_li C ht r p with h | ⟨_, h | h⟩
  · exact h
  · exact absurd h hp
  · rw [hc] at h; cases h
theorem sv_go {j : Jn} (J : JV j) {c : Ct} (C : CV j c) {t : Nat} (ht : t < j.ph.length) (hr : ∀ p, p < j.ph.length → (p = t ∨ cfP j.cf p t = true) → (liO c p).lamp = 0) : liO (svS j t c (phO j t).ring) t = ⟨1, 0⟩ := by
  have hd : dkF j c (phO j t).ring = true := by
    unfold dkF
    rw [List.all_eq_true]
    intro p hp
    obtain ⟨hp1, hp2⟩ := rpF_mem.1 hp
    rw [beq_iff_eq]
    refine hr p hp1 ?_
    by_cases e : p = t
    · exact .inl e
    · exact .inr (J.ap p t hp1 ht e (.inl hp2))
  have hk : kpF j c t = false := by
    unfold kpF
    rw [List.any_eq_false]
    intro q hq
    have hq := List.mem_range.1 hq
    rw [C.n] at hq
    rw [Bool.not_eq_true, Bool.and_eq_false_iff]
    cases hc : cfP j.cf t q with
    | false => exact .inr rfl
    | true =>
      rw [J.sy t q ht hq] at hc
      left
      rw [hr q hq (.inr hc)]; rfl
  unfold svS svP
  rw [if_pos hd, if_pos rfl, if_neg (by omega), Int.toNat_natCast]
  have h := bgF_li C.n ht t
  unfold bgF
  rw [if_neg (by rw [hk]; decide)]
  have h2 : (b2F j c t).li = c.li.set t ⟨1, 0⟩ := by unfold b2F; split <;> rfl
  unfold liO
  dsimp only
  rw [h2]
  have := liO_set c t t ⟨1, 0⟩ 0 [] 0 (by rw [C.n]; exact ht)
  rw [if_pos rfl] at this
  exact this
/-- A target that is green stays green. -/
theorem st_stay {j : Jn} (J : JV j) {c : Ct} (C : CV j c) {t : Nat} (ht : t < j.ph.length) (hg : (liO c t).lamp = 1) : (liO (stF j c t) t).lamp = 1 := by
  rcases st_li J C t t ht with ⟨h, h0⟩ | h | ⟨_, h⟩
  · omega
  · rw [h]
    unfold lvS lpF aimF
    rw [if_pos hg, decide_eq_true (show 0 ≤ (t : Int) ∧ (t : Int) < j.ph.length by omega), if_pos rfl, decide_eq_false (by simp)]
    simp
  · rw [h]
theorem st_near {j : Jn} (J : JV j) {c : Ct} (C : CV j c) {t : Nat} (ht : t < j.ph.length) (h0 : c.wt = 0) (hg : (liO c t).lamp ≠ 1) (k : Nat) (hk : ∀ p, p < j.ph.length → (p = t ∨ cfP j.cf p t = true) → tauF (phO j p) (liO c p) ≤ k + 1) :
    (liO (stF j c t) t).lamp = 1 ∨ (1 ≤ k ∧ (stF j c t).wt = 0 ∧ ∀ p, p < j.ph.length → (p = t ∨ cfP j.cf p t = true) → tauF (phO j p) (liO (stF j c t) p) ≤ k) := by
  have L := cv_ls J C h0 t
  have haim : aimF j t = true := decide_eq_true (by omega)
  have hst : stF j c t = svS j t (svS j t ⟨lsF j c t, c.gr, c.nx, c.wt⟩ 0) 1 := by
    unfold stF
    rw [if_neg (by omega), if_pos haim, Int.toNat_natCast]
  rw [hst]
  have hl : ∀ p, p < j.ph.length → (p = t ∨ cfP j.cf p t = true) → tauF (phO j p) (liO ⟨lsF j c t, c.gr, c.nx, c.wt⟩ p) ≤ k := fun p hp h => by
    rw [ls_at _ _ _ _ _ hp]
    have hti := J.ti p hp
    have hln : lnF (phO j p) ≤ 1000 := by unfold lnF; omega
    have h1 := tau_step (lv := lvS j c t p) (C.k p hp) (by omega) (by omega) hln (fun h1 => by
      unfold lvS
      rw [if_pos haim]
      rcases h with h | h
      · subst h; exact absurd h1 hg
      · rw [h]
        have : p ≠ t := fun e => by subst e; rw [J.ir p hp] at h; cases h
        rw [decide_eq_true (show (p : Int) ≠ t by omega)]
        simp)
    have := hk p hp h
    omega
  have hLw : (⟨lsF j c t, c.gr, c.nx, c.wt⟩ : Ct).wt = 0 := h0
  generalize (⟨lsF j c t, c.gr, c.nx, c.wt⟩ : Ct) = cl at *
  have C1 := cv_sv J L hLw ht 0
  have C2 := cv_sv J C1.1 C1.2 ht 1
  by_cases hg2 : (liO (svS j t (svS j t cl 0) 1) t).lamp = 1
  · exact .inl hg2
  right
  have e2 : liO (svS j t (svS j t cl 0) 1) t = liO (svS j t cl 0) t := by
    rcases sv_li C1.1 ht 1 t with h | ⟨h, _⟩
    · exact h
    · rw [h] at hg2; exact absurd rfl hg2
  have e1 : liO (svS j t cl 0) t = liO cl t := by
    rcases sv_li L ht 0 t with h | ⟨h, _⟩
    · exact h
    · rw [e2, h] at hg2; exact absurd rfl hg2
  have hne : ∀ p, p < j.ph.length → cfP j.cf p t = true → p ≠ t := fun p hp h e => by subst e; rw [J.ir p hp] at h; cases h
  have hsame1 : ∀ p, p < j.ph.length → (p = t ∨ cfP j.cf p t = true) → liO (svS j t cl 0) p = liO cl p := fun p hp h => by
    rcases h with rfl | h
    · exact e1
    · exact sv_rel L ht 0 p (hne p hp h) h
  have hsame2 : ∀ p, p < j.ph.length → (p = t ∨ cfP j.cf p t = true) → liO (svS j t (svS j t cl 0) 1) p = liO cl p := fun p hp h => by
    rw [← hsame1 p hp h]
    rcases h with rfl | h
    · exact e2
    · exact sv_rel C1.1 ht 1 p (hne p hp h) h
  refine ⟨?_, C2.2, fun p hp h => by rw [hsame2 p hp h]; exact hl p hp h⟩
  refine Classical.byContradiction fun hk0 => ?_
  have hred : ∀ p, p < j.ph.length → (p = t ∨ cfP j.cf p t = true) → (liO cl p).lamp = 0 := fun p hp h => by
    have hti := J.ti p hp
    exact tau_0 (L.k p hp) (by omega) (by omega) (by have := hl p hp h; omega)
  have hrg := J.rg t ht
  have : (phO j t).ring = 0 ∨ (phO j t).ring = 1 := by omega
  rcases this with h | h
  · have := sv_go J L ht hred
    rw [h, e1] at this
    rw [e2, e1, this] at hg2
    exact hg2 rfl
  · have := sv_go J C1.1 ht (fun p hp h => by rw [hsame1 p hp h]; exact hred p hp h)
    rw [h] at this
    rw [this] at hg2
    exact hg2 rfl
/-! ### Some steps with a target -/
theorem stI_front (j : Jn) (c : Ct) (t : Int) : ∀ k, stI j (stF j c t) t k = stI j c t (k + 1)
  | 0 => rfl
  | k + 1 => by
    show stF j (stI j (stF j c t) t k) t = stF j (stI j c t (k + 1)) t
    rw [stI_front j c t k]
theorem reach_k {j : Jn} (J : JV j) {t : Nat} (ht : t < j.ph.length) : ∀ (k : Nat) (c : Ct), CV j c → c.wt = 0 → (∀ p, p < j.ph.length → (p = t ∨ cfP j.cf p t = true) → tauF (phO j p) (liO c p) ≤ k + 1) → ∃ n, n ≤ k + 1 ∧ (liO (stI j c t n) t).lamp = 1
  | k, c, C, h0, hk => by
    by_cases hg : (liO c t).lamp = 1
    · exact ⟨0, by omega, hg⟩
    rcases st_near J C ht h0 hg k hk with h | ⟨h1, h2, h3⟩
    · exact ⟨1, by omega, h⟩
    · match k, h1, h3 with
      | k' + 1, _, h3 =>
        obtain ⟨n, hn, hn2⟩ := reach_k J ht k' (stF j c t) (cv_st J C t) h2 (fun p hp h => by have := h3 p hp h; omega)
        exact ⟨n + 1, by omega, by rw [← stI_front]; exact hn2⟩
/-- The longest transition of a junction. -/
def trN (ps : List Ph) : Nat → Int
  | 0 => 0
  | i + 1 => max (trN ps i) (lnF (ps.getD i default) + (ps.getD i default).yel + (ps.getD i default).red)
def trF (j : Jn) : Int := j.st + trN j.ph j.ph.length
theorem trN_le (ps : List Ph) (n : Nat) : ∀ i, i < n → lnF (ps.getD i default) + (ps.getD i default).yel + (ps.getD i default).red ≤ trN ps n := by
  induction n with
  | zero => intro i h; exact absurd h (Nat.not_lt_zero _)
  | succ n ih =>
    intro i h
    unfold trN
    by_cases e : i = n
    · subst e; omega
    · have := ih i (by omega); omega
theorem trF_pos {j : Jn} (J : JV j) : j.st + 2 ≤ trF j := by
  have h := trN_le j.ph j.ph.length 0 (by have := J.n; omega)
  have h2 := J.ti 0 (by have := J.n; omega)
  unfold trF
  unfold phO at h2
  unfold lnF at h
  omega
theorem wait_k {j : Jn} {t : Int} : ∀ (k : Nat) (c : Ct), c.wt = k → stI j c t k = ⟨c.li, c.gr, c.nx, 0⟩
  | 0, c, h => by
    show c = _
    obtain ⟨a, b, d, e⟩ := c
    dsimp only at h ⊢
    rw [h]; rfl
  | k + 1, c, h => by
    rw [← stI_front]
    have e : stF j c t = ⟨c.li, c.gr, c.nx, c.wt - 1⟩ := by unfold stF; rw [if_pos (by omega)]
    rw [e, wait_k k _ (by dsimp only; omega)]
theorem stI_add (j : Jn) (c : Ct) (t : Int) (a : Nat) : ∀ b, stI j (stI j c t a) t b = stI j c t (a + b)
  | 0 => rfl
  | b + 1 => by
    show stF j (stI j (stI j c t a) t b) t = stF j (stI j c t (a + b)) t
    rw [stI_add j c t a b]
/-- Every target is reached within the longest transition. -/
theorem reach {j : Jn} (J : JV j) {c : Ct} (C : CV j c) {t : Nat} (ht : t < j.ph.length) : ∃ n : Nat, (n : Int) ≤ trF j ∧ (liO (stI j c t n) t).lamp = 1 := by
  have htr := trF_pos J
  have hst := J.st
  have hw := C.w
  by_cases h0 : c.wt = 0
  · have htl : ∀ p, p < j.ph.length → tauF (phO j p) (liO c p) ≤ trN j.ph j.ph.length := fun p hp => by
      have hti := J.ti p hp
      have h1 := tau_le (C.k p hp) (by omega) (by omega) (by unfold lnF; omega)
      have h2 := trN_le j.ph j.ph.length p hp
      unfold phO at *
      omega
    have h3 : 2 ≤ trN j.ph j.ph.length := by unfold trF at htr; omega
    obtain ⟨k, hk⟩ : ∃ k : Nat, trN j.ph j.ph.length = k + 1 := ⟨(trN j.ph j.ph.length).toNat - 1, by omega⟩
    obtain ⟨n, hn, hn2⟩ := reach_k J ht k c C h0 (fun p hp _ => by have := htl p hp; omega)
    exact ⟨n, by unfold trF; omega, hn2⟩
  · have hz : ∀ p, p < j.ph.length → (liO c p).lamp = 0 := by rcases C.z with h | h; exact absurd h h0; exact h
    obtain ⟨w, hw2⟩ : ∃ w : Nat, c.wt = w := ⟨c.wt.toNat, by omega⟩
    have e := wait_k (j := j) (t := t) w c hw2
    have C1 := stI_v J C (t : Int) w
    rw [e] at C1
    obtain ⟨n, hn, hn2⟩ := reach_k J ht 0 ⟨c.li, c.gr, c.nx, 0⟩ C1 rfl (fun p hp _ => by
      have : (liO ⟨c.li, c.gr, c.nx, 0⟩ p).lamp = 0 := hz p hp
      rw [tau_red this]; omega)
    rw [← e, stI_add] at hn2
    exact ⟨w + n, by omega, hn2⟩
theorem stay_k {j : Jn} (J : JV j) {c : Ct} (C : CV j c) {t : Nat} (ht : t < j.ph.length) (hg : (liO c t).lamp = 1) : ∀ k, (liO (stI j c t k) t).lamp = 1
  | 0 => hg
  | k + 1 => st_stay J (stI_v J C t k) ht (stay_k J C ht hg k)
/-- After the longest transition the target is green, and stays so. -/
theorem reach_all {j : Jn} (J : JV j) {c : Ct} (C : CV j c) {t : Nat} (ht : t < j.ph.length) (k : Nat) (hk : trF j ≤ k) : (liO (stI j c t k) t).lamp = 1 := by
  obtain ⟨n, hn, hn2⟩ := reach J C ht
  obtain ⟨m, rfl⟩ : ∃ m, k = n + m := ⟨k - n, by omega⟩
  rw [← stI_add]
  exact stay_k J (stI_v J C t n) ht hn2 m
/-! ### The junctions of a deck are quick -/
theorem phF_s (d : Dk) (s : Int × Int) : lnF (phF d s) + (phF d s).yel + (phF d s).red ≤ 8 ∧ (phF d s).maxg ≤ 7 ∧ lnF (phF d s) ≤ (phF d s).maxg ∧ (phF d s).yel ≤ 2 ∧ (phF d s).red ≤ 2 := by
  have b1 := nx_bd d (3 - 1 + 1) (by omega)
  have b2 := nx_bd (ad d) (2 - 1 + 1) (by omega)
  have b3 := nx_bd (ad (ad d)) 3 (by omega)
  have b4 := nx_bd (ad (ad (ad (ad d)))) (2 - 1 + 1) (by omega)
  have b5 := nx_bd (ad (ad (ad (ad (ad d))))) (2 - 1 + 1) (by omega)
  have b6 := nx_bd (ad (ad (ad (ad (ad (ad d)))))) 4 (by omega)
  have b7 := nx_bd (ad (ad (ad (ad d)))) 4 (by omega)
  unfold lnF phF
  split
  · dsimp only
    omega
  · dsimp only
    omega
theorem jn_at (d : Dk) (k : Nat) (hk : k < (jnF d).ph.length) : ∃ e, phO (jnF d) k = phF e ((shapesF (nx d 6)).getD k default) := by
  have hlen : (jnP d).1.length = (shapesF (nx d 6)).length := phL_len _ _ _
  change k < (jnP d).1.length at hk
  rw [hlen] at hk
  exact phL_at _ _ _ k hk
theorem jn_quick (d : Dk) : trF (jnF d) ≤ 10 := by
  have hst := nx_bd (ad d) 3 (by omega)
  have hs : (jnF d).st = nx (ad d) 3 := rfl
  have h : ∀ n, n ≤ (jnF d).ph.length → trN (jnF d).ph n ≤ 8 := fun n => by
    induction n with
    | zero => intro _; show (0 : Int) ≤ 8; omega
    | succ n ih =>
      intro hn
      have h1 := ih (by omega)
      obtain ⟨e, he⟩ := jn_at d n (by omega)
      have h2 := (phF_s e ((shapesF (nx d 6)).getD n default)).1
      rw [← he] at h2
      unfold phO at h2
      unfold trN
      omega
  have := h _ (Nat.le_refl _)
  unfold trF
  omega
end Av
end Go.Proofs.YtkliodbbcblobaaGreat
