
/- Rings: what a step makes of each light. -/
import Derived.Test.YtkliodbbcblobaaGreatRiV
namespace Go.Proofs.YtkliodbbcblobaaGreat
namespace Av
set_option linter.unusedSimpArgs false
set_option linter.unusedVariables false
set_option maxRecDepth 4000
set_option maxHeartbeats 1000000
/-- Lights that begin, the others as they are. -/
def BgR (j : Jn) (c c' : Ct) : Prop := ∀ q : Nat, q < j.ph.length → liO c' q = liO c q ∨ ((liO c q).lamp = 0 ∧ liO c' q = ⟨1, 0⟩)
theorem BgR.refl (j : Jn) (c : Ct) : BgR j c c := fun q _ => .inl rfl
theorem BgR.trans {j : Jn} {a b c : Ct} (h : BgR j a b) (g : BgR j b c) : BgR j a c := fun q hq => by
  rcases h q hq with h | ⟨h1, h2⟩ <;> rcases g q hq with g | ⟨g1, g2⟩
  · exact .inl (g.trans h)
  · exact .inr ⟨by rw [← h]; exact g1, g2⟩
  · exact .inr ⟨h1, g.trans h2⟩
  · rw [h2] at g1; exact absurd g1 (by decide)
theorem bgF_li {j : Jn} {c : Ct} (hc : c.li.length = j.ph.length) {p : Nat} (hp : p < j.ph.length) (q : Nat) : liO (bgF j c p) q = liO c q ∨ (q = p ∧ liO (bgF j c p) q = ⟨1, 0⟩) := by
  rcases bgF_gr j c p with h | ⟨hk, _⟩
  · rw [h.2]; exact .inl rfl
  · have hli : liO (bgF j c p) q = if q = p then ⟨1, 0⟩ else liO c q := by
      unfold bgF
      rw [if_neg (by rw [hk]; decide)]
      have : (b2F j c p).li = c.li.set p ⟨1, 0⟩ := by unfold b2F; split <;> rfl
      unfold liO
      dsimp only
      rw [this]
      exact liO_set c p q _ 0 [] 0 (by omega)
    rw [hli]
    by_cases e : q = p
    · rw [if_pos e]; exact .inr ⟨e, rfl⟩
    · rw [if_neg e]; exact .inl rfl
theorem dk_red {j : Jn} {c : Ct} {r : Int} {p : Nat} (h : dkF j c r = true) (hp : p < j.ph.length) (hr : (phO j p).ring = r) : (liO c p).lamp = 0 := by
  unfold dkF at h
  rw [List.all_eq_true] at h
  simpa using h p (rpF_mem.2 ⟨hp, hr⟩)
theorem bg_red {j : Jn} {c : Ct} (hc : c.li.length = j.ph.length) {p : Nat} (hp : p < j.ph.length) (h0 : (liO c p).lamp = 0) : BgR j c (bgF j c p) := fun q hq => by
  rcases bgF_li hc hp q with h | ⟨rfl, h⟩
  · exact .inl h
  · exact .inr ⟨h0, h⟩
theorem bg_sv {j : Jn} {c : Ct} (C : CV j c) {t : Nat} (ht : t < j.ph.length) (r : Int) : BgR j c (svS j t c r) := by
  unfold svS
  split
  · rename_i hd
    split
    · exact BgR.refl j c
    · rename_i h
      rcases svP_spec (j := j) (c := c) (r := r) ht with h1 | ⟨p, h1, h2, h3⟩
      · exact absurd h1 h
      · rw [h1, Int.toNat_natCast]
        exact bg_red C.n h2 (dk_red hd h2 h3)
  · exact BgR.refl j c
theorem bg_cy1 {j : Jn} {c : Ct} (C : CV j c) {r : Nat} (hr : r < 2) : BgR j c (cyS j c r) := by
  unfold cyS
  split
  · rename_i h
    rw [Int.toNat_natCast] at h ⊢
    rcases C.v r hr with h1 | h1
    · exact absurd h1 h.2
    · obtain ⟨a, b, d, _⟩ := h1
      exact bg_red C.n (by omega) (dk_red h.1 (by omega) d)
  · exact BgR.refl j c
/-- What a step makes of each light. -/
theorem st_li {j : Jn} (J : JV j) {c : Ct} (C : CV j c) (t : Int) (p : Nat) (hp : p < j.ph.length) : (liO (stF j c t) p = liO c p ∧ (liO c p).lamp = 0) ∨ liO (stF j c t) p = lpF (phO j p) (liO c p) (lvS j c t p) ∨ ((lpF (phO j p) (liO c p) (lvS j c t p)).lamp = 0 ∧ liO (stF j c t) p = ⟨1, 0⟩) := by
  unfold stF
  split
  · rename_i hw
    rcases C.z with h | h
    · omega
    · exact .inl ⟨rfl, h p hp⟩
  · have h0 : c.wt = 0 := by have := C.w; omega
    have L := cv_ls J C h0 t
    have fin : ∀ c', BgR j ⟨lsF j c t, c.gr, c.nx, c.wt⟩ c' → (liO c' p = lpF (phO j p) (liO c p) (lvS j c t p) ∨ ((lpF (phO j p) (liO c p) (lvS j c t p)).lamp = 0 ∧ liO c' p = ⟨1, 0⟩)) := fun c' h => by
      have := h p hp
      rw [ls_at _ _ _ _ _ hp] at this
      exact this
    split
    · rename_i h
      unfold aimF at h
      rw [decide_eq_true_eq] at h
      have h1 := cv_sv J L h0 (t := t.toNat) (by omega) 0
      exact .inr (fin _ ((bg_sv L (by omega) 0).trans (bg_sv h1.1 (by omega) 1)))
    · unfold cyF
      have h1 : CV j (if cyO ⟨lsF j c t, c.gr, c.nx, c.wt⟩ = true then etF j ⟨lsF j c t, c.gr, c.nx, c.wt⟩ ((c.gr + 1) % grF j) else ⟨lsF j c t, c.gr, c.nx, c.wt⟩) ∧ (if cyO ⟨lsF j c t, c.gr, c.nx, c.wt⟩ = true then etF j ⟨lsF j c t, c.gr, c.nx, c.wt⟩ ((c.gr + 1) % grF j) else ⟨lsF j c t, c.gr, c.nx, c.wt⟩).wt = 0 ∧ BgR j ⟨lsF j c t, c.gr, c.nx, c.wt⟩ (if cyO ⟨lsF j c t, c.gr, c.nx, c.wt⟩ = true then etF j ⟨lsF j c t, c.gr, c.nx, c.wt⟩ ((c.gr + 1) % grF j) else ⟨lsF j c t, c.gr, c.nx, c.wt⟩) := by
        split
        · have hp := grF_pos J
          exact ⟨cv_et L ⟨Int.emod_nonneg _ (by omega), Int.emod_lt_of_pos _ (by omega)⟩, h0, fun q _ => .inl rfl⟩
        · exact ⟨L, h0, BgR.refl _ _⟩
      have h2 := cv_cy1 J h1.1 h1.2.1 (r := 0) (by omega)
      exact .inr (fin _ ((h1.2.2.trans (bg_cy1 h1.1 (r := 0) (by omega))).trans (bg_cy1 h2.1 (r := 1) (by omega))))
/-- How long a light has been as it is. -/
def snU (a b : Li) (s : Int) : Int := if a.lamp = b.lamp then s + 1 else 0
def snO (s : List Int) (p : Nat) : Int := s.getD p default
/-- The changes that a light may make. -/
theorem greens (ph : Ph) (a b : Li) (s : Int) (lv : Bool) (hv : lvF ph a = true) (hs : a.lamp ≠ 0 → s = a.tk) (hs1 : s ≤ 1000) (hb : (b = a ∧ a.lamp = 0) ∨ b = lpF ph a lv ∨ ((lpF ph a lv).lamp = 0 ∧ b = ⟨1, 0⟩)) :
    (b.lamp ≠ 0 → snU a b s = b.tk) ∧ (a.lamp = b.lamp ∨ (a.lamp = 0 ∧ b.lamp = 1) ∨ (a.lamp = 1 ∧ b.lamp = 2 ∧ lnF ph ≤ s + 1) ∨ (a.lamp = 2 ∧ s + 1 = ph.yel ∧ b.lamp = 3 ∧ ph.red ≠ 0) ∨ (a.lamp = 2 ∧ s + 1 = ph.yel ∧ (b.lamp = 0 ∨ b.lamp = 1) ∧ ph.red = 0) ∨ (a.lamp = 3 ∧ s + 1 = ph.red ∧ (b.lamp = 0 ∨ b.lamp = 1))) := by
  unfold lvF at hv
  unfold snU
  unfold lpF at hb
  obtain ⟨al, at'⟩ := a
  dsimp only at *
  by_cases h0 : al = 0
  · subst h0
    rw [if_neg (by omega), if_neg (by omega), if_neg (by omega)] at hb
    rcases hb with ⟨rfl, _⟩ | rfl | ⟨_, rfl⟩
    · exact ⟨fun h => absurd rfl h, .inl rfl⟩
    · exact ⟨fun h => absurd rfl h, .inl rfl⟩
    · exact ⟨fun _ => by rw [if_neg (by decide)], .inr (.inl ⟨rfl, rfl⟩)⟩
  have hs := hs h0
  rw [if_neg h0] at hv
  by_cases h1 : al = 1
  · subst h1
    rw [if_pos rfl, decide_eq_true_eq] at hv
    rw [if_pos rfl] at hb
    by_cases hl : lv = true ∧ lnF ph ≤ at' + 1
    · rw [if_pos hl] at hb
      rcases hb with ⟨_, h⟩ | rfl | ⟨h, _⟩
      · exact absurd h h0
      · exact ⟨fun _ => by rw [if_neg (by decide)], .inr (.inr (.inl ⟨rfl, rfl, by omega⟩))⟩
      · exact absurd h (by dsimp only; decide)
    · rw [if_neg hl] at hb
      rcases hb with ⟨_, h⟩ | rfl | ⟨h, _⟩
      · exact absurd h h0
      · exact ⟨fun _ => by rw [if_pos rfl]; dsimp only; omega, .inl rfl⟩
      · exact absurd h (by dsimp only; decide)
  rw [if_neg h1] at hv hb
  by_cases h2 : al = 2
  · subst h2
    rw [if_pos rfl, decide_eq_true_eq] at hv
    rw [if_pos rfl] at hb
    by_cases hl : at' + 1 < ph.yel
    · rw [if_pos hl] at hb
      rcases hb with ⟨_, h⟩ | rfl | ⟨h, _⟩
      · exact absurd h h0
      · exact ⟨fun _ => by rw [if_pos rfl]; dsimp only; omega, .inl rfl⟩
      · exact absurd h (by dsimp only; decide)
    · rw [if_neg hl] at hb
      by_cases hr : ph.red = 0
      · rw [if_pos hr] at hb
        rcases hb with ⟨_, h⟩ | rfl | ⟨_, rfl⟩
        · exact absurd h h0
        · exact ⟨fun h => absurd rfl h, .inr (.inr (.inr (.inr (.inl ⟨rfl, by omega, .inl rfl, hr⟩))))⟩
        · exact ⟨fun _ => by rw [if_neg (by decide)], .inr (.inr (.inr (.inr (.inl ⟨rfl, by omega, .inr rfl, hr⟩))))⟩
      · rw [if_neg hr] at hb
        rcases hb with ⟨_, h⟩ | rfl | ⟨h, _⟩
        · exact absurd h h0
        · exact ⟨fun _ => by rw [if_neg (by decide)], .inr (.inr (.inr (.inl ⟨rfl, by omega, rfl, hr⟩)))⟩
        · exact absurd h (by dsimp only; decide)
  rw [if_neg h2] at hv hb
  by_cases h3 : al = 3
  · subst h3
    rw [if_pos rfl, decide_eq_true_eq] at hv
    rw [if_pos rfl] at hb
    by_cases hl : at' + 1 < ph.red
    · rw [if_pos hl] at hb
      rcases hb with ⟨_, h⟩ | rfl | ⟨h, _⟩
      · exact absurd h h0
      · exact ⟨fun _ => by rw [if_pos rfl]; dsimp only; omega, .inl rfl⟩
      · exact absurd h (by dsimp only; decide)
    · rw [if_neg hl] at hb
      rcases hb with ⟨_, h⟩ | rfl | ⟨_, rfl⟩
      · exact absurd h h0
      · exact ⟨fun h => absurd rfl h, .inr (.inr (.inr (.inr (.inr ⟨rfl, by omega, .inl rfl⟩))))⟩
      · exact ⟨fun _ => by rw [if_neg (by decide)], .inr (.inr (.inr (.inr (.inr ⟨rfl, by omega, .inr rfl⟩))))⟩
  · rw [if_neg h3] at hv
    cases hv
theorem rneed_c (p : Ph) (h : PhB p) : CallSim Tryz.prog 98 [phA p] [] (iA (lnF p)) [] := by
  obtain ⟨h1, h2, h3, h4⟩ := h
  (refine callSim_of tok Tryz.func98 rfl (fun args w => Tryz.call98 args w) rfl rfl rfl (fun F hF => ?_))
  (refine WW ?_)
  exact fin_ret [] rfl rfl rfl rfl
end Av
end Go.Proofs.YtkliodbbcblobaaGreat
