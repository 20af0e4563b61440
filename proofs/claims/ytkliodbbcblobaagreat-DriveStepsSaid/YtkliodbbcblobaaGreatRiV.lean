
/- Rings: one group. -/
import Derived.Test.YtkliodbbcblobaaGreatRiK
namespace Go.Proofs.YtkliodbbcblobaaGreat
namespace Av
set_option linter.unusedSimpArgs false
set_option linter.unusedVariables false
set_option maxRecDepth 4000
set_option maxHeartbeats 1000000
/-- All that is not red is of the group. -/
def GV (j : Jn) (c : Ct) : Prop := ∀ p : Nat, p < j.ph.length → (liO c p).lamp ≠ 0 → (phO j p).group = c.gr
theorem gv_in (j : Jn) : GV j (inF j) := fun p hp h => by rw [inF_li] at h; exact absurd rfl h
theorem gv_bg {j : Jn} (J : JV j) {c : Ct} (C : CV j c) (G : GV j c) {p : Nat} (hp : p < j.ph.length) : GV j (bgF j c p) := by
  rcases bgF_gr j c p with h | ⟨hk, hg⟩
  · rw [h.2]; exact G
  · intro q hq hn
    rw [hg]
    have hli : liO (bgF j c p) q = if q = p then ⟨1, 0⟩ else liO c q := by
      unfold bgF
      rw [if_neg (by rw [hk]; decide)]
      have : (b2F j c p).li = c.li.set p ⟨1, 0⟩ := by unfold b2F; split <;> rfl
      unfold liO
      dsimp only
      rw [this]
      exact liO_set c p q _ 0 [] 0 (by have := C.n; omega)
    rw [hli] at hn
    by_cases e : q = p
    · rw [e]
    · rw [if_neg e] at hn
      unfold kpF at hk
      rw [List.any_eq_false] at hk
      have h1 := hk q (List.mem_range.2 (by have := C.n; omega))
      simp only [Bool.and_eq_true, not_and, Bool.not_eq_true] at h1
      have h2 := h1 (by simpa using hn)
      exact Classical.byContradiction fun h3 => by
        have := J.ap p q hp hq (fun h => e h.symm) (.inr fun h => h3 h.symm)
        rw [h2] at this
        cases this
theorem gv_sv {j : Jn} (J : JV j) {c : Ct} (C : CV j c) (G : GV j c) {t : Nat} (ht : t < j.ph.length) (r : Int) : GV j (svS j t c r) := by
  unfold svS
  split
  · split
    · exact G
    · rename_i h
      rcases svP_spec (j := j) (c := c) (r := r) ht with h1 | ⟨p, h1, h2, _⟩
      · exact absurd h1 h
      · rw [h1, Int.toNat_natCast]
        exact gv_bg J C G h2
  · exact G
theorem gv_cy1 {j : Jn} (J : JV j) {c : Ct} (C : CV j c) (G : GV j c) {r : Nat} (hr : r < 2) : GV j (cyS j c r) := by
  unfold cyS
  split
  · rename_i h
    rw [Int.toNat_natCast] at h ⊢
    rcases C.v r hr with h1 | h1
    · exact absurd h1 h.2
    · exact gv_bg J C G (by have := h1.2.1; have := h1.1; omega)
  · exact G
theorem gv_st {j : Jn} (J : JV j) {c : Ct} (C : CV j c) (G : GV j c) (t : Int) : GV j (stF j c t) := by
  unfold stF
  split
  · exact G
  · have h0 : c.wt = 0 := by have := C.w; omega
    have L := cv_ls J C h0 t
    have GL : GV j ⟨lsF j c t, c.gr, c.nx, c.wt⟩ := fun p hp hn => by
      rw [ls_at _ _ _ _ _ hp] at hn
      exact G p hp ((lp_v (by have := J.ti p hp; omega) (by have := J.ti p hp; omega) (C.k p hp)).2 hn)
    split
    · rename_i h
      unfold aimF at h
      rw [decide_eq_true_eq] at h
      have h1 := cv_sv J L h0 (t := t.toNat) (by omega) 0
      exact gv_sv J h1.1 (gv_sv J L GL (by omega) 0) (by omega) 1
    · unfold cyF
      have h1 : CV j (if cyO ⟨lsF j c t, c.gr, c.nx, c.wt⟩ = true then etF j ⟨lsF j c t, c.gr, c.nx, c.wt⟩ ((c.gr + 1) % grF j) else ⟨lsF j c t, c.gr, c.nx, c.wt⟩) ∧ (if cyO ⟨lsF j c t, c.gr, c.nx, c.wt⟩ = true then etF j ⟨lsF j c t, c.gr, c.nx, c.wt⟩ ((c.gr + 1) % grF j) else ⟨lsF j c t, c.gr, c.nx, c.wt⟩).wt = 0 ∧ GV j (if cyO ⟨lsF j c t, c.gr, c.nx, c.wt⟩ = true then etF j ⟨lsF j c t, c.gr, c.nx, c.wt⟩ ((c.gr + 1) % grF j) else ⟨lsF j c t, c.gr, c.nx, c.wt⟩) := by
        split
        · rename_i ho
          have hp := grF_pos J
          refine ⟨cv_et L ⟨Int.emod_nonneg _ (by omega), Int.emod_lt_of_pos _ (by omega)⟩, h0, fun p hp hn => ?_⟩
          unfold cyO arF at ho
          rw [Bool.and_eq_true, List.all_eq_true] at ho
          have h5 := ho.1 (liO ⟨lsF j c t, c.gr, c.nx, c.wt⟩ p) (by
            have hl := L.n
            dsimp only at hl
            unfold liO
            simp [List.getD, hl, hp])
          exact absurd (beq_iff_eq.1 h5) hn
        · exact ⟨L, h0, GL⟩
      have h2 := cv_cy1 J h1.1 h1.2.1 (r := 0) (by omega)
      exact gv_cy1 J h2.1 (gv_cy1 J h1.1 h1.2.2 (r := 0) (by omega)) (r := 1) (by omega)
end Av
end Go.Proofs.YtkliodbbcblobaaGreat
