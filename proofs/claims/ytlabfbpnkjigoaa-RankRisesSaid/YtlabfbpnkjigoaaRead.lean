/- What a call owns reads as a list of integers, of claims. -/
import Derived.Test.YtlabfbpnkjigoaaClaims
import Derived.Test.YtlabfbpnkjigoaaService
namespace Go.Proofs.Ytlabfbpnkjigoaa
open Go.RowKit

theorem RdI.of_own {w : World} {base : Nat} {v : Value} {n : Nat} {xs : List Int} (h : w.ownsRow base 3 1 v n (ints xs)) (hl : xs.length = n) (hn : n ≤ 1099511627776) : ∃ A c, v = .slice A n c ∧ RdI w A n c xs := by
  rcases h.2 with ⟨rfl, h0⟩ | ⟨g, cap, cur, rfl, _, hg, hnc, _⟩
  · subst h0
    exact ⟨none, 0, rfl, hl, Nat.le_refl _, hn, fun h => absurd h (by omega)⟩
  · refine ⟨_, cap, rfl, hl, hnc, hn, fun _ => ⟨g, 0, rfl, lt_of_block hg, fun j hj => ?_⟩⟩
    have hc := h.cells (g := g) rfl j (.int .i64 (atI xs j)) (by
      have : j < xs.length := by omega
      simp [ints, atI, this])
    have hadd : (⟨g, 0, none⟩ : Addr).add j = ⟨g, 0 + j, none⟩ := by unfold Addr.add; split <;> simp_all
    rw [hadd] at hc
    exact hc
theorem cellsOf_at (cs : List Cl) : ∀ (j : Nat) (f : Nat), j < cs.length → f < 5 → (cellsOf cs)[j * 5 + f]? = (atC cs j).cells[f]? := by
  induction cs with
  | nil => intro j f h; simp at h
  | cons c cs ih =>
    intro j f hj hf
    have e : cellsOf (c :: cs) = c.cells ++ cellsOf cs := rfl
    have hl : c.cells.length = 5 := rfl
    rw [e]
    cases j with
    | zero =>
      rw [List.getElem?_append_left (by rw [hl]; omega)]
      simp [atC]
    | succ j =>
      rw [List.getElem?_append_right (by rw [hl]; omega), hl, show (j + 1) * 5 + f - 5 = j * 5 + f by omega, ih j f (by simp at hj; omega) hf]
      simp [atC]
theorem RdC.of_own {w : World} {base : Nat} {v : Value} {n : Nat} {cs : List Cl} (h : w.ownsRow base 51 5 v n (cellsOf cs)) (hl : cs.length = n) (hn : n ≤ 1099511627776) : ∃ A c, v = .slice A n c ∧ RdC w A n c cs := by
  rcases h.2 with ⟨rfl, h0⟩ | ⟨g, cap, cur, rfl, _, hg, hnc, _⟩
  · subst h0
    exact ⟨none, 0, rfl, hl, Nat.le_refl _, hn, fun h => absurd h (by omega)⟩
  · refine ⟨_, cap, rfl, hl, hnc, hn, fun _ => ⟨g, 0, rfl, lt_of_block hg, fun j hj => ?_⟩⟩
    have key : ∀ f, f < 5 → ∀ u, (atC cs j).cells[f]? = some u → w.cell? ⟨g, 0 + j * 5 + f, none⟩ = some u := by
      intro f hf u hu
      have hc := h.cells (g := g) rfl (j * 5 + f) u (by rw [cellsOf_at cs j f (by omega) hf]; exact hu)
      have hadd : (⟨g, 0, none⟩ : Addr).add (j * 5 + f) = ⟨g, 0 + j * 5 + f, none⟩ := by unfold Addr.add; split <;> simp_all
      rw [hadd] at hc
      exact hc
    exact ⟨key 0 (by omega) _ rfl, key 1 (by omega) _ rfl, key 2 (by omega) _ rfl, key 3 (by omega) _ rfl, key 4 (by omega) _ rfl⟩
end Go.Proofs.Ytlabfbpnkjigoaa
