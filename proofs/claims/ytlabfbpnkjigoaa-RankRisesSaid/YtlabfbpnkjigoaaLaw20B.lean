/- law20.setting once more: what its results read as, and the bounds of its numbers. -/
import Derived.Test.YtlabfbpnkjigoaaLaw20A
namespace Go.Proofs.Ytlabfbpnkjigoaa
open Go.RowKit

/-- The list that came in. -/
def LIn (w : World) (A : Option Addr) (n c : Nat) (xs : List Int) : Prop :=
  xs.length = n ∧ n ≤ c ∧ c ≤ 9223372036854775807 ∧ (0 < n → ∃ b o, A = some ⟨b, o, none⟩ ∧ b < w.heap.size ∧ ∀ j, j < n → w.cell? ⟨b, o + j, none⟩ = some (.int .i64 (atI xs j)))
theorem LIn.below {w w' : World} {A : Option Addr} {n c : Nat} {xs : List Int} (h : LIn w A n c xs) (hb : Below w.heap.size w w') : LIn w' A n c xs := by
  obtain ⟨h1, h2, h2', h3⟩ := h
  refine ⟨h1, h2, h2', fun hn => ?_⟩
  obtain ⟨b, o, e, hlt, hc⟩ := h3 hn
  exact ⟨b, o, e, Nat.lt_of_lt_of_le hlt hb.size, fun j hj => (hb.cell (p := ⟨b, o + j, none⟩) hlt).trans (hc j hj)⟩
theorem LIn.of_row {w : World} {a : Option Addr} {len cap : Nat} {zs : List Int}
    (h : (a = none ∧ len = 0 ∧ cap = 0 ∧ zs = []) ∨ ∃ x, a = some x ∧ len ≤ cap ∧ cap ≤ maxLen ∧ zs.length = cap ∧ (∀ i, i < zs.length → w.cell? (x.add i) = some (.int .i64 (zs.getD i 0))) ∧ ∀ n ∈ zs, (Lit.int .i64 n).wf = true) :
    LIn w a len cap (zs.take len) := by
  rcases h with ⟨rfl, rfl, rfl, rfl⟩ | ⟨x, rfl, h1, h2, h3, h4, _⟩
  · exact ⟨rfl, Nat.le_refl _, by omega, fun h => absurd h (by omega)⟩
  · refine ⟨by simp; omega, h1, by unfold maxLen at h2; omega, fun hn => ?_⟩
    obtain ⟨b, off, spot⟩ := x
    have hc := h4 0 (by omega)
    have hspot : spot = none := by simpa [Addr.add] using World.cell?_spot hc
    subst hspot
    have hc0 : w.cell? ⟨b, off, none⟩ = some (.int .i64 (zs.getD 0 0)) := by simpa [Addr.add] using hc
    refine ⟨b, off, rfl, World.block_lt_of_cell? w _ hc0, fun j hj => ?_⟩
    have hcj := h4 j (by omega)
    have e : (⟨b, off, none⟩ : Addr).add j = ⟨b, off + j, none⟩ := by unfold Addr.add; split <;> simp_all
    rw [e] at hcj
    rw [hcj]
    have hjz : j < zs.length := by omega
    simp [atI, hj, hjz]

theorem endsN_len (now : Int) (r : List Int) (k : Nat) : (endsN now r k).length = k := by simp [endsN]
theorem claimsN_len (ph now : Int) (r : List Int) (k : Nat) : (claimsN ph now r k).length = k := by simp [claimsN]
theorem endsN_at (now : Int) (r : List Int) (k j : Nat) (h : j < k) : atI (endsN now r k) j = endAt now (dr r (2 * j)) := by simp [endsN, atI, h]
theorem claimsN_at (ph now : Int) (r : List Int) (k j : Nat) (h : j < k) : atC (claimsN ph now r k) j = claimAt ph now r j := by simp [claimsN, atC, h]
theorem endAt_bd (now : Int) (r : List Int) (h : 0 ≤ now) : -1 ≤ endAt now r ∧ endAt now r ≤ now := by
  have := nx_bd (dr r 0) 6 (by omega)
  unfold endAt
  split
  · omega
  · split <;> omega
theorem ended_bd (now : Int) (r : List Int) (k : Nat) (ph : Int) (h : 0 ≤ now) : -1 ≤ endedF (endsN now r k) ph ∧ endedF (endsN now r k) ph ≤ now := by
  unfold endedF
  split
  · omega
  · rename_i hn
    rw [endsN_len] at hn
    rw [endsN_at _ _ _ _ (by omega)]
    exact endAt_bd _ _ h
theorem claim_bd (ph now : Int) (r : List Int) (i : Nat) (hp : 1 ≤ ph) (h : 0 ≤ now) : 0 ≤ (claimAt ph now r i).ph ∧ (claimAt ph now r i).ph < ph ∧ 0 ≤ (claimAt ph now r i).k ∧ (claimAt ph now r i).k ≤ 3 ∧ 0 ≤ (claimAt ph now r i).si ∧ (claimAt ph now r i).si ≤ now ∧
    0 ≤ (claimAt ph now r i).ag ∧ (claimAt ph now r i).ag ≤ 2 ∧ 0 ≤ (claimAt ph now r i).id ∧ (claimAt ph now r i).id ≤ 3 := by
  unfold claimAt mkClaim
  generalize dr r (1 + 5 * i) = q
  have h0 := nx_bd (dr q 0) 3 (by omega)
  have h1 := nx_bd (dr q 1) 4 (by omega)
  have h2 := nx_bd (dr q 2) ph hp
  have h4 := nx_bd (dr q 4) 20 (by omega)
  have hc : 0 ≤ classOf (nx (dr q 3) 6) ∧ classOf (nx (dr q 3) 6) ≤ 3 := by
    unfold classOf
    (repeat' split) <;> omega
  dsimp only
  omega
theorem set_bd (r : List Int) : 1 ≤ setPer r ∧ setPer r ≤ 5 ∧ 0 ≤ setCap r ∧ setCap r ≤ 5 ∧ 1 ≤ setHold r ∧ setHold r ≤ 4 ∧ 0 ≤ setLock r ∧ setLock r ≤ 6 ∧ 1 ≤ setN r ∧ setN r ≤ 8 := by
  have h0 := nx_bd (dr r 0) 5 (by omega)
  have h1 := nx_bd (dr r 1) 6 (by omega)
  have h2 := nx_bd (dr r 2) 4 (by omega)
  have h3 := nx_bd (dr r 3) 7 (by omega)
  have h4 := nx_bd (dr r 4) 8 (by omega)
  unfold setPer setCap setHold setLock setN
  omega
/-- How many claims there are. -/
def setM (r : List Int) : Nat := (nx (svcR (setN r).toNat (dr r 5)) 6).toNat
theorem setClaims_len (r : List Int) (now : Int) : (setClaims r now).length = setM r := claimsN_len _ _ _ _
theorem setEnds_len (r : List Int) (now : Int) : (setEnds r now).length = (setN r).toNat := endsN_len _ _ _
theorem setClaims_at (r : List Int) (now : Int) (i : Nat) (h : i < setM r) : ∃ q j, atC (setClaims r now) i = claimAt (setN r) now q j := ⟨_, _, claimsN_at _ _ _ _ _ h⟩
theorem set_start (r : List Int) (now : Int) (i : Nat) (h : i < setM r) (hn : 0 ≤ now) : 0 ≤ startF (setEnds r now) (atC (setClaims r now) i).ph (atC (setClaims r now) i).si ∧ startF (setEnds r now) (atC (setClaims r now) i).ph (atC (setClaims r now) i).si ≤ now := by
  obtain ⟨q, j, e⟩ := setClaims_at r now i h
  have hN := set_bd r
  have hb := claim_bd (setN r) now q j (by omega) hn
  have he := ended_bd now (dr r 5) (setN r).toNat (claimAt (setN r) now q j).ph hn
  rw [e]
  unfold startF setEnds
  omega
theorem set_ok (r : List Int) (now : Int) (i : Nat) (h : i < setM r) (hn : 0 ≤ now) (hn2 : now ≤ 1000000) : (atC (setClaims r now) i).ok (setEnds r now) := by
  have hs := set_start r now i h hn
  obtain ⟨q, j, e⟩ := setClaims_at r now i h
  have hN := set_bd r
  have hb := claim_bd (setN r) now q j (by omega) hn
  have he := ended_bd now (dr r 5) (setN r).toNat (claimAt (setN r) now q j).ph hn
  rw [e] at hs ⊢
  unfold Cl.ok
  unfold setEnds at hs ⊢
  omega
theorem setM_le (r : List Int) : setM r ≤ 5 := by
  have := nx_bd (svcR (setN r).toNat (dr r 5)) 6 (by omega)
  unfold setM
  omega

theorem setting_r (A : Option Addr) (n c : Nat) (xs : List Int) (now : Int) (w : World) (h : LIn w A n c xs) (hn1 : 0 ≤ now) (hn2 : now ≤ 1000000) :
    Calls Try.prog 22 #[.slice A n c, .int .i64 now] w fun e w' => ∃ A1 c1 A2 c2, e = .returned (.tuple #[.agg #[.slice none 0 0, .slice none 0 0, .int .i64 (setPer xs), .int .i64 (setCap xs), .int .i64 (setHold xs), .int .i64 (setLock xs)],
        .agg #[.int .i64 (setP xs), .int .i64 (setG xs), .slice A1 (setN xs).toNat c1], .slice A2 (setM xs) c2]) ∧
      RdI w' A1 (setN xs).toNat c1 (setEnds xs now) ∧ RdC w' A2 (setM xs) c2 (setClaims xs now) ∧ Below w.heap.size w w' := by
  refine (setting_w A n c xs now w h.1 h.2.1 h.2.2.1 h.2.2.2 hn1 hn2).mono ?_
  rintro e w' ⟨x, y, rfl, hx, hy, hb⟩
  have hN := set_bd xs
  have hM := setM_le xs
  obtain ⟨A1, c1, rfl, h1⟩ := RdI.of_own hx (setEnds_len xs now) (by omega)
  obtain ⟨A2, c2, rfl, h2⟩ := RdC.of_own (n := setM xs) hy (setClaims_len xs now) (by omega)
  exact ⟨A1, c1, A2, c2, rfl, h1, h2, hb⟩
end Go.Proofs.Ytlabfbpnkjigoaa
