/- The law DriveServes. -/
import Derived.Test.YtkliodbbcblobaaDrC
namespace Go.Proofs.Ytkliodbbcblobaa
namespace Av
set_option linter.unusedSimpArgs false
set_option linter.unusedVariables false
set_option maxRecDepth 4000
set_option maxHeartbeats 4000000
def dkR (k : Nat) : Dk := ⟨List.replicate (min k 300) 0, 0, Nat.zero_le _, by rw [List.length_replicate]; omega⟩
theorem dkR_rem (k : Nat) : rem (dkR k) = min k 300 := by
  unfold rem dkR
  dsimp only
  rw [List.length_replicate]
  rfl
theorem dserves_c (l : List Int) (hl : l.length ≤ 9223372036854775807) (ph : Int) : CallSim Try.prog 12 [slA iA l, iA ph] [] (bA true) [] := by
  have aw := awake22_c
  have hn := new_c l hl
  generalize (⟨l, 0, Nat.zero_le _, hl⟩ : Dk) = d0 at *
  obtain ⟨per, cap, hold, lock, j, d1, G, J, htq, _, cj⟩ := jun22_ex d0
  have hjn := J.n
  have hlp := map_len phA j.ph
  have n1 := rsnew_c j J
  have n2 := newA2_c (j.ph.map phA).length (by omega)
  have tt := rtrans_c j J
  have htp := trF_pos J
  have hst := J.st
  have cm := mod_c ph (j.ph.map phA).length (by omega) (by omega)
  have bm := Int.emod_nonneg ph (show ((j.ph.map phA).length : Int) ≠ 0 by omega)
  have bm2 := Int.emod_lt_of_pos ph (show 0 < ((j.ph.map phA).length : Int) by omega)
  obtain ⟨p, hp⟩ : ∃ p : Nat, ph % ((j.ph.map phA).length : Int) = p := ⟨(ph % ((j.ph.map phA).length : Int)).toNat, by omega⟩
  rw [hp] at cm bm bm2
  have hpn : p < j.ph.length := by omega
  obtain ⟨K, hK1, hK2⟩ := reach J (cv_in J) hpn
  have e0 : EI j.ph.length (dkR 300) (newF (j.ph.map phA).length) 1 := ⟨by simp [newF], fun e he => by simp [newF] at he; omega, by simp [newF], by simp [newF]; omega, by simp [newF], by simp [newF], by omega, by rw [dkR_rem]; omega, by simp [newF]⟩
  have D0 : DI ⟨[], [], per, cap, hold, lock⟩ j p K (newS j) (newF (j.ph.map phA).length) 0 0 1 := by
    refine ⟨⟨0, cv_in J, rfl, fun h => absurd h (by simp [newF]), Int.le_refl _, .inl rfl⟩, .inl rfl, fun _ => rfl, fun h => absurd h (by show ¬ (-1 : Int) = p; omega), Int.le_refl _, by omega, .inr (.inl ⟨rfl, rfl, ?_, rfl⟩)⟩
    unfold endF newF
    rw [if_neg (by simp; omega)]
    simp [List.getD_eq_getElem?_getD, hpn]
  have h0 := G.h0
  have h1 := G.h1
  have l0 := G.l0
  have l1 := G.l1
  have p0 := G.p0
  have g0 := G.c0
  have g1 := G.c1
  dsimp only at h0 h1 l0 l1 p0 g0 g1
  generalize newF (j.ph.map phA).length = v0 at *
  generalize newS j = s0 at *
  generalize trF j = tr at *
  obtain ⟨N, hN⟩ : ∃ N : Nat, 2 * (tr + hold + lock + 2) = N := ⟨(2 * (tr + hold + lock + 2)).toNat, by omega⟩
  (refine callSim_of tok Try.func12 rfl (fun args w => Try.call12 args w) rfl rfl rfl (fun F hF => ?_))
  (have zc1 := hn; have zc2 := cj; have zc3 := cm; have zc4 := n1; have zc5 := n2; refine WL ?_; clear zc1 zc2 zc3 zc4 zc5)
  (refine sim_cntP (N) [10, 11, 6, 7] [6, 7] [6, 7, 8, 9, 10, 11] [12, 13, 14, 6, 7, 8, 9, 10, 11] rfl (fun i T U zs => ∃ (s : Sg) (v : Sv) (q g : Int), (EI j.ph.length (dkR (300 - i)) v ((i : Int) + 1) ∧ DI ⟨[], [], per, cap, hold, lock⟩ j p K s v q g ((i : Int) + 1)) ∧ zs = ⟨(12, iA q) :: (13, iA g) :: (14, iA ((i : Int) + 1)) :: T, (10, .box [slA liA s.c.li, iA s.c.gr, slA iA s.c.nx, iA s.c.wt, bA s.lat]) :: (11, .box [iA v.ph, iA v.gr, slA iA v.en]) :: U⟩) ?_; (conv => whnf); refine ⟨?_, ?_, ?_⟩)
  · exact ⟨s0, v0, 0, 0, ⟨e0, D0⟩, rfl⟩
  · rintro i st hi ⟨s, v, q, g, ⟨hE, D⟩, rfl⟩
    have hdk : rem (dkR (300 - (i + 1))) + 1 ≤ rem (dkR (300 - i)) := by rw [dkR_rem, dkR_rem]; omega
    rw [show (((i + 1 : Nat) : Int) + 1) = (i : Int) + 1 + 1 by omega]
    have hcl : ∀ x ∈ [clS p], ClB j.ph.length ((i : Int) + 1) x := fun x hx => by
      have hx := List.mem_singleton.1 hx
      subst hx
      constructor <;> simp only [clS] <;> omega
    have R := D.R
    obtain ⟨w, R⟩ := R
    have C := R.C
    have cd := drive_c ⟨[], [], per, cap, hold, lock⟩ j J s C v [clS p] (-1) ((i : Int) + 1) (hE.dcb (by omega) _ p0 ⟨g0, by dsimp only; omega⟩ [clS p] (by simp) hcl) (dv_gr hE _ [clS p] hcl)
    have E' := dv_next hE ⟨[], [], per, cap, hold, lock⟩ j s [clS p] hcl (-1) (dkR (300 - (i + 1))) hdk
    obtain ⟨hph, hD⟩ := D.step G J hpn hK2 hE
    have X := dv_v J C ⟨[], [], per, cap, hold, lock⟩ v [clS p] (-1) ((i : Int) + 1)
    have hxl : (dvF ⟨[], [], per, cap, hold, lock⟩ j s v [clS p] (-1) ((i : Int) + 1)).1.lat = false := by rw [dv_calm J C R.l]
    generalize (dvF ⟨[], [], per, cap, hold, lock⟩ j s v [clS p] (-1) ((i : Int) + 1)).1 = x at *
    generalize (dvF ⟨[], [], per, cap, hold, lock⟩ j s v [clS p] (-1) ((i : Int) + 1)).2 = v' at *
    have hl1 := hE.len
    have hl2 := E'.len
    have hm1 := map_len iA v.en
    have hm2 := map_len iA v'.en
    have hy1 := map_at iA v.en p (by omega)
    have hy2 := map_at iA v'.en p (by omega)
    have ht0 := D.t0
    have ht1 := D.t1
    have hgB : 0 ≤ g ∧ g ≤ 100 := by
      have hq := D.ph
      have := hE.g0
      rcases hq with h | h
      · have := D.g0 h; omega
      · have := D.g1 h; dsimp only at this; omega
    have hgE := E'.g0
    clear hE D R hcl C X hdk cj n1 n2 cm hn e0 D0
    obtain ⟨xc, xl⟩ := x
    dsimp only at hxl
    subst hxl
    rw [show sgA ⟨xc, false⟩ = .agg [slA liA xc.li, iA xc.gr, slA iA xc.nx, iA xc.wt, bA false] from rfl] at *
    generalize v.en.getD p default = ea at *
    generalize v'.en.getD p default = eb at *
    have hph2 : v'.ph = -1 ∨ (v'.ph ≠ -1 ∧ v'.ph = p) := by omega
    rcases hD with ⟨h2, h3, h4⟩ | ⟨h2, h3, h4, h5⟩
    · by_cases h6 : v'.gr ≤ 0
      · have h7 := h3 h6
        clear h3 h4
        rcases hph2 with h8 | ⟨h8, h9⟩
        · (have zc1 := tt; have zc2 := cd; refine WL ?_; clear zc1 zc2)
          exact ⟨⟨xc, false⟩, v', q, g, ⟨E', h7⟩, rfl⟩
        · (have zc1 := tt; have zc2 := cd; refine WL ?_; clear zc1 zc2)
          exact ⟨⟨xc, false⟩, v', q, g, ⟨E', h7⟩, rfl⟩
      · have h7 := h4 (by omega)
        clear h3 h4
        rcases hph2 with h8 | ⟨h8, h9⟩
        · (have zc1 := tt; have zc2 := cd; refine WL ?_; clear zc1 zc2)
          exact ⟨⟨xc, false⟩, v', q, g + 1, ⟨E', h7⟩, rfl⟩
        · (have zc1 := tt; have zc2 := cd; refine WL ?_; clear zc1 zc2)
          exact ⟨⟨xc, false⟩, v', q, g + 1, ⟨E', h7⟩, rfl⟩
    · dsimp only at h3
      rcases hph2 with h8 | ⟨h8, h9⟩
      · (have zc1 := tt; have zc2 := cd; refine WL ?_; clear zc1 zc2)
        exact ⟨⟨xc, false⟩, v', q + 1, 0, ⟨E', h5⟩, rfl⟩
      · (have zc1 := tt; have zc2 := cd; refine WL ?_; clear zc1 zc2)
        exact ⟨⟨xc, false⟩, v', q + 1, 0, ⟨E', h5⟩, rfl⟩
  · rintro st ⟨s, v, q, g, ⟨hE, D⟩, rfl⟩
    have ht1 := D.t1
    have hT : 1 ≤ q := by
      rcases D.pr with h | ⟨h, _⟩ | ⟨h, k, h2, _, h3⟩
      · exact h
      · omega
      · have := (D.g1 h).2
        dsimp only at this
        omega
    (have zc1 := tt; have zc2 := aw; refine WL ?_; clear zc1 zc2)
    exact fin_ret [] rfl rfl rfl rfl
end Av
end Go.Proofs.Ytkliodbbcblobaa
