/- The law DriveReaches. -/
import Derived.Test.YtkliodbbcblobaaDrB
namespace Go.Proofs.Ytkliodbbcblobaa
namespace Av
set_option linter.unusedSimpArgs false
set_option linter.unusedVariables false
set_option maxRecDepth 4000
set_option maxHeartbeats 4000000
theorem clb_mono {n a b : Int} (h : a ≤ b) {x : Cl} (H : ClB n a x) : ClB n b x := ⟨H.k0, H.k1, H.s0, Int.le_trans H.s1 h, H.a0, H.a1, H.i0, H.i1, H.p0, H.p1⟩
theorem dreaches_c (l : List Int) (hl : l.length ≤ 9223372036854775807) : CallSim Try.prog 10 [slA iA l] [] (bA true) [] := by
  have hf := few_c l hl
  have aw := awake22_c
  by_cases hfew : l.length ≤ 300
  case neg =>
    rw [decide_eq_false hfew] at hf
    (refine callSim_of tok Try.func10 rfl (fun args w => Try.call10 args w) rfl rfl rfl (fun F hF => ?_))
    (have zc1 := hf; have zc2 := aw; refine WL ?_; clear zc1 zc2)
    exact fin_ret [] rfl rfl rfl rfl
  rw [decide_eq_true hfew] at hf
  have hn := new_c l hl
  have hr0 : rem ⟨l, 0, Nat.zero_le _, hl⟩ ≤ 300 := by unfold rem; dsimp only; omega
  generalize (⟨l, 0, Nat.zero_le _, hl⟩ : Dk) = d0 at *
  obtain ⟨per, cap, hold, lock, j, d1, G, J, htq, hrd, cj⟩ := jun22_ex d0
  have hjn := J.n
  have hlp := map_len phA j.ph
  have n1 := rsnew_c j J
  have n2 := newA2_c (j.ph.map phA).length (by omega)
  have tt := rtrans_c j J
  have e0 : EI (j.ph.map phA).length d1 (newF (j.ph.map phA).length) 1 := ⟨by simp [newF], fun e he => by simp [newF] at he; omega, by simp [newF], by simp [newF]; omega, by simp [newF], by simp [newF], by omega, by omega, by simp [newF]⟩
  have R0 : RI j (newS j) (newF (j.ph.map phA).length) 0 := ⟨cv_in J, rfl, fun h => absurd h (by simp [newF]), Int.le_refl _, .inl rfl⟩
  generalize newF (j.ph.map phA).length = v0 at *
  generalize newS j = s0 at *
  (refine callSim_of tok Try.func10 rfl (fun args w => Try.call10 args w) rfl rfl rfl (fun F hF => ?_))
  (have zc1 := hf; have zc2 := hn; have zc3 := cj; have zc4 := n1; have zc5 := n2; refine WL ?_; clear zc1 zc2 zc3 zc4 zc5)
  refine sim_wk 8 rfl rfl rfl ?_
  (refine sim_whl (rem d1) [6, 7, 1000, 4, 5] [4, 5] [3, 4, 5, 6, 7] [8, 9, 10, 3, 4, 5, 6, 7] rfl (fun zn T U zs => ∃ (d : Dk) (s : Sg) (v : Sv) (c : List Cl) (w now : Int), (EI (j.ph.map phA).length d v now ∧ RI j s v w ∧ c.length ≤ 5 ∧ (∀ x ∈ c, ClB (j.ph.map phA).length now x) ∧ zn = rem d) ∧ zs = ⟨(8, slA clA c) :: (9, iA w) :: (10, iA now) :: T, (6, .box [slA liA s.c.li, iA s.c.gr, slA iA s.c.nx, iA s.c.wt, bA s.lat]) :: (7, .box [iA v.ph, iA v.gr, slA iA v.en]) :: (1000, dkE d) :: U⟩) ?_; (conv => whnf); refine ⟨?_, ?_⟩)
  · exact ⟨d1, s0, v0, [], 0, 1, ⟨e0, R0, by simp, by simp, rfl⟩, rfl⟩
  rintro zn st ⟨d, s, v, c, w, now, ⟨hE, R, hc5, hcl, rfl⟩, rfl⟩
  have lf := left_c d
  by_cases hlf : d.a < d.l.length
  case neg =>
    rw [decide_eq_false hlf] at lf
    (have zc1 := lf; have zc2 := aw; refine WL ?_; clear zc1 zc2)
    exact fin_ret [] rfl rfl rfl rfl
  rw [decide_eq_true hlf] at lf
  by_cases h200 : now < 200
  case neg =>
    (have zc1 := lf; have zc2 := aw; refine WL ?_; clear zc1 zc2)
    exact fin_ret [] rfl rfl rfl rfl
  clear hf hn cj n1 n2 e0 R0
  have hlt := rem_lt d hlf
  have hn0 := hE.n0
  have hn2 := hE.n1
  have hlen := hE.len
  have cn := next_c d 4 (by omega) (by omega)
  obtain ⟨c2, d2, hc52, hcl2, hrd2, cc⟩ := claims_ex (ad d) (j.ph.map phA).length now (by omega) (by omega) (by omega) (by omega)
  have hr1 := rem_ad (ad d)
  have p0 := G.p0
  have g0 := G.c0
  have g1 := G.c1
  dsimp only at p0 g0 g1
  generalize hq : nx d 4 = q at *
  clear hq
  generalize hd1 : ad d = da at *
  clear hd1
  -- the claims, new ones or the old ones
  have key : ∀ (c3 : List Cl) (d3 : Dk), c3.length ≤ 5 → (∀ x ∈ c3, ClB (j.ph.map phA).length now x) → rem d3 + 1 ≤ rem d → ∃ x v', CallSim Try.prog 48 [cfA ⟨[], [], per, cap, hold, lock⟩, jnA j, sgA s, svA v, slA clA c3, iA (-1), iA now] [] (.tup [sgA x, svA v']) [] ∧ RI j x v' (wtF v v' w) ∧ EI (j.ph.map phA).length d3 v' (now + 1) ∧ (∀ y ∈ c3, ClB (j.ph.map phA).length (now + 1) y) := fun c3 d3 k1 k2 k3 => by
    have hp := dec_ph ⟨[], [], per, cap, hold, lock⟩ v c3 now (j.ph.map phA).length (fun x hx => ⟨(k2 x hx).p0, (k2 x hx).p1⟩) ⟨hE.p0, hE.p1, hE.g0, hE.g1⟩ (by omega)
    exact ⟨_, _, drive_c ⟨[], [], per, cap, hold, lock⟩ j J s R.C v c3 (-1) now (hE.dcb (by omega) _ p0 ⟨g0, by dsimp only; omega⟩ c3 k1 k2) (dv_gr hE _ c3 k2), R.step J _ c3 now hE.g0 (by rw [← hlp]; exact hp.2.1) hp.2.2.1 hp.1, dv_next hE _ j s c3 k2 (-1) d3 k3, fun y hy => clb_mono (by omega) (k2 y hy)⟩
  by_cases hq : q = 0
  · obtain ⟨x, v', cd, R', E', K'⟩ := key c2 d2 hc52 hcl2 (by omega)
    clear key hcl hcl2
    have hle := R'.le J (by have := E'.p1; omega)
    have hxn := R'.C.n
    have hxl := R'.l
    have hgg := R'.g
    have p1 := E'.p1
    have p0' := E'.p0
    have q0 := E'.g0
    have hw0 := R.w0
    have hwl := R.le J (by have := hE.p1; omega)
    generalize trF j = tr at *
    clear hlen
    obtain ⟨xc, xl⟩ := x
    dsimp only at *
    subst hxl
    rw [show sgA ⟨xc, false⟩ = .agg [slA liA xc.li, iA xc.gr, slA iA xc.nx, iA xc.wt, bA false] from rfl] at *
    have hlx := map_len liA xc.li
    by_cases hA : v'.ph < 0
    · have e : wtF v v' w = 0 := by unfold wtF; rw [if_pos (.inl hA), if_neg (by omega)]; rfl
      rw [e] at R' hle
      clear hgg hE R G
      (have zc1 := lf; have zc2 := cn; have zc3 := cc; have zc4 := cd; have zc5 := tt; refine WW ?_; clear zc1 zc2 zc3 zc4 zc5)
      exact ⟨rem d2, by omega, d2, ⟨xc, false⟩, v', c2, 0, now + 1, ⟨E', R', hc52, K', rfl⟩, rfl⟩
    have hgi := hgg (by omega)
    have hy := map_atI liA xc.li v'.ph (by omega) (by omega)
    change (xc.li.map liA)[v'.ph.toNat]? = some (liA (liO xc v'.ph.toNat)) at hy
    by_cases hB : 0 < v'.gr
    · have hlm := hgi.1 hB
      have e : wtF v v' w = 0 := by unfold wtF; rw [if_pos (.inr (.inr hB)), if_neg (by omega)]; rfl
      rw [e] at R' hle
      clear hgi hgg hE R G
      generalize liO xc v'.ph.toNat = a at *
      by_cases hph : v'.ph = v.ph
      · (have zc1 := lf; have zc2 := cn; have zc3 := cc; have zc4 := cd; have zc5 := tt; refine WW ?_; clear zc1 zc2 zc3 zc4 zc5)
        exact ⟨rem d2, by omega, d2, ⟨xc, false⟩, v', c2, 0, now + 1, ⟨E', R', hc52, K', rfl⟩, rfl⟩
      · (have zc1 := lf; have zc2 := cn; have zc3 := cc; have zc4 := cd; have zc5 := tt; refine WW ?_; clear zc1 zc2 zc3 zc4 zc5)
        exact ⟨rem d2, by omega, d2, ⟨xc, false⟩, v', c2, 0, now + 1, ⟨E', R', hc52, K', rfl⟩, rfl⟩
    have hlm : ¬ (liO xc v'.ph.toNat).lamp = 1 := fun h => hB (hgi.2 h)
    by_cases hph : v'.ph = v.ph
    · have e : wtF v v' w = w + 1 := by unfold wtF; rw [if_neg (by omega), if_pos (by omega)]
      rw [e] at R' hle
      clear hgi hgg hE R G
      generalize liO xc v'.ph.toNat = a at *
      (have zc1 := lf; have zc2 := cn; have zc3 := cc; have zc4 := cd; have zc5 := tt; refine WW ?_; clear zc1 zc2 zc3 zc4 zc5)
      exact ⟨rem d2, by omega, d2, ⟨xc, false⟩, v', c2, w + 1, now + 1, ⟨E', R', hc52, K', rfl⟩, rfl⟩
    · have e : wtF v v' w = 0 + 1 := by unfold wtF; rw [if_pos (.inr (.inl hph)), if_pos (by omega)]
      rw [e] at R' hle
      clear hgi hgg hE R G
      generalize liO xc v'.ph.toNat = a at *
      (have zc1 := lf; have zc2 := cn; have zc3 := cc; have zc4 := cd; have zc5 := tt; refine WW ?_; clear zc1 zc2 zc3 zc4 zc5)
      exact ⟨rem d2, by omega, d2, ⟨xc, false⟩, v', c2, 0 + 1, now + 1, ⟨E', R', hc52, K', rfl⟩, rfl⟩
  · obtain ⟨x, v', cd, R', E', K'⟩ := key c da hc5 hcl (by omega)
    clear key hcl hcl2 cc
    have hle := R'.le J (by have := E'.p1; omega)
    have hxn := R'.C.n
    have hxl := R'.l
    have hgg := R'.g
    have p1 := E'.p1
    have p0' := E'.p0
    have q0 := E'.g0
    have hw0 := R.w0
    have hwl := R.le J (by have := hE.p1; omega)
    generalize trF j = tr at *
    clear hlen
    obtain ⟨xc, xl⟩ := x
    dsimp only at *
    subst hxl
    rw [show sgA ⟨xc, false⟩ = .agg [slA liA xc.li, iA xc.gr, slA iA xc.nx, iA xc.wt, bA false] from rfl] at *
    have hlx := map_len liA xc.li
    by_cases hA : v'.ph < 0
    · have e : wtF v v' w = 0 := by unfold wtF; rw [if_pos (.inl hA), if_neg (by omega)]; rfl
      rw [e] at R' hle
      clear hgg hE R G
      (have zc1 := lf; have zc2 := cn; have zc3 := cd; have zc4 := tt; refine WW ?_; clear zc1 zc2 zc3 zc4)
      exact ⟨rem da, by omega, da, ⟨xc, false⟩, v', c, 0, now + 1, ⟨E', R', hc5, K', rfl⟩, rfl⟩
    have hgi := hgg (by omega)
    have hy := map_atI liA xc.li v'.ph (by omega) (by omega)
    change (xc.li.map liA)[v'.ph.toNat]? = some (liA (liO xc v'.ph.toNat)) at hy
    by_cases hB : 0 < v'.gr
    · have hlm := hgi.1 hB
      have e : wtF v v' w = 0 := by unfold wtF; rw [if_pos (.inr (.inr hB)), if_neg (by omega)]; rfl
      rw [e] at R' hle
      clear hgi hgg hE R G
      generalize liO xc v'.ph.toNat = a at *
      by_cases hph : v'.ph = v.ph
      · (have zc1 := lf; have zc2 := cn; have zc3 := cd; have zc4 := tt; refine WW ?_; clear zc1 zc2 zc3 zc4)
        exact ⟨rem da, by omega, da, ⟨xc, false⟩, v', c, 0, now + 1, ⟨E', R', hc5, K', rfl⟩, rfl⟩
      · (have zc1 := lf; have zc2 := cn; have zc3 := cd; have zc4 := tt; refine WW ?_; clear zc1 zc2 zc3 zc4)
        exact ⟨rem da, by omega, da, ⟨xc, false⟩, v', c, 0, now + 1, ⟨E', R', hc5, K', rfl⟩, rfl⟩
    have hlm : ¬ (liO xc v'.ph.toNat).lamp = 1 := fun h => hB (hgi.2 h)
    by_cases hph : v'.ph = v.ph
    · have e : wtF v v' w = w + 1 := by unfold wtF; rw [if_neg (by omega), if_pos (by omega)]
      rw [e] at R' hle
      clear hgi hgg hE R G
      generalize liO xc v'.ph.toNat = a at *
      (have zc1 := lf; have zc2 := cn; have zc3 := cd; have zc4 := tt; refine WW ?_; clear zc1 zc2 zc3 zc4)
      exact ⟨rem da, by omega, da, ⟨xc, false⟩, v', c, w + 1, now + 1, ⟨E', R', hc5, K', rfl⟩, rfl⟩
    · have e : wtF v v' w = 0 + 1 := by unfold wtF; rw [if_pos (.inr (.inl hph)), if_pos (by omega)]
      rw [e] at R' hle
      clear hgi hgg hE R G
      generalize liO xc v'.ph.toNat = a at *
      (have zc1 := lf; have zc2 := cn; have zc3 := cd; have zc4 := tt; refine WW ?_; clear zc1 zc2 zc3 zc4)
      exact ⟨rem da, by omega, da, ⟨xc, false⟩, v', c, 0 + 1, now + 1, ⟨E', R', hc5, K', rfl⟩, rfl⟩
end Av
end Go.Proofs.Ytkliodbbcblobaa
