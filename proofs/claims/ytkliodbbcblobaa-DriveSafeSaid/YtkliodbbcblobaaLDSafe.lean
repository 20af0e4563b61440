/- The law DriveSafe. -/
import Derived.Test.YtkliodbbcblobaaDrA
namespace Go.Proofs.Ytkliodbbcblobaa
namespace Av
set_option linter.unusedSimpArgs false
set_option linter.unusedVariables false
set_option maxRecDepth 4000
set_option maxHeartbeats 4000000
theorem dsafe_c (l : List Int) (hl : l.length ≤ 9223372036854775807) : CallSim Try.prog 11 [slA iA l] [] (bA true) [] := by
  have hf := few_c l hl
  have aw := awake22_c
  by_cases hfew : l.length ≤ 300
  case neg =>
    rw [decide_eq_false hfew] at hf
    (refine callSim_of tok Try.func11 rfl (fun args w => Try.call11 args w) rfl rfl rfl (fun F hF => ?_))
    (have zc1 := hf; have zc2 := aw; refine WL ?_; clear zc1 zc2)
    exact fin_ret [] rfl rfl rfl rfl
  rw [decide_eq_true hfew] at hf
  have hn := new_c l hl
  have hr0 : rem ⟨l, 0, Nat.zero_le _, hl⟩ ≤ 300 := by unfold rem; dsimp only; omega
  generalize (⟨l, 0, Nat.zero_le _, hl⟩ : Dk) = d0 at *
  obtain ⟨per, cap, hold, lock, j, d1, G, J, _, hrd, cj⟩ := jun22_ex d0
  have hjn := J.n
  have hjc := J.c
  have hlp := map_len phA j.ph
  have n1 := rsnew_c j J
  have n2 := newA2_c (j.ph.map phA).length (by omega)
  have e0 : EI (j.ph.map phA).length d1 (newF (j.ph.map phA).length) 1 := ⟨by simp [newF], fun e he => by simp [newF] at he; omega, by simp [newF], by simp [newF]; omega, by simp [newF], by simp [newF], by omega, by omega, by simp [newF]⟩
  have C0 : CV j (newS j).c := cv_in J
  generalize newF (j.ph.map phA).length = v0 at *
  generalize hz : newS j = s0 at *
  (refine callSim_of tok Try.func11 rfl (fun args w => Try.call11 args w) rfl rfl rfl (fun F hF => ?_))
  (have zc1 := hf; have zc2 := hn; have zc3 := cj; have zc4 := n1; have zc5 := n2; refine WL ?_; clear zc1 zc2 zc3 zc4 zc5)
  (refine sim_whl (rem d1) [6, 7, 1000, 4, 5] [4, 5] [3, 4, 5, 6, 7] [8, 3, 4, 5, 6, 7] rfl (fun zn T U zs => ∃ (d : Dk) (s : Sg) (v : Sv) (now : Int), (EI (j.ph.map phA).length d v now ∧ CV j s.c ∧ zn = rem d) ∧ zs = ⟨(8, iA now) :: T, (6, .box [slA liA s.c.li, iA s.c.gr, slA iA s.c.nx, iA s.c.wt, bA s.lat]) :: (7, .box [iA v.ph, iA v.gr, slA iA v.en]) :: (1000, dkE d) :: U⟩) ?_; (conv => whnf); refine ⟨?_, ?_⟩)
  · exact ⟨d1, s0, v0, 1, ⟨e0, C0, rfl⟩, rfl⟩
  rintro zn st ⟨d, s, v, now, ⟨hE, C, rfl⟩, rfl⟩
  have lf := left_c d
  by_cases hlf : d.a < d.l.length
  case neg =>
    rw [decide_eq_false hlf] at lf
    (have zc1 := lf; have zc2 := aw; refine WL ?_; clear zc1 zc2)
    exact fin_ret [] rfl rfl rfl rfl
  rw [decide_eq_true hlf] at lf
  have hlt := rem_lt d hlf
  have hn0 := hE.n0
  have hn2 := hE.n1
  have hlen := hE.len
  obtain ⟨c, d2, hc5, hcl, hrd2, cc⟩ := claims_ex d (j.ph.map phA).length now (by omega) (by omega) (by omega) (by omega)
  have b30 := nx_bd d2 30 (by omega)
  have cn := next_c d2 30 (by omega) (by omega)
  have cn2 := next_c (ad d2) 2 (by omega) (by omega)
  have hr1 := rem_ad d2
  have hr2 := rem_ad (ad d2)
  have p0 := G.p0
  have g0 := G.c0
  have g1 := G.c1
  dsimp only at p0 g0 g1
  have cd := drive_c ⟨[], [], per, cap, hold, lock⟩ j J s C v c (nx d2 30 - 20) now (hE.dcb (by omega) _ p0 ⟨g0, by dsimp only; omega⟩ c hc5 hcl) (dv_gr hE _ c hcl)
  have nxt := fun d' hd => dv_next hE ⟨[], [], per, cap, hold, lock⟩ j s c hcl (nx d2 30 - 20) d' hd
  have X := dv_v J C ⟨[], [], per, cap, hold, lock⟩ v c (nx d2 30 - 20) now
  have hxl := dv_lat (g := ⟨[], [], per, cap, hold, lock⟩) (j := j) (s := s) (v := v) (c := c) (k := nx d2 30 - 20) (now := now)
  generalize (dvF ⟨[], [], per, cap, hold, lock⟩ j s v c (nx d2 30 - 20) now).2 = w at *
  generalize (dvF ⟨[], [], per, cap, hold, lock⟩ j s v c (nx d2 30 - 20) now).1 = x at *
  have hxn := X.n
  have hxm := X.m
  have rs := rsreset_c j J x (by omega) (by omega)
  have hlx := map_len liA x.c.li
  have hsb := bsF_bd (nsB x.c) x.c.li.length (by omega)
  have hp8 := p2_8 (n := x.c.li.length) (by omega)
  have ccl := rclash_c j.cf (by omega) (bsF (nsB x.c) x.c.li.length) (by omega) (fun p q hp hq => by
    rw [inS_n _ (by omega) (by omega), inS_n _ (by omega) (by omega)]
    exact cv_pair J X p q (by omega) (by omega))
  have XN : CV j (newS j).c := cv_in J
  generalize nx d2 30 = k at *
  obtain ⟨xc, xl⟩ := x
  dsimp only at *
  rw [show sgA ⟨xc, xl⟩ = .agg [slA liA xc.li, iA xc.gr, slA iA xc.nx, iA xc.wt, bA xl] from rfl] at *
  clear hf hn cj n1 n2 e0 hE
  cases xl with
  | true =>
    have hph := hxl rfl
    change CallSim Try.prog 29 [jnA j, .agg [slA liA xc.li, iA xc.gr, slA iA xc.nx, iA xc.wt, bA true]] [] (.tup [sgA (newS j), bA true]) [] at rs
    rw [hz] at rs XN
    have hcase : nx (ad d2) 2 = 0 ∨ nx (ad d2) 2 ≠ 0 := by omega
    generalize nx (ad d2) 2 = q at *
    rcases hcase with hq | hq
    all_goals
      (have zc1 := lf; have zc2 := cc; have zc3 := cn; have zc4 := cd; refine WW ?_; clear zc1 zc2 zc3 zc4)
      (refine sim_cnt (xc.li.length) [4, 5, 6, 7, 1000] [4, 5, 6, 7, 1000] [3, 4, 5, 6, 7, 8, 59, 60] [11, 61, 3, 4, 5, 6, 7, 8, 59, 60] rfl (fun i T U => ⟨(11, iA (bsF (nsB xc) i)) :: (61, iA i) :: T, U⟩) ?_; (conv => whnf); refine ⟨by rfl, ?_, ?_⟩)
      · intro i hi
        have hy := map_at liA xc.li i hi
        change (xc.li.map liA)[i]? = some (liA (liO xc i)) at hy
        have ho := bsF_or (nsB xc) i (by omega)
        have e : bsF (nsB xc) (i + 1) = if nsB xc i = true then bsF (nsB xc) i + p2 i else bsF (nsB xc) i := rfl
        rw [← ho] at e
        rw [e, show nsB xc i = nrB (liO xc i).lamp from rfl]
        clear cd rs ccl cn cn2 cc e ho lf aw nxt
        generalize liO xc i = a at *
        generalize bsF (nsB xc) i = b at *
        unfold nrB
        by_cases h1 : a.lamp = 1
        · rw [decide_eq_true (.inl h1), if_pos rfl]
          (refine WW ?_)
          rfl
        by_cases h2 : a.lamp = 2
        · rw [decide_eq_true (.inr h2), if_pos rfl]
          (refine WW ?_)
          rfl
        · rw [decide_eq_false (by omega), if_neg Bool.false_ne_true]
          (refine WW ?_)
          rfl
      · generalize bsF (nsB xc) xc.li.length = se at *
        (have zc1 := ccl; have zc2 := cn2; have zc3 := rs; refine WW ?_; clear zc1 zc2 zc3)
        first
          | exact ⟨rem (ad (ad d2)), by omega, ad (ad d2), s0, w, now + 1, ⟨nxt _ (by omega), XN, rfl⟩, rfl⟩
          | exact ⟨rem (ad (ad d2)), by omega, ad (ad d2), ⟨xc, true⟩, w, now + 1, ⟨nxt _ (by omega), X, rfl⟩, rfl⟩
  | false =>
    clear hxl
    · skip
      (have zc1 := lf; have zc2 := cc; have zc3 := cn; have zc4 := cd; refine WW ?_; clear zc1 zc2 zc3 zc4)
      (refine sim_cnt (xc.li.length) [4, 5, 6, 7, 1000] [4, 5, 6, 7, 1000] [3, 4, 5, 6, 7, 8, 59, 60] [11, 61, 3, 4, 5, 6, 7, 8, 59, 60] rfl (fun i T U => ⟨(11, iA (bsF (nsB xc) i)) :: (61, iA i) :: T, U⟩) ?_; (conv => whnf); refine ⟨by rfl, ?_, ?_⟩)
      · intro i hi
        have hy := map_at liA xc.li i hi
        change (xc.li.map liA)[i]? = some (liA (liO xc i)) at hy
        have ho := bsF_or (nsB xc) i (by omega)
        have e : bsF (nsB xc) (i + 1) = if nsB xc i = true then bsF (nsB xc) i + p2 i else bsF (nsB xc) i := rfl
        rw [← ho] at e
        rw [e, show nsB xc i = nrB (liO xc i).lamp from rfl]
        clear cd rs ccl cn cn2 cc e ho lf aw nxt
        generalize liO xc i = a at *
        generalize bsF (nsB xc) i = b at *
        unfold nrB
        by_cases h1 : a.lamp = 1
        · rw [decide_eq_true (.inl h1), if_pos rfl]
          (refine WW ?_)
          rfl
        by_cases h2 : a.lamp = 2
        · rw [decide_eq_true (.inr h2), if_pos rfl]
          (refine WW ?_)
          rfl
        · rw [decide_eq_false (by omega), if_neg Bool.false_ne_true]
          (refine WW ?_)
          rfl
      · generalize bsF (nsB xc) xc.li.length = se at *
        (have zc1 := ccl; refine WW ?_; clear zc1)
        exact ⟨rem (ad d2), by omega, ad d2, ⟨xc, false⟩, w, now + 1, ⟨nxt _ (by omega), X, rfl⟩, rfl⟩
end Av
end Go.Proofs.Ytkliodbbcblobaa
