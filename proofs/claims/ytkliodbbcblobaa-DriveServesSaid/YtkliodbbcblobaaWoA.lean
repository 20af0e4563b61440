/- law12: the longest transition; how many steps to a target. -/
import Derived.Test.YtkliodbbcblobaaRkA
import Derived.Test.YtkliodbbcblobaaRjE
namespace Go.Proofs.Ytkliodbbcblobaa
namespace Av
set_option linter.unusedSimpArgs false
set_option linter.unusedVariables false
set_option maxRecDepth 4000
set_option maxHeartbeats 1000000
theorem trN_bd {j : Jn} (J : JV j) : ∀ n, n ≤ j.ph.length → 0 ≤ trN j.ph n ∧ trN j.ph n ≤ 180
  | 0, _ => ⟨Int.le_refl _, by show (0 : Int) ≤ 180; omega⟩
  | n + 1, h => by
    have ih := trN_bd J n (by omega)
    have hti := J.ti n (by omega)
    unfold phO at hti
    unfold trN lnF
    omega
theorem wtrans_c (j : Jn) (J : JV j) : CallSim Try.prog 37 [jnA j] [] (iA (trF j)) [] := by
  have hl := map_len phA j.ph
  have hn := J.n
  have hst := J.st
  have hbd := trN_bd J
  unfold trF
  (refine callSim_of tok Try.func37 rfl (fun args w => Try.call37 args w) rfl rfl rfl (fun F hF => ?_))
  (refine WW ?_)
  (refine sim_cnt (j.ph.length) [1] [1] [1, 7, 8] [3, 9, 1, 7, 8] rfl (fun i T U => ⟨(3, iA (trN j.ph i)) :: (9, iA i) :: T, U⟩) ?_; (conv => whnf); refine ⟨by rfl, ?_, ?_⟩)
  · intro i hi
    have hy := map_at phA j.ph i hi
    have hti := J.ti i hi
    have hln : lnF (phO j i) ≤ 60 ∧ 1 ≤ lnF (phO j i) := by unfold lnF; omega
    have cn := lneed_c (phO j i) ⟨by omega, by omega, by omega, by omega⟩
    have e : trN j.ph (i + 1) = max (trN j.ph i) (lnF (phO j i) + (phO j i).yel + (phO j i).red) := rfl
    rw [e]
    have h1 := hbd i (by omega)
    change (j.ph.map phA)[i]? = some (phA (phO j i)) at hy
    clear hbd e
    generalize trN j.ph i = g at *
    generalize lnF (phO j i) = n at *
    generalize phO j i = q at *
    (have zc1 := cn; refine WW ?_; clear zc1)
    rfl
  · have h1 := hbd j.ph.length (Nat.le_refl _)
    generalize trN j.ph j.ph.length = g at *
    (refine WW ?_)
    exact fin_ret [] rfl rfl rfl rfl
theorem rtrans_c (j : Jn) (J : JV j) : CallSim Try.prog 38 [jnA j] [] (iA (trF j)) [] := by
  have hl := map_len phA j.ph
  have hn := J.n
  have hst := J.st
  have hbd := trN_bd J
  unfold trF
  rw [Int.add_comm]
  (refine callSim_of tok Try.func38 rfl (fun args w => Try.call38 args w) rfl rfl rfl (fun F hF => ?_))
  (refine WW ?_)
  (refine sim_cnt (j.ph.length) [1] [1] [1, 7, 8] [3, 9, 1, 7, 8] rfl (fun i T U => ⟨(3, iA (trN j.ph i)) :: (9, iA i) :: T, U⟩) ?_; (conv => whnf); refine ⟨by rfl, ?_, ?_⟩)
  · intro i hi
    have hy := map_at phA j.ph i hi
    have hti := J.ti i hi
    have hln : lnF (phO j i) ≤ 60 ∧ 1 ≤ lnF (phO j i) := by unfold lnF; omega
    have cn := rneed_c (phO j i) ⟨by omega, by omega, by omega, by omega⟩
    have e : trN j.ph (i + 1) = max (trN j.ph i) (lnF (phO j i) + (phO j i).yel + (phO j i).red) := rfl
    rw [e]
    have h1 := hbd i (by omega)
    change (j.ph.map phA)[i]? = some (phA (phO j i)) at hy
    clear hbd e
    generalize trN j.ph i = g at *
    generalize lnF (phO j i) = n at *
    generalize phO j i = q at *
    (have zc1 := cn; refine WW ?_; clear zc1)
    rfl
  · have h1 := hbd j.ph.length (Nat.le_refl _)
    generalize trN j.ph j.ph.length = g at *
    (refine WW ?_)
    exact fin_ret [] rfl rfl rfl rfl
theorem wgreen_c (c : Ct) (hn : c.li.length ≤ 1000) (p : Nat) (hp : p < c.li.length) : CallSim Try.prog 69 [ctA c, iA p] [] (bA (decide ((liO c p).lamp = 1))) [] := by
  have hl := map_len liA c.li
  have hy := map_at liA c.li p hp
  change (c.li.map liA)[p]? = some (liA (liO c p)) at hy
  generalize liO c p = a at *
  by_cases h : a.lamp = 1
  · rw [decide_eq_true h]
    (refine callSim_of tok Try.func69 rfl (fun args w => Try.call69 args w) rfl rfl rfl (fun F hF => ?_))
    (refine WW ?_)
    exact fin_ret [] rfl rfl rfl rfl
  · rw [decide_eq_false h]
    (refine callSim_of tok Try.func69 rfl (fun args w => Try.call69 args w) rfl rfl rfl (fun F hF => ?_))
    (refine WW ?_)
    exact fin_ret [] rfl rfl rfl rfl
/-- The least number of steps after which the target is green. -/
theorem reach_ex {j : Jn} (J : JV j) {c : Ct} (C : CV j c) {t : Nat} (ht : t < j.ph.length) : ∃ k : Nat, (k : Int) ≤ trF j ∧ (liO (stI j c t k) t).lamp = 1 ∧ ∀ i, i < k → (liO (stI j c t i) t).lamp ≠ 1 := by
  obtain ⟨n, hn, hn2⟩ := reach J C ht
  obtain ⟨k, h1, h2, h3⟩ := least (P := fun k => (liO (stI j c t k) t).lamp = 1) n hn2
  exact ⟨k, by omega, h2, h3⟩
theorem wreach_c (j : Jn) (J : JV j) (c : Ct) (C : CV j c) (t : Nat) (ht : t < j.ph.length) (k : Nat) (hle : (k : Int) ≤ trF j) (hk : (liO (stI j c t k) t).lamp = 1) (hm : ∀ i, i < k → (liO (stI j c t i) t).lamp ≠ 1) : CallSim Try.prog 35 [jnA j, ctA c, iA t] [] (iA k) [] := by
  have hl := map_len phA j.ph
  have hn := J.n
  have CV1 := fun i => stI_v J C t i
  have g0 := wgreen_c c (by have := C.n; omega) t (by have := C.n; omega)
  by_cases hk0 : k = 0
  · subst hk0
    change (liO c t).lamp = 1 at hk
    rw [decide_eq_true hk] at g0
    (refine callSim_of tok Try.func35 rfl (fun args w => Try.call35 args w) rfl rfl rfl (fun F hF => ?_))
    (have zc1 := g0; refine WW ?_; clear zc1)
    exact fin_ret [] rfl rfl rfl rfl
  have h0 := hm 0 (by omega)
  change (liO c t).lamp ≠ 1 at h0
  rw [decide_eq_false h0] at g0
  have ct := wtrans_c j J
  have hb : 0 ≤ trF j ∧ trF j ≤ 240 := by
    have := trN_bd J j.ph.length (Nat.le_refl _)
    have := J.st
    unfold trF
    omega
  generalize trF j = tr at *
  obtain ⟨N, rfl⟩ : ∃ N : Nat, tr = N := ⟨tr.toNat, by omega⟩
  have hmin : min (N : Int) 240 = N := by omega
  (refine callSim_of tok Try.func35 rfl (fun args w => Try.call35 args w) rfl rfl rfl (fun F hF => ?_))
  (have zc1 := g0; have zc2 := ct; refine WW ?_; clear zc1 zc2)
  rw [hmin]
  (refine sim_cntP (N) [4, 3] [3] [2, 3, 4, 7] [8, 2, 3, 4, 7] rfl (fun i T U zs => (i < k) ∧ zs = ⟨(8, iA ((i : Int) + 1)) :: T, (4, .box [slA liA (stI j c t i).li, iA (stI j c t i).gr, slA iA (stI j c t i).nx, iA (stI j c t i).wt]) :: U⟩) ?_; (conv => whnf); refine ⟨?_, ?_, ?_⟩)
  · exact ⟨by omega, rfl⟩
  · rintro i st hi ⟨hik, rfl⟩
    have cs := step_c j J (stI j c t i) (CV1 i) t
    have C2 := CV1 (i + 1)
    rw [show stF j (stI j c t i) t = stI j c t (i + 1) from rfl] at cs
    have g1 := wgreen_c (stI j c t (i + 1)) (by have := C2.n; omega) t (by have := C2.n; omega)
    rw [show (((i + 1 : Nat) : Int) + 1) = (i : Int) + 1 + 1 by omega]
    by_cases hik2 : i + 1 = k
    · rw [hik2] at g1 cs
      rw [decide_eq_true hk] at g1
      have e : iA (k : Int) = iA ((i : Int) + 1) := by rw [← hik2]; rfl
      rw [e]
      generalize stI j c t k = c2 at *
      generalize stI j c t i = c1 at *
      clear CV1 hm e C2 hk
      (have zc1 := cs; have zc2 := g1; refine WW ?_; clear zc1 zc2)
      exact fin_ret [] rfl rfl rfl rfl
    · rw [decide_eq_false (hm (i + 1) (by omega))] at g1
      generalize stI j c t (i + 1) = c2 at *
      generalize stI j c t i = c1 at *
      clear CV1 hm C2 hk
      (have zc1 := cs; have zc2 := g1; refine WW ?_; clear zc1 zc2)
      exact ⟨by omega, rfl⟩
  · rintro st ⟨hik, rfl⟩
    exfalso; omega
theorem rreach_c (j : Jn) (J : JV j) (c : Ct) (C : CV j c) (t : Nat) (ht : t < j.ph.length) (k : Nat) (hle : (k : Int) ≤ trF j) (hk : (liO (stI j c t k) t).lamp = 1) (hm : ∀ i, i < k → (liO (stI j c t i) t).lamp ≠ 1) : CallSim Try.prog 36 [jnA j, ctA c, iA t] [] (iA k) [] := by
  have hl := map_len phA j.ph
  have hl2 := map_len liA c.li
  have hcn := C.n
  have hn := J.n
  have CV1 := fun i => stI_v J C t i
  have ct := rtrans_c j J
  have hb : 0 ≤ trF j ∧ trF j ≤ 240 := by
    have := trN_bd J j.ph.length (Nat.le_refl _)
    have := J.st
    unfold trF
    omega
  generalize trF j = tr at *
  obtain ⟨N, rfl⟩ : ∃ N : Nat, tr = N := ⟨tr.toNat, by omega⟩
  (refine callSim_of tok Try.func36 rfl (fun args w => Try.call36 args w) rfl rfl rfl (fun F hF => ?_))
  (refine WW ?_)
  (refine sim_cntP (N + 1) [4, 3] [3] [2, 3, 4] [7, 2, 3, 4] rfl (fun i T U zs => (i ≤ k) ∧ zs = ⟨(7, iA i) :: T, (4, .box [slA liA (stI j c t i).li, iA (stI j c t i).gr, slA iA (stI j c t i).nx, iA (stI j c t i).wt]) :: U⟩) ?_; (conv => whnf); refine ⟨?_, ?_, ?_⟩)
  · exact ⟨by omega, rfl⟩
  · rintro i st hi ⟨hik, rfl⟩
    have C1 := CV1 i
    have cs := rstepC_c j J (stI j c t i) (CV1 i) t
    rw [show stF j (stI j c t i) t = stI j c t (i + 1) from rfl] at cs
    have hy := map_at liA (stI j c t i).li t (by have := C1.n; omega)
    have hl3 := map_len liA (stI j c t i).li
    change ((stI j c t i).li.map liA)[t]? = some (liA (liO (stI j c t i) t)) at hy
    have hc1 := C1.n
    by_cases hik2 : i = k
    · subst hik2
      generalize stI j c t (i + 1) = c2 at *
      generalize liO (stI j c t i) t = a at *
      generalize stI j c t i = c1 at *
      clear CV1 hm C1 hl2
      (have zc1 := ct; refine WW ?_; clear zc1)
      exact fin_ret [] rfl rfl rfl rfl
    · have hmi := hm i (by omega)
      generalize stI j c t (i + 1) = c2 at *
      generalize liO (stI j c t i) t = a at *
      generalize stI j c t i = c1 at *
      clear CV1 hm C1 hk hl2
      (have zc1 := ct; have zc2 := cs; refine WW ?_; clear zc1 zc2)
      exact ⟨by omega, rfl⟩
  · rintro st ⟨hik, rfl⟩
    exfalso; omega
theorem wreach_o (j : Jn) (J : JV j) (c : Ct) (t : Int) (ht : t < 0 ∨ j.ph.length ≤ t) : CallSim Try.prog 35 [jnA j, ctA c, iA t] [] (iA (-1)) [] := by
  have hl := map_len phA j.ph
  have hn := J.n
  rcases ht with h | h
  · (refine callSim_of tok Try.func35 rfl (fun args w => Try.call35 args w) rfl rfl rfl (fun F hF => ?_))
    (refine WW ?_)
    exact fin_ret [] rfl rfl rfl rfl
  · (refine callSim_of tok Try.func35 rfl (fun args w => Try.call35 args w) rfl rfl rfl (fun F hF => ?_))
    (refine WW ?_)
    exact fin_ret [] rfl rfl rfl rfl
theorem rreach_o (j : Jn) (J : JV j) (c : Ct) (t : Int) (ht : t < 0 ∨ j.ph.length ≤ t) : CallSim Try.prog 36 [jnA j, ctA c, iA t] [] (iA (-1)) [] := by
  have hl := map_len phA j.ph
  have hn := J.n
  rcases ht with h | h
  · (refine callSim_of tok Try.func36 rfl (fun args w => Try.call36 args w) rfl rfl rfl (fun F hF => ?_))
    (refine WW ?_)
    exact fin_ret [] rfl rfl rfl rfl
  · (refine callSim_of tok Try.func36 rfl (fun args w => Try.call36 args w) rfl rfl rfl (fun F hF => ?_))
    (refine WW ?_)
    exact fin_ret [] rfl rfl rfl rfl
end Av
end Go.Proofs.Ytkliodbbcblobaa
