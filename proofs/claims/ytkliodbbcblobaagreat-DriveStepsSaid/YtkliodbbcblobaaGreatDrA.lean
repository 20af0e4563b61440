
/- law22: a tick of a junction. -/
import Derived.Test.YtkliodbbcblobaaGreatJuC
import Derived.Test.YtkliodbbcblobaaGreatLJSafe
import Derived.Test.YtkliodbbcblobaaGreatArY
import Derived.Test.YtkliodbbcblobaaGreatRkA
namespace Go.Proofs.YtkliodbbcblobaaGreat
namespace Av
set_option linter.unusedSimpArgs false
set_option linter.unusedVariables false
set_option maxRecDepth 4000
set_option maxHeartbeats 1000000
theorem cpS_c (s : Sg) (h1 : s.c.li.length ≤ 1073741824) (h2 : s.c.nx.length ≤ 1073741824) : CallSim Tryz.prog 22 [sgA s] [] (sgA s) [] := by
  have c1 := cloneLs_c s.c.li h1
  have c2 := cloneIs_c s.c.nx h2
  (refine callSim_of tok Tryz.func22 rfl (fun args w => Tryz.call22 args w) rfl rfl rfl (fun F hF => ?_))
  (have zc1 := c1; have zc2 := c2; refine WW ?_; clear zc1 zc2)
  exact fin_ret [] rfl rfl rfl rfl
/-- Is the phase that is served green? -/
def grB (s : Sg) (v : Sv) : Bool := decide (0 ≤ v.ph ∧ v.ph < s.c.li.length) && ((liO s.c v.ph.toNat).lamp == 1)
def dvF (g : Cf) (j : Jn) (s : Sg) (v : Sv) (l : List Cl) (k now : Int) : Sg × Sv :=
  if s.lat = true then (s, endsF v now)
  else if (sjF j s (decF g v l now).ph k).lat = true then (sjF j s (decF g v l now).ph k, endsF (decF g v l now) now)
  else (sjF j s (decF g v l now).ph k, cntF (decF g v l now) (grB (sjF j s (decF g v l now).ph k) (decF g v l now)))
theorem drive_c (g : Cf) (j : Jn) (J : JV j) (s : Sg) (C : CV j s.c) (v : Sv) (l : List Cl) (k now : Int) (H : DcB g v l now) (hgr : -1000000 ≤ (decF g v l now).gr) : CallSim Tryz.prog 13 [cfA g, jnA j, sgA s, svA v, slA clA l, iA k, iA now] [] (.tup [sgA (dvF g j s v l k now).1, svA (dvF g j s v l k now).2]) [] := by
  have hJ := J.n
  have hn := C.n
  have hm := C.m
  have hb : SvB v := ⟨by have := H.sl; omega⟩
  have hb2 : SvB (decF g v l now) := ⟨by rw [dec_len]; have := H.sl; omega⟩
  have c0 := cpS_c s (by omega) (by omega)
  have c1 := end_c v hb now
  have c2 := decide_c g v l now H
  have c3 := sstep_c j J s C (decF g v l now).ph k
  have c4 := end_c (decF g v l now) hb2 now
  have c5 := count_c (decF g v l now) hb2 (grB (sjF j s (decF g v l now).ph k) (decF g v l now)) hgr
  have X := sj_v J C (decF g v l now).ph k
  have hxn := X.n
  unfold dvF
  generalize endsF v now = v0 at *
  generalize decF g v l now = v1 at *
  generalize endsF v1 now = v2 at *
  generalize sjF j s v1.ph k = x at *
  have hgb : grB x v1 = (decide (0 ≤ v1.ph ∧ v1.ph < x.c.li.length) && ((liO x.c v1.ph.toNat).lamp == 1)) := rfl
  generalize grB x v1 = b at *
  generalize cntF v1 b = v3 at *
  clear H hgr X C hb hb2
  obtain ⟨sc, sl⟩ := s
  obtain ⟨xc, xl⟩ := x
  dsimp only at *
  have hlx := map_len liA xc.li
  cases sl with
  | true =>
    rw [if_pos rfl]
    (refine callSim_of tok Tryz.func13 rfl (fun args w => Tryz.call13 args w) rfl rfl rfl (fun F hF => ?_))
    (have zc1 := c0; have zc2 := c1; refine WW ?_; clear zc1 zc2)
    exact fin_ret [] rfl rfl rfl rfl
  | false =>
  rw [if_neg Bool.false_ne_true]
  cases xl with
  | true =>
    rw [if_pos rfl]
    (refine callSim_of tok Tryz.func13 rfl (fun args w => Tryz.call13 args w) rfl rfl rfl (fun F hF => ?_))
    (have zc1 := c2; have zc2 := c3; have zc3 := c4; refine WW ?_; clear zc1 zc2 zc3)
    exact fin_ret [] rfl rfl rfl rfl
  | false =>
  rw [if_neg Bool.false_ne_true]
  dsimp only
  rw [show sgA ⟨xc, false⟩ = .agg [slA liA xc.li, iA xc.gr, slA iA xc.nx, iA xc.wt, bA false] from rfl] at *
  by_cases h1 : 0 ≤ v1.ph
  case neg =>
    rw [decide_eq_false (fun h => h1 h.1), Bool.false_and] at hgb
    subst hgb
    (refine callSim_of tok Tryz.func13 rfl (fun args w => Tryz.call13 args w) rfl rfl rfl (fun F hF => ?_))
    (have zc1 := c2; have zc2 := c3; have zc3 := c5; refine WW ?_; clear zc1 zc2 zc3)
    exact fin_ret [] rfl rfl rfl rfl
  by_cases h2 : v1.ph < xc.li.length
  case neg =>
    rw [decide_eq_false (fun h => h2 h.2), Bool.false_and] at hgb
    subst hgb
    (refine callSim_of tok Tryz.func13 rfl (fun args w => Tryz.call13 args w) rfl rfl rfl (fun F hF => ?_))
    (have zc1 := c2; have zc2 := c3; have zc3 := c5; refine WW ?_; clear zc1 zc2 zc3)
    exact fin_ret [] rfl rfl rfl rfl
  rw [decide_eq_true ⟨h1, h2⟩, Bool.true_and] at hgb
  have hy := map_atI liA xc.li v1.ph h1 h2
  change (xc.li.map liA)[v1.ph.toNat]? = some (liA (liO xc v1.ph.toNat)) at hy
  generalize liO xc v1.ph.toNat = a at *
  by_cases h3 : a.lamp = 1
  · rw [show (a.lamp == 1) = true by rw [beq_iff_eq]; exact h3] at hgb
    subst hgb
    (refine callSim_of tok Tryz.func13 rfl (fun args w => Tryz.call13 args w) rfl rfl rfl (fun F hF => ?_))
    (have zc1 := c2; have zc2 := c3; have zc3 := c5; refine WW ?_; clear zc1 zc2 zc3)
    exact fin_ret [] rfl rfl rfl rfl
  · rw [show (a.lamp == 1) = false by rw [beq_eq_false_iff_ne]; exact h3] at hgb
    subst hgb
    (refine callSim_of tok Tryz.func13 rfl (fun args w => Tryz.call13 args w) rfl rfl rfl (fun F hF => ?_))
    (have zc1 := c2; have zc2 := c3; have zc3 := c5; refine WW ?_; clear zc1 zc2 zc3)
    exact fin_ret [] rfl rfl rfl rfl
/-! ### The junctions and the configurations of the laws -/
theorem phD_rem (d : Dk) : rem (phD d) ≤ rem d := by
  unfold phD
  have h1 := rem_ad d
  have h2 := rem_ad (ad d)
  have h3 := rem_ad (ad (ad d))
  have h4 := rem_ad (ad (ad (ad d)))
  have h5 := rem_ad (ad (ad (ad (ad d))))
  have h6 := rem_ad (ad (ad (ad (ad (ad d)))))
  have h7 := rem_ad (ad (ad (ad (ad (ad (ad d))))))
  split <;> omega
theorem phL_rem (d : Dk) (l : List (Int × Int)) : ∀ i, rem (phL d l i).2 ≤ rem d
  | 0 => Nat.le_refl _
  | i + 1 => by
    have := phL_rem d l i
    have h := phD_rem (phL d l i).2
    show rem (phD (phL d l i).2) ≤ rem d
    omega
theorem jnD_rem (d : Dk) : rem (jnD d) ≤ rem d := by
  unfold jnD jnP
  have h1 := rem_ad d
  have h2 := rem_ad (ad d)
  have h3 := phL_rem (ad (ad d)) (shapesF (nx d 6)) (shapesF (nx d 6)).length
  have h4 := rem_ad (phL (ad (ad d)) (shapesF (nx d 6)) (shapesF (nx d 6)).length).2
  omega
structure CfD (g : Cf) : Prop where
  p0 : 1 ≤ g.per
  p1 : g.per ≤ 4
  c0 : 0 ≤ g.cap
  c1 : g.cap ≤ 4
  h0 : 1 ≤ g.hold
  h1 : g.hold ≤ 4
  l0 : 0 ≤ g.lock
  l1 : g.lock ≤ 5
theorem jun22_ex (d : Dk) : ∃ (per cap hold lock : Int) (j : Jn) (d' : Dk), CfD ⟨[], [], per, cap, hold, lock⟩ ∧ JV j ∧ trF j ≤ 10 ∧ rem d' ≤ rem d ∧ CallSim Tryz.prog 7 [.ptr 1000 0 0] [(1000, dkE d)] (.tup [.agg [.s (.slice none 0 0), .s (.slice none 0 0), iA per, iA cap, iA hold, iA lock], jnA j]) [(1000, dkE d')] := by
  have b1 := nx_bd d (4 - 1 + 1) (by omega)
  have b2 := nx_bd (ad d) 5 (by omega)
  have b3 := nx_bd (ad (ad d)) (4 - 1 + 1) (by omega)
  have b4 := nx_bd (ad (ad (ad d))) 6 (by omega)
  have c1 := range_c d 1 4 (by omega) (by omega) (by omega)
  have c2 := next_c (ad d) 5 (by omega) (by omega)
  have c3 := range_c (ad (ad d)) 1 4 (by omega) (by omega) (by omega)
  have c4 := next_c (ad (ad (ad d))) 6 (by omega) (by omega)
  have cj := junction_c (ad (ad (ad (ad d))))
  have h1 := rem_ad d
  have h2 := rem_ad (ad d)
  have h3 := rem_ad (ad (ad d))
  have h4 := rem_ad (ad (ad (ad d)))
  have h5 := jnD_rem (ad (ad (ad (ad d))))
  refine ⟨1 + nx d (4 - 1 + 1), nx (ad d) 5, 1 + nx (ad (ad d)) (4 - 1 + 1), nx (ad (ad (ad d))) 6, jnF (ad (ad (ad (ad d)))), jnD (ad (ad (ad (ad d)))), ⟨?_, ?_, ?_, ?_, ?_, ?_, ?_, ?_⟩, jv_jnF _, jn_quick _, by omega, ?_⟩
  all_goals (try (dsimp only; omega))
  generalize jnF (ad (ad (ad (ad d)))) = j at *
  generalize jnD (ad (ad (ad (ad d)))) = d5 at *
  generalize ad (ad (ad (ad d))) = d4 at *
  generalize 1 + nx d (4 - 1 + 1) = a1 at *
  generalize nx (ad d) 5 = a2 at *
  generalize 1 + nx (ad (ad d)) (4 - 1 + 1) = a3 at *
  generalize nx (ad (ad (ad d))) 6 = a4 at *
  generalize ad (ad (ad d)) = d3 at *
  generalize ad (ad d) = d2 at *
  generalize ad d = d1 at *
  (refine callSim_of tok Tryz.func7 rfl (fun args w => Tryz.call7 args w) rfl rfl rfl (fun F hF => ?_))
  (have zc1 := c1; have zc2 := c2; have zc3 := c3; have zc4 := c4; have zc5 := cj; refine WW ?_; clear zc1 zc2 zc3 zc4 zc5)
  exact fin_own [1000] rfl rfl rfl rfl
/-! ### What stays as it is -/
theorem ei_ends {n : Nat} {d' : Dk} {v : Sv} {now : Int} (hl : v.en.length = n) (he : ∀ e ∈ v.en, -1 ≤ e ∧ e ≤ now) (n0 : 1 ≤ now) (n1 : now + 1 + rem d' ≤ 301) : EI n d' (endsF v now) (now + 1) := by
  have h := endsF_en v now (by omega) he
  exact ⟨by rw [endsF_len]; exact hl, fun e hm => by have := h e hm; omega, by show (-1 : Int) ≤ -1; omega, by show (-1 : Int) < n; omega, by show (0 : Int) ≤ 0; omega, by show (0 : Int) ≤ 60; omega, by omega, by omega, fun _ => rfl⟩
theorem dv_next {n : Nat} {d : Dk} {v : Sv} {now : Int} (H : EI n d v now) (g : Cf) (j : Jn) (s : Sg) (c : List Cl) (hcl : ∀ x ∈ c, ClB n now x) (k : Int) (d' : Dk) (hd : rem d' + 1 ≤ rem d) : EI n d' (dvF g j s v c k now).2 (now + 1) := by
  have h0 := H.n0
  have h1 := H.n1
  have hen : ∀ e ∈ v.en, -1 ≤ e ∧ e ≤ now := fun e he => by have := H.en e he; omega
  unfold dvF
  split
  · exact ei_ends H.len hen h0 (by omega)
  · split
    · exact ei_ends (by rw [dec_len]; exact H.len) (dec_en g v c now (by omega) hen) h0 (by omega)
    · exact H.next g c hcl _ d' hd
theorem dv_v {j : Jn} (J : JV j) {s : Sg} (C : CV j s.c) (g : Cf) (v : Sv) (c : List Cl) (k now : Int) : CV j (dvF g j s v c k now).1.c := by
  unfold dvF
  split
  · exact C
  · split <;> exact sj_v J C _ _
theorem dv_lat {g : Cf} {j : Jn} {s : Sg} {v : Sv} {c : List Cl} {k now : Int} (h : (dvF g j s v c k now).1.lat = true) : (dvF g j s v c k now).2.ph = -1 := by
  unfold dvF at h ⊢
  split
  · rfl
  · rename_i h1
    rw [if_neg h1] at h
    split
    · rfl
    · rename_i h2
      rw [if_neg h2] at h
      exact absurd h h2
theorem dv_gr {n : Nat} {d : Dk} {v : Sv} {now : Int} (H : EI n d v now) (g : Cf) (c : List Cl) (hcl : ∀ x ∈ c, ClB n now x) : -1000000 ≤ (decF g v c now).gr := by
  have := dec_ph g v c now n (fun x hx => ⟨(hcl x hx).p0, (hcl x hx).p1⟩) ⟨H.p0, H.p1, H.g0, H.g1⟩ (by omega)
  omega
def nsB (c : Ct) (p : Nat) : Bool := nrB (liO c p).lamp
/-! ### The sanity check -/
def ph2 : Ph := ⟨0, 0, 1, 1, 1, 0, 0, 0⟩
def j2 : Jn := ⟨[ph2], [0], 0⟩
theorem one2 {p : Nat} (h : p < j2.ph.length) : p = 0 := by
  have : j2.ph.length = 1 := rfl
  omega
theorem jv2 : JV j2 := by
  refine ⟨by decide, rfl, fun i hi => ?_, fun p hp => ?_, fun p q hp hq => ?_, fun p q hp hq hpq _ => ?_, fun p hp => ?_, fun p hp => ?_, fun p hp => ?_, fun p hp g hg0 hg => ?_, by decide⟩
  · rcases one2 hi with rfl; decide
  · rcases one2 hp with rfl; decide
  · rcases one2 hp with rfl; rcases one2 hq with rfl; decide
  · rcases one2 hp with rfl; rcases one2 hq with rfl; exact absurd rfl hpq
  · rcases one2 hp with rfl; decide
  · rcases one2 hp with rfl; decide
  · rcases one2 hp with rfl; decide
  · exfalso
    have : (phO j2 p).group = 0 := by rcases one2 hp with rfl; rfl
    omega
def cD1 : Ct := stF j2 (inF j2) 0
theorem awake22_c : CallSim Tryz.prog 5 [] [] (bA true) [] := by
  have c1 := rsnew_c j2 jv2
  have c2 : CallSim Tryz.prog 9 [iA 1] [] (svA ⟨-1, 0, [-1]⟩) [] := newA2_c 1 (by omega)
  have H : DcB ⟨[], [], 1, 0, 3, 0⟩ ⟨-1, 0, [-1]⟩ [⟨0, 0, 0, 0, 0⟩] 1 := ⟨by decide, by decide, by decide, by decide, by decide, fun e he => by simp at he; omega, by simp, by simp, by simp, by simp⟩
  have c3 := drive_c ⟨[], [], 1, 0, 3, 0⟩ j2 jv2 (newS j2) (cv_in jv2) ⟨-1, 0, [-1]⟩ [⟨0, 0, 0, 0, 0⟩] (-1) 1 H (by decide +kernel)
  have e1 : dvF ⟨[], [], 1, 0, 3, 0⟩ j2 (newS j2) ⟨-1, 0, [-1]⟩ [⟨0, 0, 0, 0, 0⟩] (-1) 1 = (⟨⟨[⟨1, 0⟩], 0, [-1, -1], 0⟩, false⟩, ⟨0, 1, [-1]⟩) := by kernel_rfl
  rw [e1] at c3
  dsimp only at c3
  rw [show jnA j2 = .agg [.sl false [.agg [iA 0, iA 0, iA 1, iA 1, iA 1, iA 0, iA 0, iA 0]], .sl false [iA 0], iA 0] from rfl] at c1 c3
  generalize newS j2 = z at *
  rw [show sgA ⟨⟨[⟨1, 0⟩], 0, [-1, -1], 0⟩, false⟩ = .agg [.sl false [.agg [iA 1, iA 0]], iA 0, slA iA [-1, -1], iA 0, bA false] from rfl] at c3
  have hll : ([AV.agg [iA 1, iA 0]] : List AV).length = 1 := rfl
  have hy : ([AV.agg [iA 1, iA 0]] : List AV)[(0 : Int).toNat]? = some (.agg [iA 1, iA 0]) := rfl
  (refine callSim_of tok Tryz.func5 rfl (fun args w => Tryz.call5 args w) rfl rfl rfl (fun F hF => ?_))
  (have zc1 := c1; have zc2 := c2; have zc3 := c3; refine WL ?_; clear zc1 zc2 zc3)
  exact fin_ret [] rfl rfl rfl rfl
end Av
end Go.Proofs.YtkliodbbcblobaaGreat
