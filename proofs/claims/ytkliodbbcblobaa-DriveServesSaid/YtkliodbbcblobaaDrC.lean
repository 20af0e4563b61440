/- law22: a claim that is alone; plain Lean. -/
import Derived.Test.YtkliodbbcblobaaDrB
namespace Go.Proofs.Ytkliodbbcblobaa
namespace Av
set_option linter.unusedSimpArgs false
set_option linter.unusedVariables false
set_option maxRecDepth 4000
set_option maxHeartbeats 1000000
def clS (p : Int) : Cl := ⟨0, 0, p, 0, 1⟩
theorem clS_eq (p : Int) : (clS p).ph = p ∧ (clS p).k = 0 ∧ (clS p).si = 1 ∧ (clS p).ag = 0 ∧ (clS p).id = 0 := ⟨rfl, rfl, rfl, rfl, rfl⟩
theorem best_alone (g : Cf) (v : Sv) (p now : Int) : bestN g v now [clS p] 1 = if endF v.en p ≠ -1 ∧ now - endF v.en p ≤ g.lock then -1 else 0 := by
  rw [bestN_succ]
  have e : lckF g.lock v.en now (([clS p] : List Cl).getD 0 default).ph (([clS p] : List Cl).getD 0 default).k = decide (endF v.en p ≠ -1 ∧ now - endF v.en p ≤ g.lock) := by
    show lckF g.lock v.en now p 0 = _
    unfold lckF
    rw [show emF 0 = false from rfl, Bool.not_false, Bool.true_and, Bool.eq_iff_iff]
    simp
  rw [e]
  have e0 : bestN g v now [clS p] 0 = -1 := rfl
  by_cases h : endF v.en p ≠ -1 ∧ now - endF v.en p ≤ g.lock
  · rw [decide_eq_true h, if_pos rfl, if_pos h, e0]
  · rw [decide_eq_false h, if_neg Bool.false_ne_true, if_neg h, e0, if_pos (by omega)]
    rfl
theorem over_alone (g : Cf) (v : Sv) (p : Int) (h : v.ph = p) : overF g v [clS p] = decide (g.hold ≤ v.gr) := by
  subst h
  unfold overF
  simp [clS, emF]
theorem dec_none {g : Cf} {v : Sv} {p now : Int} (h : v.ph = -1) : decF g v [clS p] now = if endF v.en p ≠ -1 ∧ now - endF v.en p ≤ g.lock then v else ⟨p, 0, v.en⟩ := by
  have hd : dec1 g v [clS p] now = v := by unfold dec1; rw [if_neg (fun k => k.1 h)]
  unfold decF
  rw [hd]
  have hb := best_alone g v p now
  rw [show ([clS p] : List Cl).length = 1 from rfl, hb]
  by_cases hc : endF v.en p ≠ -1 ∧ now - endF v.en p ≤ g.lock
  · rw [if_pos hc, if_pos hc, if_neg (fun k => by omega)]
  · rw [if_neg hc, if_neg hc, if_pos ⟨h, by omega⟩]
    rfl
theorem dec_on {g : Cf} {v : Sv} {p now : Int} (h : v.ph = p) (h0 : 0 ≤ p) (hg : v.gr < g.hold) : decF g v [clS p] now = v := by
  have hd : dec1 g v [clS p] now = v := by
    unfold dec1
    rw [over_alone g v p h, decide_eq_false (by omega), if_neg (fun k => Bool.false_ne_true k.2)]
  unfold decF
  rw [hd, if_neg (fun k => by omega)]
theorem dec_off {g : Cf} {v : Sv} {p now : Int} (h : v.ph = p) (h0 : 0 ≤ p) (hp : p < v.en.length) (hg : g.hold ≤ v.gr) (h1 : 1 ≤ g.hold) (hl : 0 ≤ g.lock) (hn : 1 ≤ now) : decF g v [clS p] now = ⟨-1, 0, v.en.set p.toNat now⟩ := by
  have he : endsF v now = ⟨-1, 0, v.en.set p.toNat now⟩ := by
    unfold endsF
    rw [if_pos ⟨by omega, by omega, by omega⟩, h]
  have hd : dec1 g v [clS p] now = ⟨-1, 0, v.en.set p.toNat now⟩ := by
    unfold dec1
    rw [over_alone g v p h, decide_eq_true hg, if_pos ⟨by omega, rfl⟩, he]
  have hf : endF (v.en.set p.toNat now) p = now := by
    unfold endF
    rw [if_neg (by rw [List.length_set]; omega)]
    simp [List.getD_eq_getElem?_getD, show p.toNat < v.en.length by omega]
  unfold decF
  rw [hd]
  have hb := best_alone g ⟨-1, 0, v.en.set p.toNat now⟩ p now
  dsimp only at hb
  rw [hf, if_pos ⟨by omega, by omega⟩] at hb
  rw [show ([clS p] : List Cl).length = 1 from rfl, hb, if_neg (fun k => by omega)]
theorem grB_eq {j : Jn} {c : Ct} {t : Int} (X : CV j (stF j c t)) (u : Sv) (hu : u.ph < j.ph.length) : grB ⟨stF j c t, false⟩ u = decide (0 ≤ u.ph ∧ (liO (stF j c t) u.ph.toNat).lamp = 1) := by
  have hx := X.n
  unfold grB
  dsimp only
  rw [hx, Bool.eq_iff_iff]
  simp only [Bool.and_eq_true, decide_eq_true_eq, beq_iff_eq]
  omega
structure DI (g : Cf) (j : Jn) (p K : Nat) (s : Sg) (v : Sv) (T G now : Int) : Prop where
  R : ∃ w, RI j s v w
  ph : v.ph = -1 ∨ v.ph = p
  g0 : v.ph = -1 → G = 0
  g1 : v.ph = p → G = v.gr ∧ v.gr ≤ g.hold
  t0 : 0 ≤ T
  t1 : T ≤ now
  pr : 1 ≤ T ∨ (now = 1 ∧ v.ph = -1 ∧ endF v.en p = -1 ∧ s.c = inF j) ∨ (v.ph = p ∧ ∃ i : Nat, now = i + 1 ∧ s.c = stI j (inF j) p i ∧ (i : Int) < K + v.gr)
theorem endF_at (es : List Int) (p : Nat) (h : p < es.length) : endF es p = es.getD p default := by
  unfold endF
  rw [if_neg (by omega), Int.toNat_natCast]
  simp [List.getD_eq_getElem?_getD, h]
/-- What a tick makes of it. -/
theorem DI.step {g : Cf} (hg : CfD g) {j : Jn} (J : JV j) {p K : Nat} (hp : p < j.ph.length) (hK : (liO (stI j (inF j) p K) p).lamp = 1) {s : Sg} {v : Sv} {T G now : Int} (D : DI g j p K s v T G now) {d : Dk} (E : EI j.ph.length d v now) :
    ((dvF g j s v [clS p] (-1) now).2.ph = -1 ∨ (dvF g j s v [clS p] (-1) now).2.ph = p) ∧
    (((dvF g j s v [clS p] (-1) now).2.en.getD p default = v.en.getD p default ∧ ((dvF g j s v [clS p] (-1) now).2.gr ≤ 0 → DI g j p K (dvF g j s v [clS p] (-1) now).1 (dvF g j s v [clS p] (-1) now).2 T G (now + 1)) ∧ (0 < (dvF g j s v [clS p] (-1) now).2.gr → DI g j p K (dvF g j s v [clS p] (-1) now).1 (dvF g j s v [clS p] (-1) now).2 T (G + 1) (now + 1))) ∨
     ((dvF g j s v [clS p] (-1) now).2.en.getD p default ≠ v.en.getD p default ∧ G = g.hold ∧ (dvF g j s v [clS p] (-1) now).2.gr = 0 ∧ DI g j p K (dvF g j s v [clS p] (-1) now).1 (dvF g j s v [clS p] (-1) now).2 (T + 1) 0 (now + 1))) := by
  obtain ⟨w, R⟩ := D.R
  have hh0 := hg.h0
  have hh1 := hg.h1
  have hl0 := hg.l0
  have hl := E.len
  have hn0 := E.n0
  have hz := E.z
  have hg0 := E.g0
  have hph := D.ph
  have hG0 := D.g0
  have hG1 := D.g1
  have ht0 := D.t0
  have ht1 := D.t1
  have hpr := D.pr
  have hu : (decF g v [clS p] now) = (if v.ph = -1 then (if endF v.en p ≠ -1 ∧ now - endF v.en p ≤ g.lock then v else ⟨p, 0, v.en⟩) else if v.gr < g.hold then v else ⟨-1, 0, v.en.set p now⟩) := by
    by_cases h1 : v.ph = -1
    · rw [if_pos h1]; exact dec_none h1
    · have h2 : v.ph = p := by omega
      rw [if_neg h1]
      by_cases h3 : v.gr < g.hold
      · rw [if_pos h3]; exact dec_on h2 (by omega) h3
      · rw [if_neg h3]
        have := dec_off (now := now) h2 (by omega) (by omega) (by omega : g.hold ≤ v.gr) hh0 hl0 hn0
        rw [Int.toNat_natCast] at this
        exact this
  have hub : (decF g v [clS p] now).ph < j.ph.length ∧ 0 ≤ (decF g v [clS p] now).gr ∧ -1 ≤ (decF g v [clS p] now).ph := by
    rw [hu]
    split
    · split
      · omega
      · dsimp only; omega
    · split
      · omega
      · dsimp only; omega
  have RS := R.step J g [clS p] now hg0 hub.1 hub.2.1 hub.2.2
  rw [dv_calm J R.C R.l] at RS ⊢
  have X := cv_st J R.C (decF g v [clS p] now).ph
  have hb := grB_eq X (decF g v [clS p] now) hub.1
  dsimp only at RS ⊢
  rw [hb] at RS ⊢
  clear hb
  have Rg := R.g
  have hgn : (liO (inF j) p).lamp = 0 := by
    unfold liO inF
    simp only [List.getD_eq_getElem?_getD, List.getElem?_replicate]
    split <;> rfl
  have hK1 : 1 ≤ K := by
    match K, hK with
    | 0, hK => change (liO (inF j) p).lamp = 1 at hK; omega
    | k + 1, _ => omega
  rw [hu] at RS ⊢
  clear hu hub
  by_cases h1 : v.ph = -1
  · rw [if_pos h1] at RS ⊢
    have hgr : v.gr = 0 := hz h1
    have hGz := hG0 h1
    by_cases h2 : endF v.en p ≠ -1 ∧ now - endF v.en p ≤ g.lock
    · -- locked
      rw [if_pos h2] at RS ⊢
      have ec : ∀ b, cntF v b = v := fun b => by unfold cntF; rw [if_neg (fun k => k.2 h1)]
      rw [ec] at RS ⊢
      refine ⟨hph, .inl ⟨rfl, fun _ => ⟨⟨_, RS⟩, hph, hG0, hG1, ht0, by omega, ?_⟩, fun k => by omega⟩⟩
      left
      rcases hpr with h | ⟨h, _, h3, _⟩ | ⟨h, _⟩
      · exact h
      · exact absurd h3 h2.1
      · omega
    · -- it is served
      rw [if_neg h2] at RS ⊢
      dsimp only at RS ⊢
      rw [Int.toNat_natCast] at RS ⊢
      have hpr2 : 1 ≤ T ∨ (now = 1 ∧ s.c = inF j) := by
        rcases hpr with h | ⟨h, _, _, h4⟩ | ⟨h, _⟩
        · exact .inl h
        · exact .inr ⟨h, h4⟩
        · omega
      by_cases h3 : (liO (stF j s.c p) p).lamp = 1
      · rw [decide_eq_true ⟨by omega, h3⟩] at RS ⊢
        have ec : cntF ⟨p, 0, v.en⟩ true = ⟨p, 1, v.en⟩ := by unfold cntF; rw [if_pos ⟨rfl, by dsimp only; omega⟩]; rfl
        rw [ec] at RS ⊢
        refine ⟨.inr rfl, .inl ⟨rfl, fun k => absurd k (by dsimp only; omega), fun _ => ⟨⟨_, RS⟩, .inr rfl, fun k => by dsimp only at k; omega, fun _ => ⟨by dsimp only; omega, by dsimp only; omega⟩, ht0, by omega, ?_⟩⟩⟩
        rcases hpr2 with h | ⟨h4, h5⟩
        · exact .inl h
        · refine .inr (.inr ⟨rfl, 1, by omega, ?_, by dsimp only; omega⟩)
          dsimp only
          rw [h5]; rfl
      · rw [decide_eq_false (fun k => h3 k.2)] at RS ⊢
        have ec : cntF ⟨p, 0, v.en⟩ false = ⟨p, 0, v.en⟩ := by unfold cntF; rw [if_neg (fun k => Bool.false_ne_true k.1)]
        rw [ec] at RS ⊢
        refine ⟨.inr rfl, .inl ⟨rfl, fun _ => ⟨⟨_, RS⟩, .inr rfl, fun k => by dsimp only at k; omega, fun _ => ⟨by dsimp only; omega, by dsimp only; omega⟩, ht0, by omega, ?_⟩, fun k => absurd k (by dsimp only; omega)⟩⟩
        rcases hpr2 with h | ⟨h4, h5⟩
        · exact .inl h
        · refine .inr (.inr ⟨rfl, 1, by omega, ?_, ?_⟩)
          · dsimp only
            rw [h5]; rfl
          · dsimp only
            by_cases hk1 : K = 1
            · subst hk1
              rw [h5] at h3
              exact absurd hK h3
            · omega
  · have h2 : v.ph = p := by omega
    rw [if_neg h1] at RS ⊢
    obtain ⟨hG, hgh⟩ := hG1 h2
    by_cases h3 : v.gr < g.hold
    · -- it goes on
      rw [if_pos h3] at RS ⊢
      rw [h2, Int.toNat_natCast] at RS ⊢
      have hst : 0 < v.gr → (liO (stF j s.c p) p).lamp = 1 := fun k => by
        have := (Rg (by omega)).1 k
        rw [h2, Int.toNat_natCast] at this
        exact st_stay J R.C hp this
      have hpr2 : 1 ≤ T ∨ (∃ i : Nat, now = i + 1 ∧ s.c = stI j (inF j) p i ∧ (i : Int) < K + v.gr) := by
        rcases hpr with h | ⟨_, h, _⟩ | ⟨_, h⟩
        · exact .inl h
        · exact absurd h h1
        · exact .inr h
      by_cases h4 : (liO (stF j s.c p) p).lamp = 1
      · rw [decide_eq_true ⟨by omega, h4⟩] at RS ⊢
        have ec : cntF v true = ⟨p, v.gr + 1, v.en⟩ := by unfold cntF; rw [if_pos ⟨rfl, h1⟩, h2, show min v.gr 59 = v.gr by omega]
        rw [ec] at RS ⊢
        refine ⟨.inr rfl, .inl ⟨rfl, fun k => absurd k (by dsimp only; omega), fun _ => ⟨⟨_, RS⟩, .inr rfl, fun k => by dsimp only at k; omega, fun _ => ⟨by dsimp only; omega, by dsimp only; omega⟩, ht0, by omega, ?_⟩⟩⟩
        rcases hpr2 with h | ⟨i, h5, h6, h7⟩
        · exact .inl h
        · refine .inr (.inr ⟨rfl, i + 1, by omega, ?_, by dsimp only; omega⟩)
          dsimp only
          rw [h6]; rfl
      · rw [decide_eq_false (fun k => h4 k.2)] at RS ⊢
        have hgz : v.gr = 0 := Classical.byContradiction fun k => h4 (hst (by omega))
        have ec : cntF v false = v := by unfold cntF; rw [if_neg (fun k => Bool.false_ne_true k.1)]
        rw [ec] at RS ⊢
        refine ⟨.inr h2, .inl ⟨rfl, fun _ => ⟨⟨_, RS⟩, .inr h2, hG0, fun _ => ⟨hG, hgh⟩, ht0, by omega, ?_⟩, fun k => by omega⟩⟩
        rcases hpr2 with h | ⟨i, h5, h6, h7⟩
        · exact .inl h
        · refine .inr (.inr ⟨h2, i + 1, by omega, ?_, ?_⟩)
          · dsimp only
            rw [h6]; rfl
          · refine Classical.byContradiction fun hc => h4 ?_
            obtain ⟨m, hm⟩ : ∃ m, i + 1 = K + m := ⟨i + 1 - K, by omega⟩
            have := stay_k J (stI_v J (cv_in J) p K) hp hK m
            rw [stI_add, ← hm] at this
            rw [h6]
            exact this
    · -- it is over
      rw [if_neg h3] at RS ⊢
      have ec : ∀ b, cntF ⟨-1, 0, v.en.set p now⟩ b = ⟨-1, 0, v.en.set p now⟩ := fun b => by unfold cntF; rw [if_neg (fun k => k.2 rfl)]
      rw [ec] at RS ⊢
      have hold : v.en.getD p default < now := by
        have := E.en (v.en.getD p default) (by rw [List.getD_eq_getElem?_getD, List.getElem?_eq_getElem (by omega)]; exact List.getElem_mem _)
        omega
      have hnew : (v.en.set p now).getD p default = now := by simp [List.getD_eq_getElem?_getD, show p < v.en.length by omega]
      refine ⟨.inl rfl, .inr ⟨by dsimp only; omega, by omega, rfl, ⟨⟨_, RS⟩, .inl rfl, fun _ => rfl, fun k => by dsimp only at k; omega, by omega, by omega, .inl (by omega)⟩⟩⟩
end Av
end Go.Proofs.Ytkliodbbcblobaa
