/- law21: what is decided keeps emergencies, locks and holds. -/
import Derived.Test.YtlabfbpnkjigoaaArE
namespace Go.Proofs.Ytlabfbpnkjigoaa
namespace Av
set_option linter.unusedSimpArgs false
set_option linter.unusedVariables false
set_option maxRecDepth 4000
set_option maxHeartbeats 1000000
theorem bestN_lck (g : Cf) (s : Sv) (now : Int) (xs : List Cl) : ∀ i, 0 ≤ bestN g s now xs i → lckF g.lock s.en now (xs.getD (bestN g s now xs i).toNat default).ph (xs.getD (bestN g s now xs i).toNat default).k = false
  | 0, h => by simp [bestN] at h
  | i + 1, h => by
    have ih := bestN_lck g s now xs i
    have hs := bestN_succ g s now xs i
    by_cases h1 : lckF g.lock s.en now (xs.getD i default).ph (xs.getD i default).k = true
    · rw [if_pos h1] at hs; rw [hs] at h ⊢; exact ih h
    · rw [if_neg h1] at hs
      by_cases h2 : bestN g s now xs i < 0
      · rw [if_pos h2] at hs; rw [hs]; simpa using h1
      · rw [if_neg h2] at hs
        by_cases h3 : lessF g.per g.cap s.en now (xs.getD i default) (xs.getD (bestN g s now xs i).toNat default) = true
        · rw [if_pos h3] at hs; rw [hs]; simpa using h1
        · rw [if_neg h3] at hs; rw [hs]; exact ih (by omega)
theorem bestN_em (g : Cf) (s : Sv) (now : Int) (xs : List Cl) : ∀ i, i ≤ xs.length → (xs.take i).any (fun c => emF c.k) = true → 0 ≤ bestN g s now xs i ∧ emF (xs.getD (bestN g s now xs i).toNat default).k = true
  | 0, _, h => by simp at h
  | i + 1, hi, h => by
    have ih := bestN_em g s now xs i (by omega)
    have hs := bestN_succ g s now xs i
    have hx : xs[i]'(by omega) = xs.getD i default := by simp [List.getD, show i < xs.length by omega]
    rw [← List.take_append_getElem (by omega), any_snoc, hx] at h
    generalize hgx : xs.getD i default = x at *
    cases he : emF x.k with
    | true =>
      rw [if_neg (by simp [lckF, he])] at hs
      by_cases h2 : bestN g s now xs i < 0
      · rw [if_pos h2] at hs; rw [hs]; exact ⟨by omega, by rw [Int.toNat_natCast, hgx]; exact he⟩
      · rw [if_neg h2] at hs
        by_cases h3 : lessF g.per g.cap s.en now x (xs.getD (bestN g s now xs i).toNat default) = true
        · rw [if_pos h3] at hs; rw [hs]; exact ⟨by omega, by rw [Int.toNat_natCast, hgx]; exact he⟩
        · rw [if_neg h3] at hs; rw [hs]
          refine ⟨by omega, ?_⟩
          cases hb : emF (xs.getD (bestN g s now xs i).toNat default).k with
          | true => rfl
          | false => exact absurd (by unfold lessF; rw [if_pos (by rw [he, hb]; simp)]; exact he) h3
    | false =>
      rw [he, Bool.or_false] at h
      obtain ⟨h1, h2⟩ := ih h
      by_cases h4 : lckF g.lock s.en now x.ph x.k = true
      · rw [if_pos h4] at hs; rw [hs]; exact ⟨h1, h2⟩
      · rw [if_neg h4, if_neg (by omega)] at hs
        by_cases h3 : lessF g.per g.cap s.en now x (xs.getD (bestN g s now xs i).toNat default) = true
        · unfold lessF at h3
          rw [if_pos (by rw [he, h2]; simp), he] at h3
          cases h3
        · rw [if_neg h3] at hs; rw [hs]; exact ⟨h1, h2⟩
theorem any_getD {p : Cl → Bool} {l : List Cl} {i : Nat} (hi : i < l.length) (h : p (l.getD i default) = true) : l.any p = true := by
  rw [List.any_eq_true]
  exact ⟨l[i], List.getElem_mem hi, by simpa [List.getD, hi] using h⟩
theorem overF_not {g : Cf} {s : Sv} {l : List Cl} (h : overF g s l = false) : (l.any fun x => x.ph == s.ph) = true ∧ s.gr < g.hold ∧ ((l.any fun c => emF c.k) = true → (l.any fun x => emF x.k && x.ph == s.ph) = true) := by
  unfold overF at h
  have e : (l.any fun x => emF x.k && x.ph == s.ph) = (l.any fun x => x.ph == s.ph && emF x.k) := by
    congr 1; funext x; exact Bool.and_comm _ _
  rw [e]
  generalize (l.any fun x => x.ph == s.ph) = m at *
  generalize (l.any fun x => x.ph == s.ph && emF x.k) = u at *
  generalize (l.any fun c => emF c.k) = w at *
  by_cases h2 : g.hold ≤ s.gr
  · rw [decide_eq_true h2] at h; simp at h
  · rw [decide_eq_false h2] at h
    refine ⟨?_, by omega, ?_⟩
    · cases m <;> simp_all
    · cases m <;> cases u <;> cases w <;> simp_all
theorem dec_facts (g : Cf) (s : Sv) (l : List Cl) (now : Int) (hh : 1 ≤ g.hold) (hp : -1 ≤ s.ph) (hl : ∀ c ∈ l, 0 ≤ c.ph ∧ c.ph < s.en.length) :
    (0 ≤ (decF g s l now).ph → (l.any fun x => x.ph == (decF g s l now).ph) = true ∧ (decF g s l now).gr < g.hold) ∧
    ((l.any fun c => emF c.k) = true → (l.any fun x => emF x.k && x.ph == (decF g s l now).ph) = true) ∧
    (∀ (h0 : 0 ≤ (decF g s l now).ph) (h1 : (decF g s l now).ph.toNat < s.en.length), s.ph ≠ (decF g s l now).ph → (l.any fun x => emF x.k && x.ph == (decF g s l now).ph) = false → s.en[(decF g s l now).ph.toNat] = -1 ∨ g.lock < now - s.en[(decF g s l now).ph.toNat]) := by
  have hd := dec1_cases g s l now
  have hlen := dec1_len g s l now
  have hbd := bestN_bd g (dec1 g s l now) now l l.length
  have hlk := bestN_lck g (dec1 g s l now) now l l.length
  have hem := bestN_em g (dec1 g s l now) now l l.length (Nat.le_refl _)
  rw [List.take_length] at hem
  by_cases h1 : (dec1 g s l now).ph = -1 ∧ 0 ≤ bestN g (dec1 g s l now) now l l.length
  · -- another service begins
    have e : decF g s l now = ⟨(l.getD (bestN g (dec1 g s l now) now l l.length).toNat default).ph, 0, (dec1 g s l now).en⟩ := by unfold decF; rw [if_pos h1]
    have hlk := hlk h1.2
    have hem := fun h => (hem h).2
    have hi : (bestN g (dec1 g s l now) now l l.length).toNat < l.length := by omega
    rw [e]
    generalize (bestN g (dec1 g s l now) now l l.length).toNat = i at *
    have hm : l.getD i default ∈ l := getD_mem' (fun c => c ∈ l) default l i (fun _ h => h) hi
    generalize l.getD i default = b at *
    dsimp only
    refine ⟨fun _ => ⟨List.any_eq_true.2 ⟨b, hm, by simp⟩, by omega⟩, fun h => List.any_eq_true.2 ⟨b, hm, by simp [hem h]⟩, fun h0 h2 hn hf => ?_⟩
    have hne : emF b.k = false := by
      cases hc : emF b.k with
      | false => rfl
      | true => rw [show _ = true from List.any_eq_true.2 ⟨b, hm, by simp [hc]⟩] at hf; cases hf
    have e2 : endF (dec1 g s l now).en b.ph = s.en[b.ph.toNat] := by
      have hq : (dec1 g s l now).en[b.ph.toNat]'(by omega) = s.en[b.ph.toNat] := by
        rcases hd with hd | ⟨_, _, hd⟩
        · simp only [hd]
        · simp only [hd]
          unfold endsF
          by_cases hq : 0 < s.gr ∧ 0 ≤ s.ph ∧ s.ph < s.en.length
          · simp only [if_pos hq, List.getElem_set]
            rw [if_neg (by omega)]
          · simp only [if_neg hq]
      unfold endF
      rw [if_neg (by omega), ← hq]
      simp [List.getD, show b.ph.toNat < (dec1 g s l now).en.length by omega]
    unfold lckF at hlk
    rw [e2, hne] at hlk
    simp at hlk
    by_cases hq : s.en[b.ph.toNat] = -1
    · exact .inl hq
    · exact .inr (hlk hq)
  · -- as it was, or none
    have e : decF g s l now = dec1 g s l now := by unfold decF; rw [if_neg h1]
    rw [e]
    by_cases h2 : (dec1 g s l now).ph = -1
    · have h3 : ¬ (l.any fun c => emF c.k) = true := fun h => h1 ⟨h2, (hem h).1⟩
      refine ⟨fun h => by omega, fun h => absurd h h3, fun h => by omega⟩
    · rcases hd with hd | ⟨_, _, hd⟩
      · rw [hd] at h2
        have ho : overF g s l = false := by
          cases ho : overF g s l with
          | false => rfl
          | true => exact absurd (show (dec1 g s l now).ph = -1 by unfold dec1; rw [if_pos ⟨h2, ho⟩]; rfl) (by rw [hd]; exact h2)
        obtain ⟨o1, o2, o3⟩ := overF_not ho
        rw [hd]
        exact ⟨fun _ => ⟨o1, o2⟩, o3, fun _ _ hn => absurd rfl hn⟩
      · exact absurd (by rw [hd]; rfl) h2
theorem dec_valid (g : Cf) (s : Sv) (l : List Cl) (now : Int) (n : Nat) (hlen : s.en.length = n) (h0 : 0 ≤ now) (h1 : now ≤ 1000000) (he : ∀ e ∈ s.en, -1 ≤ e ∧ e ≤ now) (hl : ∀ c ∈ l, 0 ≤ c.ph ∧ c.ph < n) (h : -1 ≤ s.ph ∧ s.ph < n ∧ 0 ≤ s.gr ∧ s.gr ≤ 60) (hz : s.ph = -1 → s.gr = 0) :
    validF (decF g s l now) n = true ∧ ((decF g s l now).ph = -1 → (decF g s l now).gr = 0) := by
  have hp := dec_ph g s l now n hl h (by omega)
  have hen := dec_en g s l now h0 he
  have hq : (decF g s l now).ph = -1 → (decF g s l now).gr = 0 := by
    have h1 := dec1_ph g s l now
    have hb := bestN_bd g (dec1 g s l now) now l l.length
    unfold decF
    split
    · exact fun _ => rfl
    · intro h2; rcases h1 with h1 | h1
      · rw [h1.2]; exact hz (by omega)
      · exact h1.2
  refine ⟨decide_eq_true ⟨by rw [dec_len, hlen], hp.1, hp.2.1, fun e h => by have := hen e h; omega, hp.2.2.1, hp.2.2.2, hq⟩, hq⟩
end Av
end Go.Proofs.Ytlabfbpnkjigoaa
