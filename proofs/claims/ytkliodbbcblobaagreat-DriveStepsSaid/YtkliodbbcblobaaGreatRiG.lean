
/- Rings: serve. -/
import Derived.Test.YtkliodbbcblobaaGreatRiF
import Derived.Test.YtkliodbbcblobaaGreatRiC
namespace Go.Proofs.YtkliodbbcblobaaGreat
namespace Av
set_option linter.unusedSimpArgs false
set_option linter.unusedVariables false
set_option maxRecDepth 4000
set_option maxHeartbeats 1000000
/-- A control as it is handed over from memory. -/
def ctT (c : Ct) : AV := .agg [.sl false ((c.li.map liA).take (c.li.map liA).length), iA c.gr, .sl false ((c.nx.map iA).take (c.nx.map iA).length), iA c.wt]
theorem ctT_eq (c : Ct) : ctT c = ctA c := by unfold ctT; rw [List.take_length, List.take_length]; rfl
theorem dark_t (j : Jn) (hn : j.ph.length ≤ 1000) (c : Ct) (hc : c.li.length = j.ph.length) (r : Int) : CallSim Tryz.prog 92 [jnA j, ctT c, iA r] [] (bA (dkF j c r)) [] := by rw [ctT_eq]; exact dark_c j hn c hc r
theorem comp_t (j : Jn) (hn : j.ph.length ≤ 1000) (hcf : j.cf.length ≤ 40) (c : Ct) (hm : c.nx.length = 2) (r t : Int) (hr : 0 ≤ r ∧ r < 2) : CallSim Tryz.prog 93 [jnA j, ctT c, iA r, iA t] [] (iA (cmF j (c.nx.getD r.toNat default) r t)) [] := by rw [ctT_eq]; exact comp_c j hn hcf c hm r t hr
theorem svP_gr {j : Jn} (J : JV j) {c : Ct} {r : Int} {t : Nat} (ht : t < j.ph.length) (h : svP j c r t ≠ -1) : ∃ p : Nat, svP j c r t = p ∧ p < j.ph.length ∧ (phO j p).group = (phO j t).group := by
  unfold svP at h ⊢
  split
  · exact ⟨t, rfl, ht, rfl⟩
  · rename_i hr
    rw [if_neg hr] at h
    rcases cmF_spec j (c.nx.getD r.toNat default) r t with h1 | ⟨p, h1, h2, _, h4⟩
    · exact absurd h1 h
    · refine ⟨p, h1, h2, ?_⟩
      by_cases hpt : p = t
      · rw [hpt]
      · exact Classical.byContradiction fun hg => by
          have := J.ap p t h2 ht hpt (.inr hg)
          rw [h4] at this
          cases this
theorem bgF_gr (j : Jn) (c : Ct) (p : Nat) : (kpF j c p = true ∧ bgF j c p = c) ∨ (kpF j c p = false ∧ (bgF j c p).gr = (phO j p).group) := by
  unfold bgF
  split
  · rename_i h; exact .inl ⟨h, rfl⟩
  · rename_i h
    refine .inr ⟨by simpa using h, ?_⟩
    dsimp only
    unfold b2F
    split
    · rename_i h2; exact h2
    · rfl
/-- A control in memory: entered or not. -/
def ctX (e : Bool) (c : Ct) (o : List Int) : List (Nat × Ent) := if e = true then ctE c o else ctH c 1002
end Av
end Go.Proofs.YtkliodbbcblobaaGreat
