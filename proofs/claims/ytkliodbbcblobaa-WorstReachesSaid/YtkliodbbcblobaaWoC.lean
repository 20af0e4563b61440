/- law12: controls with any lights that are valid together. -/
import Derived.Test.YtkliodbbcblobaaWoB
import Derived.Test.YtkliodbbcblobaaRjF
namespace Go.Proofs.Ytkliodbbcblobaa
namespace Av
set_option linter.unusedSimpArgs false
set_option linter.unusedVariables false
set_option maxRecDepth 4000
set_option maxHeartbeats 1000000
theorem CV_vcF {j : Jn} (J : JV j) {c : Ct} (h : vcF j c = true) : CV j c := by
  have hJ := J.n
  unfold vcF at h
  simp only [Bool.and_eq_true, decide_eq_true_eq, Bool.or_eq_true] at h
  obtain ⟨⟨h1, h2⟩, hn, hc, hg, hx, hw, hz⟩ := h
  refine ⟨h1, fun p hp => List.all_eq_true.1 hn p (List.mem_range.2 hp), fun p q hp hq hpq l1 l2 => ?_, hg, h2, fun r hr => ?_, hw, ?_⟩
  · have e := List.all_eq_true.1 (List.all_eq_true.1 hc p (List.mem_range.2 (by rw [J.c]; exact hp))) q (List.mem_range.2 (by rw [J.c]; exact hq))
    rw [Bool.not_eq_true'] at e
    unfold ckB seF at e
    rw [inS_n _ (by omega) (by omega), inS_n _ (by omega) (by omega), decide_eq_true (show q ≠ p from fun e => hpq e.symm)] at e
    rw [show stB c p = true by unfold stB; simpa using l1, show stB c q = true by unfold stB; simpa using l2] at e
    cases hc : cfP j.cf p q with
    | false => rfl
    | true => rw [hc] at e; cases e
  · have e := List.all_eq_true.1 hx r (List.mem_range.2 hr)
    unfold nxO hasN at e
    rw [Bool.or_eq_true, decide_eq_true_eq, List.any_eq_true] at e
    rcases e with e | ⟨p, hp, e⟩
    · exact .inl e
    · unfold ofN at hp
      rw [List.mem_filter, List.mem_range] at hp
      simp only [Bool.and_eq_true, beq_iff_eq] at hp e
      rw [← e]
      exact .inr ⟨by omega, by omega, by rw [Int.toNat_natCast]; exact hp.2.1, by rw [Int.toNat_natCast]; exact hp.2.2⟩
  · rcases hz with h | h
    · exact .inl h
    · refine .inr fun p hp => ?_
      unfold arF at h
      have := List.all_eq_true.1 h (liO c p) (by unfold liO; rw [List.getD_eq_getElem?_getD, List.getElem?_eq_getElem (by omega)]; exact List.getElem_mem _)
      simpa using this
def wrX (j : Jn) (c : Ct) (d : Dk) (p : Nat) : Ct := ⟨c.li.set p ⟨nx d 4, nx (ad d) ((phO j p).maxg + 2)⟩, c.gr, c.nx, c.wt⟩
def wrS (j : Jn) (c : Ct) (d : Dk) (p : Nat) : Ct := if vcF j (wrX j c d p) = true then wrX j c d p else c
def wrN (j : Jn) (c : Ct) (d : Dk) : Nat → Ct × Dk
  | 0 => (c, d)
  | i + 1 => (wrS j (wrN j c d i).1 (wrN j c d i).2 i, ad (ad (wrN j c d i).2))
theorem wrS_v {j : Jn} (J : JV j) {c : Ct} (C : CV j c) (d : Dk) (p : Nat) : CV j (wrS j c d p) := by
  unfold wrS
  split
  · rename_i h; exact CV_vcF J h
  · exact C
theorem wrN_v {j : Jn} (J : JV j) {c : Ct} (C : CV j c) (d : Dk) : ∀ i, CV j (wrN j c d i).1
  | 0 => C
  | i + 1 => wrS_v J (wrN_v J C d i) _ _
end Av
end Go.Proofs.Ytkliodbbcblobaa
