
/- Rings, the reference: idle, candidate, Copy. -/
import Derived.Test.YtkliodbbcblobaaGreatRjB
namespace Go.Proofs.YtkliodbbcblobaaGreat
namespace Av
set_option linter.unusedSimpArgs false
set_option linter.unusedVariables false
set_option maxRecDepth 4000
set_option maxHeartbeats 1000000
theorem idle_c (j : Jn) (hn : j.ph.length ≤ 1000) (c : Ct) (hc : c.li.length = j.ph.length) (r : Int) : CallSim Tryz.prog 70 [jnA j, ctA c, iA r] [] (bA (dkF j c r)) [] := by
  have hl := map_len phA j.ph
  have hl2 := map_len liA c.li
  cases hd : dkF j c r with
  | true =>
    have h0 : ∀ p, p < j.ph.length → (phO j p).ring = r → (liO c p).lamp = 0 := fun p hp hr => dk_red hd hp hr
    clear hd
    (refine callSim_of tok Tryz.func70 rfl (fun args w => Tryz.call70 args w) rfl rfl rfl (fun F hF => ?_))
    (refine WW ?_)
    (refine sim_cnt (c.li.length) [3] [3] [2, 3, 10, 11] [12, 2, 3, 10, 11] rfl (fun i T U => ⟨(12, iA i) :: T, U⟩) ?_; (conv => whnf); refine ⟨by rfl, ?_, ?_⟩)
    · intro u hu
      have hy := map_at phA j.ph u (by omega)
      change (j.ph.map phA)[u]? = some (phA (phO j u)) at hy
      have hyl := map_at liA c.li u hu
      change (c.li.map liA)[u]? = some (liA (liO c u)) at hyl
      have h0 := h0 u (by omega)
      generalize phO j u = p at *
      generalize liO c u = l at *
      by_cases h1 : p.ring = r
      · have h2 := h0 h1
        clear h0
        (refine WW ?_)
        rfl
      · clear h0
        (refine WW ?_)
        rfl
    · clear h0
      (refine WW ?_)
      exact fin_ret [] rfl rfl rfl rfl
  | false =>
    unfold dkF at hd
    rw [List.all_eq_false] at hd
    obtain ⟨p0, hp0, hb⟩ := hd
    rw [rpF_mem] at hp0
    obtain ⟨k, _, ⟨hk, hkr, hkl⟩, hkm⟩ := least (P := fun p => p < j.ph.length ∧ (phO j p).ring = r ∧ (liO c p).lamp ≠ 0) p0 ⟨hp0.1, hp0.2, by simpa using hb⟩
    clear hb
    (refine callSim_of tok Tryz.func70 rfl (fun args w => Tryz.call70 args w) rfl rfl rfl (fun F hF => ?_))
    (refine WW ?_)
    (refine sim_cntP (c.li.length) [3] [3] [2, 3, 10, 11] [12, 2, 3, 10, 11] rfl (fun i T U zs => (i ≤ k) ∧ zs = ⟨(12, iA i) :: T, U⟩) ?_; (conv => whnf); refine ⟨?_, ?_, ?_⟩)
    · exact ⟨Nat.zero_le _, rfl⟩
    · rintro u st hu ⟨huk, rfl⟩
      have hy := map_at phA j.ph u (by omega)
      change (j.ph.map phA)[u]? = some (phA (phO j u)) at hy
      have hyl := map_at liA c.li u hu
      change (c.li.map liA)[u]? = some (liA (liO c u)) at hyl
      by_cases e : u = k
      · subst e
        generalize phO j u = p at *
        generalize liO c u = l at *
        clear hkm
        (refine WW ?_)
        exact fin_ret [] rfl rfl rfl rfl
      · have hno := hkm u (by omega)
        generalize phO j u = p at *
        generalize liO c u = l at *
        clear hkm
        by_cases h1 : p.ring = r
        · have h2 : l.lamp = 0 := Classical.byContradiction fun h => hno ⟨by omega, h1, h⟩
          clear hno
          (refine WW ?_)
          exact ⟨by omega, rfl⟩
        · clear hno
          (refine WW ?_)
          exact ⟨by omega, rfl⟩
    · rintro st ⟨huk, rfl⟩
      exfalso; omega
def lsQ (j : Jn) (r t : Int) (i : Nat) : Int := match (rpN j r i).find? (fun p : Nat => !cfP j.cf p t) with
  | some p => p
  | none => -1
theorem lsQ_succ (j : Jn) (r t : Int) (i : Nat) : lsQ j r t (i + 1) = if (phO j i).ring = r ∧ cfP j.cf i t = false then (if lsQ j r t i < 0 then (i : Int) else lsQ j r t i) else lsQ j r t i := by
  unfold lsQ
  rw [rpN_succ]
  by_cases h1 : (phO j i).ring = r
  · rw [if_pos h1, List.find?_append]
    cases hf : (rpN j r i).find? (fun p : Nat => !cfP j.cf p t) with
    | some p =>
      show ((p : Nat) : Int) = if (phO j i).ring = r ∧ cfP j.cf i t = false then (if (p : Int) < 0 then (i : Int) else (p : Int)) else (p : Int)
      rw [if_neg (by omega : ¬ (p : Int) < 0)]
      split <;> rfl
    | none =>
      show (match [i].find? (fun p : Nat => !cfP j.cf p t) with
        | some p => ((p : Nat) : Int)
        | none => -1) = if (phO j i).ring = r ∧ cfP j.cf i t = false then (if (-1 : Int) < 0 then (i : Int) else -1) else -1
      rw [List.find?_cons]
      cases hq : cfP j.cf i t with
      | false => rw [if_pos ⟨h1, rfl⟩]; rfl
      | true => rw [if_neg (fun h => by cases h.2)]; rfl
  · rw [if_neg h1, if_neg (fun h => h1 h.1)]
theorem rpN_sub {j : Jn} {r : Int} {i p : Nat} (h : p ∈ rpN j r i) : p < i := by
  unfold rpN at h
  rw [List.mem_filter, List.mem_range] at h
  exact h.1
theorem cand_c (j : Jn) (hn : j.ph.length ≤ 1000) (hcf : j.cf.length ≤ 40) (c : Ct) (hm : c.nx.length = 2) (r : Int) (hr : 0 ≤ r ∧ r < 2) (t : Nat) (ht : t < j.ph.length) (hx : c.nx.getD r.toNat default = -1 ∨ 0 ≤ c.nx.getD r.toNat default) : CallSim Tryz.prog 69 [jnA j, ctA c, iA r, iA (t : Int)] [] (iA (svP j c r t)) [] := by
  have hl := map_len phA j.ph
  have hl2 := map_len iA c.nx
  have hyt := map_at phA j.ph t ht
  change (j.ph.map phA)[t]? = some (phA (phO j t)) at hyt
  have hyn := map_atI iA c.nx r hr.1 (by omega)
  unfold svP
  generalize c.nx.getD r.toNat default = xn at *
  by_cases hrt : r = (phO j t).ring
  · rw [if_pos hrt]
    generalize phO j t = pt at *
    (refine callSim_of tok Tryz.func69 rfl (fun args w => Tryz.call69 args w) rfl rfl rfl (fun F hF => ?_))
    (refine WW ?_)
    exact fin_ret [] rfl rfl rfl rfl
  rw [if_neg hrt]
  have hrt2 : ¬ (phO j t).ring = r := fun h => hrt h.symm
  generalize phO j t = pt at *
  (refine callSim_of tok Tryz.func69 rfl (fun args w => Tryz.call69 args w) rfl rfl rfl (fun F hF => ?_))
  (refine WW ?_)
  (refine sim_cntP (j.ph.length) [4, 5] [4, 5] [2, 3, 4, 5, 22, 23] [9, 24, 2, 3, 4, 5, 22, 23] rfl (fun i T U zs => (∀ p ∈ rpN j r i, (!cfP j.cf p t && decide (xn ≠ -1 ∧ xn ≤ (p : Int))) = false) ∧ zs = ⟨(9, iA (lsQ j r t i)) :: (24, iA i) :: T, U⟩) ?_; (conv => whnf); refine ⟨?_, ?_, ?_⟩)
  · exact ⟨fun p hp => absurd (rpN_sub hp) (Nat.not_lt_zero _), rfl⟩
  · rintro i st hi ⟨hI, rfl⟩
    have hy := map_at phA j.ph i hi
    change (j.ph.map phA)[i]? = some (phA (phO j i)) at hy
    have ck := rconf_c j.cf hcf i t
    have es := lsQ_succ j r t i
    have hrs := rpN_succ j r i
    have next : (phO j i).ring = r → (!cfP j.cf i t && decide (xn ≠ -1 ∧ xn ≤ (i : Int))) = false → ∀ p ∈ rpN j r (i + 1), (!cfP j.cf p t && decide (xn ≠ -1 ∧ xn ≤ (p : Int))) = false := fun h1 hb p hp => by
      rw [hrs, if_pos h1, List.mem_append, List.mem_singleton] at hp
      rcases hp with hp | rfl
      · exact hI p hp
      · exact hb
    have next0 : (phO j i).ring ≠ r → ∀ p ∈ rpN j r (i + 1), (!cfP j.cf p t && decide (xn ≠ -1 ∧ xn ≤ (p : Int))) = false := fun h1 p hp => by
      rw [hrs, if_neg h1] at hp
      exact hI p hp
    have hit : (phO j i).ring = r → (!cfP j.cf i t && decide (xn ≠ -1 ∧ xn ≤ (i : Int))) = true → cmF j xn r t = i := fun h1 hb => by
      obtain ⟨l2, hpre⟩ := rpN_pre j r j.ph.length (i + 1) (by omega)
      rw [hrs, if_pos h1] at hpre
      have e : (rpF j r).find? (fun p : Nat => !cfP j.cf p t && decide (xn ≠ -1 ∧ xn ≤ (p : Int))) = some i := by
        unfold rpF
        rw [hpre, List.append_assoc, List.find?_append, find_no hI, Option.none_or, List.singleton_append]
        exact List.find?_cons_of_pos hb
      unfold cmF
      rw [e]
    clear hI hrs
    generalize cfP j.cf i t = q at *
    generalize lsQ j r t (i + 1) = s2 at *
    generalize lsQ j r t i = s1 at *
    by_cases h1 : (phO j i).ring = r
    case neg =>
      have hnx := next0 h1
      rw [if_neg (fun h => h1 h.1)] at es
      generalize phO j i = p at *
      subst es
      clear next next0 hit
      (refine WW ?_)
      exact ⟨hnx, rfl⟩
    have next := next h1
    have hit := hit h1
    clear next0
    cases q with
    | true =>
      rw [if_neg (fun h => by cases h.2)] at es
      have hnx := next rfl
      generalize phO j i = p at *
      subst es
      clear next hit
      (have zc1 := ck; refine WW ?_; clear zc1)
      exact ⟨hnx, rfl⟩
    | false =>
    rw [if_pos ⟨h1, rfl⟩] at es
    by_cases h2 : s1 < 0
    · rw [if_pos h2] at es
      subst es
      by_cases h3 : xn = -1
      · have hnx := next (by rw [decide_eq_false (fun h => h.1 h3)]; rfl)
        generalize phO j i = p at *
        clear next hit
        (have zc1 := ck; refine WW ?_; clear zc1)
        exact ⟨hnx, rfl⟩
      by_cases h4 : xn ≤ (i : Int)
      · rw [hit (by rw [decide_eq_true ⟨h3, h4⟩]; rfl)]
        generalize phO j i = p at *
        clear next hit
        (have zc1 := ck; refine WW ?_; clear zc1)
        exact fin_ret [] rfl rfl rfl rfl
      · have hnx := next (by rw [decide_eq_false (fun h => h4 h.2)]; rfl)
        generalize phO j i = p at *
        clear next hit
        (have zc1 := ck; refine WW ?_; clear zc1)
        exact ⟨hnx, rfl⟩
    · rw [if_neg h2] at es
      subst es
      by_cases h3 : xn = -1
      · have hnx := next (by rw [decide_eq_false (fun h => h.1 h3)]; rfl)
        generalize phO j i = p at *
        clear next hit
        (have zc1 := ck; refine WW ?_; clear zc1)
        exact ⟨hnx, rfl⟩
      by_cases h4 : xn ≤ (i : Int)
      · rw [hit (by rw [decide_eq_true ⟨h3, h4⟩]; rfl)]
        generalize phO j i = p at *
        clear next hit
        (have zc1 := ck; refine WW ?_; clear zc1)
        exact fin_ret [] rfl rfl rfl rfl
      · have hnx := next (by rw [decide_eq_false (fun h => h4 h.2)]; rfl)
        generalize phO j i = p at *
        clear next hit
        (have zc1 := ck; refine WW ?_; clear zc1)
        exact ⟨hnx, rfl⟩
  · rintro st ⟨hI, rfl⟩
    have hno : cmF j xn r t = lsQ j r t j.ph.length := by
      unfold cmF lsQ
      rw [show rpF j r = rpN j r j.ph.length from rfl, find_no hI]
      rfl
    rw [hno]
    clear hI
    generalize lsQ j r t j.ph.length = s1 at *
    (refine WW ?_)
    exact fin_ret [] rfl rfl rfl rfl
theorem copyC_own (c : Ct) (h1 : c.li.length ≤ 1000) (h2 : c.nx.length ≤ 1000) : CallSim Tryz.prog 44 [ctA c] [] (.agg [.ref 1001 0 (c.li.map liA).length, iA c.gr, .ref 1002 0 (c.nx.map iA).length, iA c.wt]) [(1001, .arr 2 (c.li.map liA) false), (1002, .arr 1 (c.nx.map iA) false)] := by
  have hl := map_len liA c.li
  have hl2 := map_len iA c.nx
  (refine callSim_of tok Tryz.func44 rfl (fun args w => Tryz.call44 args w) rfl rfl rfl (fun F hF => ?_))
  (repeat' (first | (refine is_ops ?_; first | refine x_auto tok rfl rfl ?_ | (refine is_call ?_; fail) | (refine is_grd ?_; first | refine x_on rfl rfl ?_ | refine x_off rfl rfl rfl rfl ?_ | (refine x_gsplit rfl rfl (fun hc => ?_) (fun hc => ?_) <;> (try simp only [cmpB, decide_eq_true_eq, decide_eq_false_iff_not, beq_iff_eq, bne_iff_ne, ne_eq, Bool.not_eq_true, beq_eq_false_iff_ne, bne_eq_false_iff_eq, Int.not_lt, Int.not_le, Decidable.not_not] at hc))) | (refine is_bin ?_; first | refine x_q (stp_cmp_t rfl rfl rfl (by unfold cmpP; omega)) rfl ?_ | refine x_q (stp_cmp_f rfl rfl rfl (by unfold cmpP; omega)) rfl ?_ | refine x_q (stp_cmp rfl rfl rfl) rfl ?_ | refine x_q (stp_add rfl rfl ⟨by omega, by omega⟩) rfl ?_ | refine x_q (stp_sub rfl rfl ⟨by omega, by omega⟩) rfl ?_ | refine x_q (stp_mul rfl rfl ⟨by omega, by omega⟩) rfl ?_ | refine x_q (stp_quo rfl rfl (by assumption) (by omega)) rfl ?_ | refine x_q (stp_rem rfl rfl (by omega)) rfl ?_ | refine x_q (stp_xor rfl rfl) rfl ?_ | refine x_q (stp_shlI rfl rfl (by omega)) rfl ?_ | refine x_q (stp_shrI rfl rfl (by omega)) rfl ?_ | refine x_q (stp_shift (.inl ⟨rfl, rfl⟩) rfl rfl (by omega)) rfl ?_ | refine x_q (stp_shift (.inr ⟨rfl, rfl⟩) rfl rfl (by omega)) rfl ?_ | refine x_q (stp_bool2 tok rfl rfl rfl rfl (.inl ⟨rfl, rfl⟩)) rfl ?_ | refine x_q (stp_bool2 tok rfl rfl rfl rfl (.inr ⟨rfl, rfl⟩)) rfl ?_ | refine x_q (stp_eqlNil tok (.inl ⟨rfl, rfl⟩) rfl rfl rfl) rfl ?_ | refine x_q (stp_eqlNil_not tok (.inl ⟨rfl, rfl⟩) rfl rfl rfl rfl) rfl ?_ | refine x_q (stp_andI rfl rfl) rfl ?_ | refine x_q (stp_orI rfl rfl) rfl ?_ | refine x_q (stp_bicI rfl rfl) rfl ?_ | refine x_q (stp_strEqV rfl rfl (by assumption)) rfl ?_ | refine x_q (stp_strEq rfl rfl) rfl ?_ | refine x_q (stp_strNeV rfl rfl (by assumption)) rfl ?_ | refine x_q (stp_strNe rfl rfl) rfl ?_) | (refine is_idx ?_; first | refine x_q (stp_indexAddr_sl tok rfl rfl rfl rfl rfl (by omega) (by first | rfl | assumption) rfl rfl) rfl ?_ | refine x_q (stp_indexAddr_r0 tok rfl rfl rfl rfl rfl rfl (by omega) (by omega) rfl) rfl ?_ | refine x_q (stp_indexAddr_box tok rfl rfl rfl rfl rfl rfl (by omega) (by omega)) rfl ?_) | (refine is_load ?_; first | refine x_q (stp_load_fp1 tok rfl rfl rfl (by first | rfl | assumption) rfl) rfl ?_ | refine x_q (stp_load_fpa tok rfl rfl rfl (by first | rfl | assumption) rfl) rfl ?_ | refine x_q (stp_load_arr1 tok rfl rfl rfl rfl (by first | rfl | assumption) rfl) rfl ?_ | refine x_q (stp_load_arra tok rfl rfl rfl rfl (by first | rfl | assumption) rfl) rfl ?_) | (refine is_fad ?_; first | refine x_q (stp_fieldAddr_arr tok rfl rfl rfl rfl rfl rfl rfl rfl) rfl ?_ | refine x_q (stp_fieldAddr_fp tok rfl (by first | rfl | assumption) rfl rfl rfl rfl rfl rfl) rfl ?_) | (refine is_app ?_; first | refine x_appref0 tok rfl rfl rfl rfl rfl rfl rfl (by first | (intro y hy; cases hy; rfl) | exact map_hd _ _ (fun _ => rfl)) rfl rfl rfl (by first | omega | (simp; done) | (simp; omega)) rfl ?_ | refine x_appref tok rfl rfl rfl rfl rfl rfl rfl rfl rfl rfl rfl (by first | (intro y hy; cases hy; rfl) | exact map_hd _ _ (fun _ => rfl)) (by first | omega | (simp; done) | (simp; omega)) rfl ?_) | (refine is_un ?_; first | refine x_q (stp_neg rfl ⟨by omega, by omega⟩) rfl ?_) | (refine is_conv ?_; first | refine x_q (stp_conv_in tok rfl rfl rfl rfl ⟨by omega, by omega⟩) rfl ?_ | refine x_q (stp_conv tok rfl rfl rfl rfl) rfl ?_ | refine x_q (stp_convStr tok rfl rfl rfl rfl rfl rfl rfl (by first | rfl | assumption)) rfl ?_) | (refine is_slc ?_; first | refine x_slcL tok rfl rfl rfl rfl rfl (by first | (intro y hy; cases hy; rfl) | exact map_hd _ _ (fun _ => rfl) | (simp; done)) (by omega) (by simp; omega) (by first | exact List.map_drop.symm | rfl) rfl ?_ | refine x_slcH tok rfl rfl rfl rfl rfl (by first | (intro y hy; cases hy; rfl) | exact map_hd _ _ (fun _ => rfl) | (simp; done)) (by omega) (by simp; omega) (by first | exact List.map_take.symm | rfl) rfl ?_) | (refine is_app ?_; first | refine x_appnilK 1001 tok rfl rfl rfl rfl rfl rfl (map_hd _ _ (fun _ => rfl)) rfl rfl rfl (by omega) rfl rfl rfl ?_ | refine x_appnilK 1002 tok rfl rfl rfl rfl rfl rfl (map_hd _ _ (fun _ => rfl)) rfl rfl rfl (by omega) rfl rfl rfl ?_) | refine x_autow tok rfl rfl rfl rfl ?_ | (refine is_sto ?_; first | refine x_autos tok rfl rfl rfl ?_ | refine x_stoa tok rfl rfl rfl (by first | rfl | assumption) rfl rfl rfl rfl rfl rfl ?_ | refine x_sto1 tok rfl rfl rfl (by first | rfl | assumption) rfl rfl rfl rfl rfl rfl rfl rfl ?_) | refine x_nil ?_ | refine x_nilD (by kernel_rfl) ?_) | (first | refine sim_seq ?_ | refine x_region ?_ | refine x_draw rfl ?_ | refine sim_cond_true rfl ?_ | refine sim_cond_false rfl ?_ | (refine sim_cond rfl (fun hc => ?_) (fun hc => ?_) <;> (try simp only [cmpB, decide_eq_true_eq, decide_eq_false_iff_not, beq_iff_eq, bne_iff_ne, ne_eq, Bool.not_eq_true, beq_eq_false_iff_ne, bne_eq_false_iff_eq, Int.not_lt, Int.not_le, Decidable.not_not] at hc)) | refine sim_skip ?_ | refine sim_ret ?_ | refine sim_exit ?_ | refine sim_block ?_)))
  exact fin_own [1001, 1002] rfl rfl rfl rfl
end Av
end Go.Proofs.YtkliodbbcblobaaGreat
