/- law21: ends of services; awake; the law ArbiterEnds. -/
import Derived.Test.YtlabfbpnkjigoaaArD
import Derived.Test.YtlabfbpnkjigoaaAvq
namespace Go.Proofs.Ytlabfbpnkjigoaa
namespace Av
set_option linter.unusedSimpArgs false
set_option linter.unusedVariables false
set_option maxRecDepth 4000
set_option maxHeartbeats 1000000
def rem (d : Dk) : Nat := d.l.length - d.a
theorem rem_ad (d : Dk) : rem (ad d) ≤ rem d := by unfold ad; split; (unfold rem; dsimp only; omega); exact Nat.le_refl _
theorem rem_lt (d : Dk) (h : d.a < d.l.length) : rem (ad d) + 1 ≤ rem d := by unfold ad; rw [dif_pos h]; unfold rem; dsimp only; omega
theorem clL_rem (ph now : Int) (d : Dk) : ∀ i, rem (clL ph now d i).2 ≤ rem d
  | 0 => Nat.le_refl _
  | i + 1 => by
    have := clL_rem ph now d i
    have h1 := rem_ad (clL ph now d i).2
    have h2 := rem_ad (ad (clL ph now d i).2)
    have h3 := rem_ad (ad (ad (clL ph now d i).2))
    have h4 := rem_ad (ad (ad (ad (clL ph now d i).2)))
    have h5 := rem_ad (ad (ad (ad (ad (clL ph now d i).2))))
    simp only [clL]
    omega
theorem claims_ex (d : Dk) (n : Nat) (now : Int) (h1 : 1 ≤ n) (h2 : n ≤ 1000) (h3 : 0 ≤ now) (h4 : now ≤ 1000000) : ∃ c d', c.length ≤ 5 ∧ (∀ x ∈ c, ClB n now x) ∧ rem d' ≤ rem (ad d) ∧ CallSim Try.prog 42 [.ptr 1000 0 0, iA n, iA now] [(1000, dkE d)] (slA clA c) [(1000, dkE d')] := by
  have hb := nx_bd d 6 (by omega)
  refine ⟨clF d n now, clD d n now, by unfold clF; rw [clL_len]; omega, clL_bd n now (ad d) h3 (by omega) _, ?_, claims_c d n now (by omega) (by omega) h3 h4⟩
  unfold clD
  exact clL_rem _ _ _ _
theorem few_c (l : List Int) (hl : l.length ≤ 9223372036854775807) : CallSim Try.prog 36 [slA iA l] [] (bA (decide (l.length ≤ 300))) [] := by
  have hll := map_len iA l
  by_cases h : l.length ≤ 300
  · rw [decide_eq_true h]
    (refine callSim_of tok Try.func36 rfl (fun args w => Try.call36 args w) rfl rfl rfl fun F => ?_)
    (repeat' (first | (refine is_ops ?_; first | refine x_auto tok rfl rfl ?_ | (refine is_call ?_; fail) | (refine is_grd ?_; first | refine x_on rfl rfl ?_ | refine x_off rfl rfl rfl rfl ?_ | (refine x_gsplit rfl rfl (fun hc => ?_) (fun hc => ?_) <;> (try simp only [cmpB, decide_eq_true_eq, decide_eq_false_iff_not, beq_iff_eq, bne_iff_ne, ne_eq, Bool.not_eq_true, beq_eq_false_iff_ne, bne_eq_false_iff_eq, Int.not_lt, Int.not_le, Decidable.not_not] at hc))) | (refine is_bin ?_; first | refine x_q (stp_cmp_t rfl rfl rfl (by unfold cmpP; omega)) rfl ?_ | refine x_q (stp_cmp_f rfl rfl rfl (by unfold cmpP; omega)) rfl ?_ | refine x_q (stp_cmp rfl rfl rfl) rfl ?_ | refine x_q (stp_add rfl rfl ⟨by omega, by omega⟩) rfl ?_ | refine x_q (stp_sub rfl rfl ⟨by omega, by omega⟩) rfl ?_ | refine x_q (stp_mul rfl rfl ⟨by omega, by omega⟩) rfl ?_ | refine x_q (stp_quo rfl rfl (by assumption) (by omega)) rfl ?_ | refine x_q (stp_rem rfl rfl (by omega)) rfl ?_ | refine x_q (stp_xor rfl rfl) rfl ?_ | refine x_q (stp_shift (.inl ⟨rfl, rfl⟩) rfl rfl (by omega)) rfl ?_ | refine x_q (stp_shift (.inr ⟨rfl, rfl⟩) rfl rfl (by omega)) rfl ?_ | refine x_q (stp_bool2 tok rfl rfl rfl rfl (.inl ⟨rfl, rfl⟩)) rfl ?_ | refine x_q (stp_bool2 tok rfl rfl rfl rfl (.inr ⟨rfl, rfl⟩)) rfl ?_ | refine x_q (stp_eqlNil tok (.inl ⟨rfl, rfl⟩) rfl rfl rfl) rfl ?_ | refine x_q (stp_eqlNil_not tok (.inl ⟨rfl, rfl⟩) rfl rfl rfl rfl) rfl ?_) | (refine is_idx ?_; first | refine x_q (stp_indexAddr_sl tok rfl rfl rfl rfl rfl (by omega) (by first | rfl | assumption) rfl rfl) rfl ?_ | refine x_q (stp_indexAddr_r0 tok rfl rfl rfl rfl rfl rfl (by omega) (by omega) rfl) rfl ?_ | refine x_q (stp_indexAddr_box tok rfl rfl rfl rfl rfl rfl (by omega) (by omega)) rfl ?_) | (refine is_load ?_; first | refine x_q (stp_load_fp1 tok rfl rfl rfl (by first | rfl | assumption) rfl) rfl ?_ | refine x_q (stp_load_fpa tok rfl rfl rfl (by first | rfl | assumption) rfl) rfl ?_ | refine x_q (stp_load_arr1 tok rfl rfl rfl rfl (by first | rfl | assumption) rfl) rfl ?_ | refine x_q (stp_load_arra tok rfl rfl rfl rfl (by first | rfl | assumption) rfl) rfl ?_) | (refine is_fad ?_; first | refine x_q (stp_fieldAddr_arr tok rfl rfl rfl rfl rfl rfl rfl rfl) rfl ?_ | refine x_q (stp_fieldAddr_fp tok rfl (by first | rfl | assumption) rfl rfl rfl rfl rfl rfl) rfl ?_) | (refine is_app ?_; first | refine x_appref0 tok rfl rfl rfl rfl rfl rfl rfl (by first | (intro y hy; cases hy; rfl) | exact map_hd _ _ (fun _ => rfl)) rfl rfl rfl (by first | omega | (simp; done) | (simp; omega)) rfl ?_ | refine x_appref tok rfl rfl rfl rfl rfl rfl rfl rfl rfl rfl rfl (by first | (intro y hy; cases hy; rfl) | exact map_hd _ _ (fun _ => rfl)) (by first | omega | (simp; done) | (simp; omega)) rfl ?_) | (refine is_un ?_; first | refine x_q (stp_neg rfl ⟨by omega, by omega⟩) rfl ?_) | (refine is_conv ?_; first | refine x_q (stp_conv_in tok rfl rfl rfl rfl ⟨by omega, by omega⟩) rfl ?_ | refine x_q (stp_conv tok rfl rfl rfl rfl) rfl ?_) | (refine is_mks ?_; refine x_mks tok rfl rfl rfl rfl rfl rfl rfl rfl rfl rfl rfl rfl rfl (by omega) (by omega) rfl rfl rfl ?_) | refine x_autow tok rfl rfl rfl rfl ?_ | (refine is_sto ?_; first | refine x_autos tok rfl rfl rfl ?_ | refine x_stoa tok rfl rfl rfl (by first | rfl | assumption) rfl rfl rfl rfl rfl rfl ?_ | refine x_sto1 tok rfl rfl rfl (by first | rfl | assumption) rfl rfl rfl rfl rfl rfl rfl rfl ?_) | refine x_nil ?_ | refine x_nilD (by kernel_rfl) ?_) | (first | refine sim_seq ?_ | refine x_region ?_ | refine x_draw rfl ?_ | refine sim_cond_true rfl ?_ | refine sim_cond_false rfl ?_ | (refine sim_cond rfl (fun hc => ?_) (fun hc => ?_) <;> (try simp only [cmpB, decide_eq_true_eq, decide_eq_false_iff_not, beq_iff_eq, bne_iff_ne, ne_eq, Bool.not_eq_true, beq_eq_false_iff_ne, bne_eq_false_iff_eq, Int.not_lt, Int.not_le, Decidable.not_not] at hc)) | refine sim_skip ?_ | refine sim_ret ?_ | refine sim_exit ?_ | refine sim_block ?_)))
    exact fin_ret [] rfl rfl rfl rfl
  · rw [decide_eq_false h]
    (refine callSim_of tok Try.func36 rfl (fun args w => Try.call36 args w) rfl rfl rfl fun F => ?_)
    (repeat' (first | (refine is_ops ?_; first | refine x_auto tok rfl rfl ?_ | (refine is_call ?_; fail) | (refine is_grd ?_; first | refine x_on rfl rfl ?_ | refine x_off rfl rfl rfl rfl ?_ | (refine x_gsplit rfl rfl (fun hc => ?_) (fun hc => ?_) <;> (try simp only [cmpB, decide_eq_true_eq, decide_eq_false_iff_not, beq_iff_eq, bne_iff_ne, ne_eq, Bool.not_eq_true, beq_eq_false_iff_ne, bne_eq_false_iff_eq, Int.not_lt, Int.not_le, Decidable.not_not] at hc))) | (refine is_bin ?_; first | refine x_q (stp_cmp_t rfl rfl rfl (by unfold cmpP; omega)) rfl ?_ | refine x_q (stp_cmp_f rfl rfl rfl (by unfold cmpP; omega)) rfl ?_ | refine x_q (stp_cmp rfl rfl rfl) rfl ?_ | refine x_q (stp_add rfl rfl ⟨by omega, by omega⟩) rfl ?_ | refine x_q (stp_sub rfl rfl ⟨by omega, by omega⟩) rfl ?_ | refine x_q (stp_mul rfl rfl ⟨by omega, by omega⟩) rfl ?_ | refine x_q (stp_quo rfl rfl (by assumption) (by omega)) rfl ?_ | refine x_q (stp_rem rfl rfl (by omega)) rfl ?_ | refine x_q (stp_xor rfl rfl) rfl ?_ | refine x_q (stp_shift (.inl ⟨rfl, rfl⟩) rfl rfl (by omega)) rfl ?_ | refine x_q (stp_shift (.inr ⟨rfl, rfl⟩) rfl rfl (by omega)) rfl ?_ | refine x_q (stp_bool2 tok rfl rfl rfl rfl (.inl ⟨rfl, rfl⟩)) rfl ?_ | refine x_q (stp_bool2 tok rfl rfl rfl rfl (.inr ⟨rfl, rfl⟩)) rfl ?_ | refine x_q (stp_eqlNil tok (.inl ⟨rfl, rfl⟩) rfl rfl rfl) rfl ?_ | refine x_q (stp_eqlNil_not tok (.inl ⟨rfl, rfl⟩) rfl rfl rfl rfl) rfl ?_) | (refine is_idx ?_; first | refine x_q (stp_indexAddr_sl tok rfl rfl rfl rfl rfl (by omega) (by first | rfl | assumption) rfl rfl) rfl ?_ | refine x_q (stp_indexAddr_r0 tok rfl rfl rfl rfl rfl rfl (by omega) (by omega) rfl) rfl ?_ | refine x_q (stp_indexAddr_box tok rfl rfl rfl rfl rfl rfl (by omega) (by omega)) rfl ?_) | (refine is_load ?_; first | refine x_q (stp_load_fp1 tok rfl rfl rfl (by first | rfl | assumption) rfl) rfl ?_ | refine x_q (stp_load_fpa tok rfl rfl rfl (by first | rfl | assumption) rfl) rfl ?_ | refine x_q (stp_load_arr1 tok rfl rfl rfl rfl (by first | rfl | assumption) rfl) rfl ?_ | refine x_q (stp_load_arra tok rfl rfl rfl rfl (by first | rfl | assumption) rfl) rfl ?_) | (refine is_fad ?_; first | refine x_q (stp_fieldAddr_arr tok rfl rfl rfl rfl rfl rfl rfl rfl) rfl ?_ | refine x_q (stp_fieldAddr_fp tok rfl (by first | rfl | assumption) rfl rfl rfl rfl rfl rfl) rfl ?_) | (refine is_app ?_; first | refine x_appref0 tok rfl rfl rfl rfl rfl rfl rfl (by first | (intro y hy; cases hy; rfl) | exact map_hd _ _ (fun _ => rfl)) rfl rfl rfl (by first | omega | (simp; done) | (simp; omega)) rfl ?_ | refine x_appref tok rfl rfl rfl rfl rfl rfl rfl rfl rfl rfl rfl (by first | (intro y hy; cases hy; rfl) | exact map_hd _ _ (fun _ => rfl)) (by first | omega | (simp; done) | (simp; omega)) rfl ?_) | (refine is_un ?_; first | refine x_q (stp_neg rfl ⟨by omega, by omega⟩) rfl ?_) | (refine is_conv ?_; first | refine x_q (stp_conv_in tok rfl rfl rfl rfl ⟨by omega, by omega⟩) rfl ?_ | refine x_q (stp_conv tok rfl rfl rfl rfl) rfl ?_) | (refine is_mks ?_; refine x_mks tok rfl rfl rfl rfl rfl rfl rfl rfl rfl rfl rfl rfl rfl (by omega) (by omega) rfl rfl rfl ?_) | refine x_autow tok rfl rfl rfl rfl ?_ | (refine is_sto ?_; first | refine x_autos tok rfl rfl rfl ?_ | refine x_stoa tok rfl rfl rfl (by first | rfl | assumption) rfl rfl rfl rfl rfl rfl ?_ | refine x_sto1 tok rfl rfl rfl (by first | rfl | assumption) rfl rfl rfl rfl rfl rfl rfl rfl ?_) | refine x_nil ?_ | refine x_nilD (by kernel_rfl) ?_) | (first | refine sim_seq ?_ | refine x_region ?_ | refine x_draw rfl ?_ | refine sim_cond_true rfl ?_ | refine sim_cond_false rfl ?_ | (refine sim_cond rfl (fun hc => ?_) (fun hc => ?_) <;> (try simp only [cmpB, decide_eq_true_eq, decide_eq_false_iff_not, beq_iff_eq, bne_iff_ne, ne_eq, Bool.not_eq_true, beq_eq_false_iff_ne, bne_eq_false_iff_eq, Int.not_lt, Int.not_le, Decidable.not_not] at hc)) | refine sim_skip ?_ | refine sim_ret ?_ | refine sim_exit ?_ | refine sim_block ?_)))
    exact fin_ret [] rfl rfl rfl rfl
theorem decF_en (g : Cf) (s : Sv) (l : List Cl) (now : Int) : (decF g s l now).en = (dec1 g s l now).en := by unfold decF; split <;> rfl
theorem dec_len (g : Cf) (s : Sv) (l : List Cl) (now : Int) : (decF g s l now).en.length = s.en.length := by rw [decF_en]; exact dec1_len g s l now
theorem dec1_cases (g : Cf) (s : Sv) (l : List Cl) (now : Int) : (dec1 g s l now = s ∨ (s.ph ≠ -1 ∧ overF g s l = true ∧ dec1 g s l now = endsF s now)) := by
  unfold dec1; split
  · rename_i h; exact .inr ⟨h.1, h.2, rfl⟩
  · exact .inl rfl
theorem dec_chg (g : Cf) (s : Sv) (l : List Cl) (now : Int) (p : Nat) (h : p < s.en.length) (h' : p < (decF g s l now).en.length) (hc : (decF g s l now).en[p] ≠ s.en[p]) : (p : Int) = s.ph ∧ 0 < s.gr ∧ (decF g s l now).en[p] = now := by
  have e := decF_en g s l now
  have h2 : p < (dec1 g s l now).en.length := by rw [dec1_len]; exact h
  have e2 : (decF g s l now).en[p] = (dec1 g s l now).en[p] := by simp only [e]
  rw [e2] at hc ⊢
  rcases dec1_cases g s l now with hd | ⟨_, _, hd⟩
  · exact absurd (by simp only [hd]) hc
  · have e3 : (dec1 g s l now).en[p] = (endsF s now).en[p]'(by rw [endsF_len]; exact h) := by simp only [hd]
    rw [e3] at hc ⊢
    unfold endsF at hc ⊢
    by_cases hh : 0 < s.gr ∧ 0 ≤ s.ph ∧ s.ph < s.en.length
    · simp only [if_pos hh, List.getElem_set] at hc ⊢
      by_cases hp : s.ph.toNat = p
      · rw [if_pos hp]; exact ⟨by omega, hh.1, rfl⟩
      · rw [if_neg hp] at hc; exact absurd rfl hc
    · simp only [if_neg hh] at hc; exact absurd rfl hc
theorem dec_end (g : Cf) (s : Sv) (l : List Cl) (now : Int) (p : Nat) (h : p < s.en.length) (h' : p < (decF g s l now).en.length) (hp : (p : Int) = s.ph) (hh : 1 ≤ g.hold) (hg : g.hold ≤ s.gr) (hn : s.en[p] ≠ now) : (decF g s l now).en[p] ≠ s.en[p] := by
  have e := decF_en g s l now
  have ho : overF g s l = true := by unfold overF; rw [decide_eq_true hg]; simp
  have hd : dec1 g s l now = endsF s now := by unfold dec1; rw [if_pos ⟨by omega, ho⟩]
  have e2 : (decF g s l now).en[p] = (endsF s now).en[p]'(by rw [endsF_len]; exact h) := by simp only [e, hd]
  rw [e2]
  unfold endsF
  simp only [if_pos (show 0 < s.gr ∧ 0 ≤ s.ph ∧ s.ph < s.en.length by omega), List.getElem_set, if_pos (show s.ph.toNat = p by omega)]
  exact fun h => hn h.symm
theorem dec1_ph (g : Cf) (s : Sv) (l : List Cl) (now : Int) : (dec1 g s l now).ph = s.ph ∧ (dec1 g s l now).gr = s.gr ∨ (dec1 g s l now).ph = -1 ∧ (dec1 g s l now).gr = 0 := by
  rcases dec1_cases g s l now with hd | ⟨_, _, hd⟩
  · exact .inl (by rw [hd]; exact ⟨rfl, rfl⟩)
  · exact .inr (by rw [hd]; exact ⟨rfl, rfl⟩)
theorem dec_ph (g : Cf) (s : Sv) (l : List Cl) (now : Int) (n : Int) (hl : ∀ c ∈ l, 0 ≤ c.ph ∧ c.ph < n) (h : -1 ≤ s.ph ∧ s.ph < n ∧ 0 ≤ s.gr ∧ s.gr ≤ 60) (h0 : 0 ≤ n) : -1 ≤ (decF g s l now).ph ∧ (decF g s l now).ph < n ∧ 0 ≤ (decF g s l now).gr ∧ (decF g s l now).gr ≤ 60 := by
  have h1 := dec1_ph g s l now
  have hb := bestN_bd g (dec1 g s l now) now l l.length
  unfold decF
  split
  · rename_i hh
    have := getD_mem' (fun c : Cl => 0 ≤ c.ph ∧ c.ph < n) default l (bestN g (dec1 g s l now) now l l.length).toNat hl (by omega)
    dsimp only
    omega
  · omega
theorem dec_en (g : Cf) (s : Sv) (l : List Cl) (now : Int) (h0 : 0 ≤ now) (h : ∀ e ∈ s.en, -1 ≤ e ∧ e ≤ now) : ∀ e ∈ (decF g s l now).en, -1 ≤ e ∧ e ≤ now := by rw [decF_en]; exact dec1_en g s l now h0 h
theorem cnt_en (s : Sv) (b : Bool) : (cntF s b).en = s.en ∧ (cntF s b).ph = s.ph := by unfold cntF; split <;> exact ⟨rfl, rfl⟩
theorem cnt_gr (s : Sv) (b : Bool) (h : 0 ≤ s.gr ∧ s.gr ≤ 60) : 0 ≤ (cntF s b).gr ∧ (cntF s b).gr ≤ 60 := by unfold cntF; split; (dsimp only; omega); exact h
theorem cnt_z (s : Sv) (b : Bool) (hz : s.ph = -1 → s.gr = 0) : (cntF s b).ph = -1 → (cntF s b).gr = 0 := by
  unfold cntF; split
  · rename_i h; intro h2; exact absurd h2 h.2
  · exact hz
theorem dec_z (g : Cf) (s : Sv) (l : List Cl) (now : Int) (hz : s.ph = -1 → s.gr = 0) : (decF g s l now).ph = -1 → (decF g s l now).gr = 0 := by
  have h1 := dec1_ph g s l now
  unfold decF
  split
  · exact fun _ => rfl
  · intro h2; rcases h1 with h1 | h1
    · rw [h1.2]; exact hz (by omega)
    · exact h1.2
/-- What stays as it is while ticks pass. -/
structure EI (n : Nat) (d : Dk) (s : Sv) (now : Int) : Prop where
  len : s.en.length = n
  en : ∀ e ∈ s.en, -1 ≤ e ∧ e < now
  p0 : -1 ≤ s.ph
  p1 : s.ph < n
  g0 : 0 ≤ s.gr
  g1 : s.gr ≤ 60
  n0 : 1 ≤ now
  n1 : now + rem d ≤ 301
  z : s.ph = -1 → s.gr = 0
theorem EI.dcb {n : Nat} {d : Dk} {s : Sv} {now : Int} (H : EI n d s now) (hn : n ≤ 1000) (g : Cf) (hp : 1 ≤ g.per) (hc : 0 ≤ g.cap ∧ g.cap ≤ 100) (c : List Cl) (h5 : c.length ≤ 5) (hcl : ∀ x ∈ c, ClB n now x) : DcB g s c now := by
  have := H.n0
  have := H.n1
  have := H.len
  exact ⟨hp, by omega, by omega, by omega, by omega, fun e he => by have := H.en e he; omega, fun x hx => ⟨(hcl x hx).k0, (hcl x hx).k1⟩, fun x hx => ⟨(hcl x hx).s0, (hcl x hx).s1⟩, by omega, by omega⟩
theorem EI.next {n : Nat} {d : Dk} {s : Sv} {now : Int} (H : EI n d s now) (g : Cf) (c : List Cl) (hcl : ∀ x ∈ c, ClB n now x) (b : Bool) (d' : Dk) (hd : rem d' + 1 ≤ rem d) : EI n d' (cntF (decF g s c now) b) (now + 1) := by
  have hp := dec_ph g s c now n (fun x hx => ⟨(hcl x hx).p0, (hcl x hx).p1⟩) ⟨H.p0, H.p1, H.g0, H.g1⟩ (by omega)
  have hg := cnt_gr (decF g s c now) b hp.2.2
  obtain ⟨e1, e2⟩ := cnt_en (decF g s c now) b
  have := H.n0
  have := H.n1
  have he := dec_en g s c now (by omega) (fun e he => by have := H.en e he; omega)
  refine ⟨by rw [e1, dec_len]; exact H.len, fun e h => ?_, by omega, by omega, by omega, by omega, by omega, by omega, fun h => ?_⟩
  case refine_2 => exact cnt_z _ b (dec_z g s c now H.z) h
  rw [e1] at h
  have := he e h
  omega
theorem awake21_c : CallSim Try.prog 37 [] [] (bA true) [] := by
  have hb : ∀ s : Sv, s.en.length ≤ 10 → SvB s := fun s h => ⟨by omega⟩
  have dc : ∀ (s : Sv) (now : Int), 0 ≤ now → now ≤ 10 → s.en = [-1] → DcB ⟨[], [], 1, 0, 2, 9⟩ s [⟨0, 0, 0, 0, 0⟩] now := fun s now h1 h2 h3 =>
    ⟨by decide, by decide, by decide, h1, by omega, fun e he => by rw [h3] at he; simp at he; omega, by simp, by simp; omega, by simp, by rw [h3]; simp⟩
  have n1 : CallSim Try.prog 40 [iA 1] [] (svA ⟨-1, 0, [-1]⟩) [] := newA_c 1 (by omega)
  have d1 : CallSim Try.prog 43 [cfA ⟨[], [], 1, 0, 2, 9⟩, svA ⟨-1, 0, [-1]⟩, slA clA [⟨0, 0, 0, 0, 0⟩], iA 1] [] (svA ⟨0, 0, [-1]⟩) [] := decide_c _ _ _ 1 (dc _ 1 (by omega) (by omega) rfl)
  have k1 : CallSim Try.prog 44 [svA ⟨0, 0, [-1]⟩, bA true] [] (svA ⟨0, 1, [-1]⟩) [] := count_c _ (hb _ (by simp)) true (by simp)
  have d2 : CallSim Try.prog 43 [cfA ⟨[], [], 1, 0, 2, 9⟩, svA ⟨0, 1, [-1]⟩, slA clA [⟨0, 0, 0, 0, 0⟩], iA 2] [] (svA ⟨0, 1, [-1]⟩) [] := decide_c _ _ _ 2 (dc _ 2 (by omega) (by omega) rfl)
  have k2 : CallSim Try.prog 44 [svA ⟨0, 1, [-1]⟩, bA true] [] (svA ⟨0, 2, [-1]⟩) [] := count_c _ (hb _ (by simp)) true (by simp)
  have d3 : CallSim Try.prog 43 [cfA ⟨[], [], 1, 0, 2, 9⟩, svA ⟨0, 2, [-1]⟩, slA clA [⟨0, 0, 0, 0, 0⟩], iA 3] [] (svA ⟨-1, 0, [3]⟩) [] := decide_c _ _ _ 3 (dc _ 3 (by omega) (by omega) rfl)
  (refine callSim_of tok Try.func37 rfl (fun args w => Try.call37 args w) rfl rfl rfl fun F => ?_)
  (repeat' (first | (refine is_ops ?_; first | refine x_auto tok rfl rfl ?_ | (refine is_call ?_; (first | (refine is_fn 40 ?_; first | refine x_q (stp_call (n1) rfl rfl rfl rfl rfl) rfl ?_ | refine x_w (stp_call (n1) rfl rfl rfl rfl rfl) rfl rfl rfl ?_ | refine x_d (stp_call (n1) rfl rfl rfl rfl rfl) rfl rfl rfl ?_) | (refine is_fn 43 ?_; first | refine x_q (stp_call (d1) rfl rfl rfl rfl rfl) rfl ?_ | refine x_w (stp_call (d1) rfl rfl rfl rfl rfl) rfl rfl rfl ?_ | refine x_d (stp_call (d1) rfl rfl rfl rfl rfl) rfl rfl rfl ?_) | (refine is_fn 44 ?_; first | refine x_q (stp_call (k1) rfl rfl rfl rfl rfl) rfl ?_ | refine x_w (stp_call (k1) rfl rfl rfl rfl rfl) rfl rfl rfl ?_ | refine x_d (stp_call (k1) rfl rfl rfl rfl rfl) rfl rfl rfl ?_) | (refine is_fn 43 ?_; first | refine x_q (stp_call (d2) rfl rfl rfl rfl rfl) rfl ?_ | refine x_w (stp_call (d2) rfl rfl rfl rfl rfl) rfl rfl rfl ?_ | refine x_d (stp_call (d2) rfl rfl rfl rfl rfl) rfl rfl rfl ?_) | (refine is_fn 44 ?_; first | refine x_q (stp_call (k2) rfl rfl rfl rfl rfl) rfl ?_ | refine x_w (stp_call (k2) rfl rfl rfl rfl rfl) rfl rfl rfl ?_ | refine x_d (stp_call (k2) rfl rfl rfl rfl rfl) rfl rfl rfl ?_) | (refine is_fn 43 ?_; first | refine x_q (stp_call (d3) rfl rfl rfl rfl rfl) rfl ?_ | refine x_w (stp_call (d3) rfl rfl rfl rfl rfl) rfl rfl rfl ?_ | refine x_d (stp_call (d3) rfl rfl rfl rfl rfl) rfl rfl rfl ?_))) | (refine is_grd ?_; first | refine x_on rfl rfl ?_ | refine x_off rfl rfl rfl rfl ?_ | (refine x_gsplit rfl rfl (fun hc => ?_) (fun hc => ?_) <;> (try simp only [cmpB, decide_eq_true_eq, decide_eq_false_iff_not, beq_iff_eq, bne_iff_ne, ne_eq, Bool.not_eq_true, beq_eq_false_iff_ne, bne_eq_false_iff_eq, Int.not_lt, Int.not_le, Decidable.not_not] at hc))) | (refine is_bin ?_; first | refine x_q (stp_cmp_t rfl rfl rfl (by unfold cmpP; omega)) rfl ?_ | refine x_q (stp_cmp_f rfl rfl rfl (by unfold cmpP; omega)) rfl ?_ | refine x_q (stp_cmp rfl rfl rfl) rfl ?_ | refine x_q (stp_add rfl rfl ⟨by omega, by omega⟩) rfl ?_ | refine x_q (stp_sub rfl rfl ⟨by omega, by omega⟩) rfl ?_ | refine x_q (stp_mul rfl rfl ⟨by omega, by omega⟩) rfl ?_ | refine x_q (stp_quo rfl rfl (by assumption) (by omega)) rfl ?_ | refine x_q (stp_rem rfl rfl (by omega)) rfl ?_ | refine x_q (stp_xor rfl rfl) rfl ?_ | refine x_q (stp_shift (.inl ⟨rfl, rfl⟩) rfl rfl (by omega)) rfl ?_ | refine x_q (stp_shift (.inr ⟨rfl, rfl⟩) rfl rfl (by omega)) rfl ?_ | refine x_q (stp_bool2 tok rfl rfl rfl rfl (.inl ⟨rfl, rfl⟩)) rfl ?_ | refine x_q (stp_bool2 tok rfl rfl rfl rfl (.inr ⟨rfl, rfl⟩)) rfl ?_ | refine x_q (stp_eqlNil tok (.inl ⟨rfl, rfl⟩) rfl rfl rfl) rfl ?_ | refine x_q (stp_eqlNil_not tok (.inl ⟨rfl, rfl⟩) rfl rfl rfl rfl) rfl ?_) | (refine is_idx ?_; first | refine x_q (stp_indexAddr_sl tok rfl rfl rfl rfl rfl (by omega) (by first | rfl | assumption) rfl rfl) rfl ?_ | refine x_q (stp_indexAddr_r0 tok rfl rfl rfl rfl rfl rfl (by omega) (by omega) rfl) rfl ?_ | refine x_q (stp_indexAddr_box tok rfl rfl rfl rfl rfl rfl (by omega) (by omega)) rfl ?_) | (refine is_load ?_; first | refine x_q (stp_load_fp1 tok rfl rfl rfl (by first | rfl | assumption) rfl) rfl ?_ | refine x_q (stp_load_fpa tok rfl rfl rfl (by first | rfl | assumption) rfl) rfl ?_ | refine x_q (stp_load_arr1 tok rfl rfl rfl rfl (by first | rfl | assumption) rfl) rfl ?_ | refine x_q (stp_load_arra tok rfl rfl rfl rfl (by first | rfl | assumption) rfl) rfl ?_) | (refine is_fad ?_; first | refine x_q (stp_fieldAddr_arr tok rfl rfl rfl rfl rfl rfl rfl rfl) rfl ?_ | refine x_q (stp_fieldAddr_fp tok rfl (by first | rfl | assumption) rfl rfl rfl rfl rfl rfl) rfl ?_) | (refine is_app ?_; first | refine x_appref0 tok rfl rfl rfl rfl rfl rfl rfl (by first | (intro y hy; cases hy; rfl) | exact map_hd _ _ (fun _ => rfl)) rfl rfl rfl (by first | omega | (simp; done) | (simp; omega)) rfl ?_ | refine x_appref tok rfl rfl rfl rfl rfl rfl rfl rfl rfl rfl rfl (by first | (intro y hy; cases hy; rfl) | exact map_hd _ _ (fun _ => rfl)) (by first | omega | (simp; done) | (simp; omega)) rfl ?_) | (refine is_un ?_; first | refine x_q (stp_neg rfl ⟨by omega, by omega⟩) rfl ?_) | (refine is_conv ?_; first | refine x_q (stp_conv_in tok rfl rfl rfl rfl ⟨by omega, by omega⟩) rfl ?_ | refine x_q (stp_conv tok rfl rfl rfl rfl) rfl ?_) | (refine is_bsl ?_; refine x_lit tok rfl rfl ?_) | (refine is_app ?_; refine x_appnilF tok rfl rfl rfl rfl rfl rfl (by first | (intro y hy; cases hy; rfl) | exact map_hd _ _ (fun _ => rfl)) rfl rfl rfl (by first | omega | (simp; done) | (simp; omega)) rfl ?_) | (refine is_mks ?_; refine x_mks tok rfl rfl rfl rfl rfl rfl rfl rfl rfl rfl rfl rfl rfl (by omega) (by omega) rfl rfl rfl ?_) | refine x_autow tok rfl rfl rfl rfl ?_ | (refine is_sto ?_; first | refine x_autos tok rfl rfl rfl ?_ | refine x_stoa tok rfl rfl rfl (by first | rfl | assumption) rfl rfl rfl rfl rfl rfl ?_ | refine x_sto1 tok rfl rfl rfl (by first | rfl | assumption) rfl rfl rfl rfl rfl rfl rfl rfl ?_) | refine x_nil ?_ | refine x_nilD (by kernel_rfl) ?_) | (first | refine sim_seq ?_ | refine x_region ?_ | refine x_draw rfl ?_ | refine sim_cond_true rfl ?_ | refine sim_cond_false rfl ?_ | (refine sim_cond rfl (fun hc => ?_) (fun hc => ?_) <;> (try simp only [cmpB, decide_eq_true_eq, decide_eq_false_iff_not, beq_iff_eq, bne_iff_ne, ne_eq, Bool.not_eq_true, beq_eq_false_iff_ne, bne_eq_false_iff_eq, Int.not_lt, Int.not_le, Decidable.not_not] at hc)) | refine sim_skip ?_ | refine sim_ret ?_ | refine sim_exit ?_ | refine sim_block ?_)))
  exact fin_ret [] rfl rfl rfl rfl
end Av
end Go.Proofs.Ytlabfbpnkjigoaa
