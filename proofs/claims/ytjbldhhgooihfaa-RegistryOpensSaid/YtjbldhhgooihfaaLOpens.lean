/- The law RegistryOpens. -/
import Derived.Test.YtjbldhhgooihfaaRgT
import Derived.Test.YtjbldhhgooihfaaRgU
namespace Go.Proofs.Ytjbldhhgooihfaa
namespace Av
set_option linter.unusedSimpArgs false
set_option linter.unusedVariables false
set_option maxRecDepth 4000
set_option maxHeartbeats 1000000
/-- The registry that may be spoilt. -/
def badR (r : Rg) (q n5 : Int) : Rg :=
  if q = 0 then ⟨n5 - 1, r.ag, r.tk, r.vh, r.bk⟩
  else if q = 1 then ⟨r.num, r.ag, r.tk, r.vh, ⟨r.bk.burst + 1, r.bk.rate, r.bk.burst⟩⟩
  else if q = 2 then ⟨r.num, ⟨r.ag.sec, r.ag.rights, r.ag.cls, r.ag.lim, r.ag.req, r.ag.ses, r.ag.rate + 1, r.ag.burst⟩, r.tk, r.vh, r.bk⟩
  else if q = 3 then ⟨r.num, r.ag, r.tk.set 0 ⟨false, (r.tk.getD 0 default).sec, (r.tk.getD 0 default).par, (r.tk.getD 0 default).rights, (r.tk.getD 0 default).cls, (r.tk.getD 0 default).til⟩, r.vh, r.bk⟩
  else r
theorem badR_v (r : Rg) (q n5 : Int) : (badR r q n5).vh = r.vh := by
  unfold badR
  repeat' split
  all_goals rfl
theorem badR_l (r : Rg) (q n5 : Int) : (badR r q n5).tk.length = r.tk.length := by
  unfold badR
  repeat' split
  all_goals first | rfl | exact List.length_set
theorem opens_c (raw : Rg) (l : List Int) (hl : l.length ≤ 9223372036854775807) (number now : Int) (hnu : InR .i64 number) : CallSim Try.prog 4 [rgA raw, slA iA l, iA number, iA now] [] (bA true) [] := by
  have aw := awake17_c
  have cl := light_c raw
  cases hli : liF raw
  · rw [hli] at cl
    (refine callSim_of tok Try.func4 rfl (fun args w => Try.call4 args w) rfl rfl rfl (fun F hF => ?_))
    (have zc1 := cl; have zc2 := aw; refine WL ?_; clear zc1 zc2)
    exact fin_ret [] rfl rfl rfl rfl
  rw [hli] at cl
  unfold liF at hli
  rw [decide_eq_true_eq] at hli
  have v1 := gvalid_x raw (by omega)
  have v2 := gvalid2_c raw (by omega)
  generalize gvF raw = qa at *
  clear hli
  have hn := new_c l hl
  generalize (⟨l, 0, Nat.zero_le _, hl⟩ : Dk) = d0 at *
  obtain ⟨r, d1, hr, _, cr⟩ := registered_ex d0
  have co := copyG_own r hr.b'
  have cq := mod_c number 5 (by omega) (by omega)
  have bq := Int.emod_nonneg number (show (5 : Int) ≠ 0 by omega)
  have bq2 := Int.emod_lt_of_pos number (show (0 : Int) < 5 by omega)
  have c5 := mod_c (number.tdiv 5) 6 (by omega) (by omega)
  have b5 : 0 ≤ number.tdiv 5 % 6 ∧ number.tdiv 5 % 6 < 6 := by omega
  have cn := mod_c now 40 (by omega) (by omega)
  have bn : 0 ≤ now % 40 ∧ now % 40 < 40 := by omega
  generalize number.tdiv 5 % 6 = n5 at *
  generalize number % 5 = q at *
  generalize now % 40 = now1 at *
  have hdv : InR .i64 (number.tdiv 5) := by
    unfold InR at hnu ⊢
    have h1 := Int.tmod_add_mul_tdiv number 5
    have h2 := Int.tmod_lt_of_pos number (show (0 : Int) < 5 by omega)
    have h3 := Int.lt_tmod_of_pos number (show (0 : Int) < 5 by omega)
    generalize number.tdiv 5 = a at *
    generalize number.tmod 5 = b at *
    omega
  have hrb := hr.b'
  have hv8 := hr.v
  have ht8 := hr.t.n
  have hbu := hr.bu
  have hra := hr.ra
  have hab := hr.a.b
  have hat := hr.a.t
  have hlv := hr.l
  have erg : rgA raw = .agg (rgC raw (slA tkA raw.tk)) := rfl
  have erg2 : rgA r = .agg (rgC r (slA tkA r.tk)) := rfl
  have hll : (r.tk.map tkA).length = 8 := by rw [List.length_map]; exact ht8
  have hy0 : (r.tk.map tkA)[0]? = some (tkA (r.tk.getD 0 default)) := map_at tkA r.tk 0 (by omega)
  generalize hbad : badR r q n5 = bad at *
  have w1 := gvalid_x bad (by rw [← hbad, badR_v]; omega)
  have w2 := gvalid2_c bad (by rw [← hbad, badR_v]; omega)
  generalize gvF bad = qb at *
  (refine callSim_of tok Try.func4 rfl (fun args w => Try.call4 args w) rfl rfl rfl (fun F hF => ?_))
  (repeat' (first | (refine is_ops ?_; first | refine x_auto tok rfl rfl ?_ | (refine is_call ?_; (first | (refine is_fn 17 ?_; first | refine x_q (stp_call (cl) rfl rfl rfl rfl rfl) rfl ?_ | refine x_w (stp_call (cl) rfl rfl rfl rfl rfl) rfl rfl rfl ?_ | refine x_d (stp_call (cl) rfl rfl rfl rfl rfl) rfl rfl rfl ?_) | (refine is_fn 8 ?_; first | refine x_q (stp_call (hn) rfl rfl rfl rfl rfl) rfl ?_ | refine x_w (stp_call (hn) rfl rfl rfl rfl rfl) rfl rfl rfl ?_ | refine x_d (stp_call (hn) rfl rfl rfl rfl rfl) rfl rfl rfl ?_) | (refine is_fn 9 ?_; first | refine x_q (stp_call (cr) rfl rfl rfl rfl rfl) rfl ?_ | refine x_w (stp_call (cr) rfl rfl rfl rfl rfl) rfl rfl rfl ?_ | refine x_d (stp_call (cr) rfl rfl rfl rfl rfl) rfl rfl rfl ?_) | (refine is_fn 18 ?_; first | refine x_q (stp_call (co) rfl rfl rfl rfl rfl) rfl ?_ | refine x_w (stp_call (co) rfl rfl rfl rfl rfl) rfl rfl rfl ?_ | refine x_d (stp_call (co) rfl rfl rfl rfl rfl) rfl rfl rfl ?_) | (refine is_fn 10 ?_; first | refine x_q (stp_call (cq) rfl rfl rfl rfl rfl) rfl ?_ | refine x_w (stp_call (cq) rfl rfl rfl rfl rfl) rfl rfl rfl ?_ | refine x_d (stp_call (cq) rfl rfl rfl rfl rfl) rfl rfl rfl ?_))) | (refine is_grd ?_; first | refine x_on rfl rfl ?_ | refine x_off rfl rfl rfl rfl ?_ | (refine x_gsplit rfl rfl (fun hc => ?_) (fun hc => ?_) <;> (try simp only [cmpB, decide_eq_true_eq, decide_eq_false_iff_not, beq_iff_eq, bne_iff_ne, ne_eq, Bool.not_eq_true, beq_eq_false_iff_ne, bne_eq_false_iff_eq, Int.not_lt, Int.not_le, Decidable.not_not] at hc))) | (refine is_bin ?_; first | refine x_q (stp_cmp_t rfl rfl rfl (by unfold cmpP; omega)) rfl ?_ | refine x_q (stp_cmp_f rfl rfl rfl (by unfold cmpP; omega)) rfl ?_ | refine x_q (stp_cmp rfl rfl rfl) rfl ?_ | refine x_q (stp_add rfl rfl ⟨by omega, by omega⟩) rfl ?_ | refine x_q (stp_sub rfl rfl ⟨by omega, by omega⟩) rfl ?_ | refine x_q (stp_mul rfl rfl ⟨by omega, by omega⟩) rfl ?_ | refine x_q (stp_quo rfl rfl (by assumption) (by omega)) rfl ?_ | refine x_q (stp_rem rfl rfl (by omega)) rfl ?_ | refine x_q (stp_xor rfl rfl) rfl ?_ | refine x_q (stp_shlI rfl rfl (by omega)) rfl ?_ | refine x_q (stp_shrI rfl rfl (by omega)) rfl ?_ | refine x_q (stp_shift (.inl ⟨rfl, rfl⟩) rfl rfl (by omega)) rfl ?_ | refine x_q (stp_shift (.inr ⟨rfl, rfl⟩) rfl rfl (by omega)) rfl ?_ | refine x_q (stp_bool2 tok rfl rfl rfl rfl (.inl ⟨rfl, rfl⟩)) rfl ?_ | refine x_q (stp_bool2 tok rfl rfl rfl rfl (.inr ⟨rfl, rfl⟩)) rfl ?_ | refine x_q (stp_eqlNil tok (.inl ⟨rfl, rfl⟩) rfl rfl rfl) rfl ?_ | refine x_q (stp_eqlNil_not tok (.inl ⟨rfl, rfl⟩) rfl rfl rfl rfl) rfl ?_ | refine x_q (stp_andI rfl rfl) rfl ?_ | refine x_q (stp_orI rfl rfl) rfl ?_ | refine x_q (stp_bicI rfl rfl) rfl ?_ | refine x_q (stp_strEqV rfl rfl (by assumption)) rfl ?_ | refine x_q (stp_strEq rfl rfl) rfl ?_ | refine x_q (stp_strNeV rfl rfl (by assumption)) rfl ?_ | refine x_q (stp_strNe rfl rfl) rfl ?_) | (refine is_idx ?_; first | refine x_q (stp_indexAddr_sl tok rfl rfl rfl rfl rfl (by omega) (by first | rfl | assumption) rfl rfl) rfl ?_ | refine x_q (stp_indexAddr_r0 tok rfl rfl rfl rfl rfl rfl (by omega) (by omega) rfl) rfl ?_ | refine x_q (stp_indexAddr_box tok rfl rfl rfl rfl rfl rfl (by omega) (by omega)) rfl ?_) | (refine is_load ?_; first | refine x_q (stp_load_fp1 tok rfl rfl rfl (by first | rfl | assumption) rfl) rfl ?_ | refine x_q (stp_load_fpa tok rfl rfl rfl (by first | rfl | assumption) rfl) rfl ?_ | refine x_q (stp_load_arr1 tok rfl rfl rfl rfl (by first | rfl | assumption) rfl) rfl ?_ | refine x_q (stp_load_arra tok rfl rfl rfl rfl (by first | rfl | assumption) rfl) rfl ?_) | (refine is_fad ?_; first | refine x_q (stp_fieldAddr_arr tok rfl rfl rfl rfl rfl rfl rfl rfl) rfl ?_ | refine x_q (stp_fieldAddr_fp tok rfl (by first | rfl | assumption) rfl rfl rfl rfl rfl rfl) rfl ?_) | (refine is_app ?_; first | refine x_appref0 tok rfl rfl rfl rfl rfl rfl rfl (by first | (intro y hy; cases hy; rfl) | exact map_hd _ _ (fun _ => rfl)) rfl rfl rfl (by first | omega | (simp; done) | (simp; omega)) rfl ?_ | refine x_appref tok rfl rfl rfl rfl rfl rfl rfl rfl rfl rfl rfl (by first | (intro y hy; cases hy; rfl) | exact map_hd _ _ (fun _ => rfl)) (by first | omega | (simp; done) | (simp; omega)) rfl ?_) | (refine is_un ?_; first | refine x_q (stp_neg rfl ⟨by omega, by omega⟩) rfl ?_) | (refine is_conv ?_; first | refine x_q (stp_conv_in tok rfl rfl rfl rfl ⟨by omega, by omega⟩) rfl ?_ | refine x_q (stp_conv tok rfl rfl rfl rfl) rfl ?_ | refine x_q (stp_convStr tok rfl rfl rfl rfl rfl rfl rfl (by first | rfl | assumption)) rfl ?_) | (refine is_slc ?_; first | refine x_slcL tok rfl rfl rfl rfl rfl (by first | (intro y hy; cases hy; rfl) | exact map_hd _ _ (fun _ => rfl) | (simp; done)) (by omega) (by simp; omega) (by first | exact List.map_drop.symm | rfl) rfl ?_ | refine x_slcH tok rfl rfl rfl rfl rfl (by first | (intro y hy; cases hy; rfl) | exact map_hd _ _ (fun _ => rfl) | (simp; done)) (by omega) (by simp; omega) (by first | exact List.map_take.symm | rfl) rfl ?_) | (refine is_mks ?_; refine x_mks tok rfl rfl rfl rfl rfl rfl rfl rfl rfl rfl rfl rfl rfl (by omega) (by omega) rfl rfl rfl ?_) | refine x_autow tok rfl rfl rfl rfl ?_ | (refine is_sto ?_; first | refine x_autos tok rfl rfl rfl ?_ | refine x_stoa tok rfl rfl rfl (by first | rfl | assumption) rfl rfl rfl rfl rfl rfl ?_ | refine x_sto1 tok rfl rfl rfl (by first | rfl | assumption) rfl rfl rfl rfl rfl rfl rfl rfl ?_) | refine x_nil ?_ | refine x_nilD (by kernel_rfl) ?_) | (first | refine sim_seq ?_ | refine x_region ?_ | refine x_draw rfl ?_ | refine sim_cond_true rfl ?_ | refine sim_cond_false rfl ?_ | (refine sim_cond rfl (fun hc => ?_) (fun hc => ?_) <;> (try simp only [cmpB, decide_eq_true_eq, decide_eq_false_iff_not, beq_iff_eq, bne_iff_ne, ne_eq, Bool.not_eq_true, beq_eq_false_iff_ne, bne_eq_false_iff_eq, Int.not_lt, Int.not_le, Decidable.not_not] at hc)) | refine sim_skip ?_ | refine sim_ret ?_ | refine sim_exit ?_)))
  refine sim_join [1000, 4, 10, 11] [2, 3, 4, 9, 10, 11] ⟨[(2, iA number), (3, iA now), (4, .ptr 4 0 0), (9, .ptr 1000 0 0), (10, .ptr 10 0 0), (11, .ptr 11 0 0)], [(1000, dkE d1), (4, .box (rgC raw (slA tkA raw.tk))), (10, .box (rgC r (slA tkA r.tk))), (11, .box (rgC bad (.sl false ((bad.tk.map tkA).take (r.tk.map tkA).length))))]⟩ rfl ?_ ?_
  · unfold badR at hbad
    clear w1 w2 v1 v2
    by_cases q0 : q = 0
    · rw [if_pos q0] at hbad
      subst hbad
      (have zc1 := c5; refine WW ?_; clear zc1)
      exact ⟨rfl, rfl⟩
    rw [if_neg q0] at hbad
    by_cases q1 : q = 1
    · rw [if_pos q1] at hbad
      subst hbad
      (refine WW ?_)
      exact ⟨rfl, rfl⟩
    rw [if_neg q1] at hbad
    by_cases q2 : q = 2
    · rw [if_pos q2] at hbad
      subst hbad
      (refine WW ?_)
      exact ⟨rfl, rfl⟩
    rw [if_neg q2] at hbad
    by_cases q3 : q = 3
    · rw [if_pos q3] at hbad
      subst hbad
      have em : List.map tkA (r.tk.set 0 ⟨false, (r.tk.getD 0 default).sec, (r.tk.getD 0 default).par, (r.tk.getD 0 default).rights, (r.tk.getD 0 default).cls, (r.tk.getD 0 default).til⟩) = (List.map tkA r.tk).set 0 (tkA ⟨false, (r.tk.getD 0 default).sec, (r.tk.getD 0 default).par, (r.tk.getD 0 default).rights, (r.tk.getD 0 default).cls, (r.tk.getD 0 default).til⟩) := List.map_set
      rw [show (⟨r.num, r.ag, r.tk.set 0 ⟨false, (r.tk.getD 0 default).sec, (r.tk.getD 0 default).par, (r.tk.getD 0 default).rights, (r.tk.getD 0 default).cls, (r.tk.getD 0 default).til⟩, r.vh, r.bk⟩ : Rg).tk = r.tk.set 0 ⟨false, (r.tk.getD 0 default).sec, (r.tk.getD 0 default).par, (r.tk.getD 0 default).rights, (r.tk.getD 0 default).cls, (r.tk.getD 0 default).til⟩ from rfl, em]
      clear em
      generalize r.tk.getD 0 default = t at *
      (refine WW ?_)
      exact ⟨rfl, rfl⟩
    · rw [if_neg q3] at hbad
      subst hbad
      (refine WW ?_)
      exact ⟨rfl, rfl⟩
  have etk : (bad.tk.map tkA).take (r.tk.map tkA).length = bad.tk.map tkA := List.take_of_length_le (by rw [hll, List.length_map, ← hbad, badR_l, ht8]; exact Nat.le_refl _)
  rw [etk]
  unfold rgC
  have vr := gvalid_x r (by omega)
  rw [gvF_S hr] at vr
  have m1 := gnew_c number r.ag hrb.s hrb.l
  have m2 := gnew2_c number r.ag hrb.s hrb.l
  have m3 := gsame_c (rgN number r.ag) (rgN_b number r.ag hr.a)
  clear hbad etk
  refine sim_seq ?_
  refine sim_join [1000, 10] [2, 3, 9, 10] ⟨[(2, iA number), (3, iA now), (9, .ptr 1000 0 0), (10, .ptr 10 0 0)], [(1000, dkE d1), (10, .box (rgC r (slA tkA r.tk)))]⟩ rfl ?_ ?_
  · generalize rgN number r.ag = nw at *
    cases qa <;> cases qb <;> ((repeat' (first | (refine is_ops ?_; first | refine x_auto tok rfl rfl ?_ | (refine is_call ?_; (first | (refine is_fn 19 ?_; first | refine x_q (stp_call (v1) rfl rfl rfl rfl rfl) rfl ?_ | refine x_w (stp_call (v1) rfl rfl rfl rfl rfl) rfl rfl rfl ?_ | refine x_d (stp_call (v1) rfl rfl rfl rfl rfl) rfl rfl rfl ?_) | (refine is_fn 20 ?_; first | refine x_q (stp_call (v2) rfl rfl rfl rfl rfl) rfl ?_ | refine x_w (stp_call (v2) rfl rfl rfl rfl rfl) rfl rfl rfl ?_ | refine x_d (stp_call (v2) rfl rfl rfl rfl rfl) rfl rfl rfl ?_) | (refine is_fn 19 ?_; first | refine x_q (stp_call (vr) rfl rfl rfl rfl rfl) rfl ?_ | refine x_w (stp_call (vr) rfl rfl rfl rfl rfl) rfl rfl rfl ?_ | refine x_d (stp_call (vr) rfl rfl rfl rfl rfl) rfl rfl rfl ?_) | (refine is_fn 19 ?_; first | refine x_q (stp_call (w1) rfl rfl rfl rfl rfl) rfl ?_ | refine x_w (stp_call (w1) rfl rfl rfl rfl rfl) rfl rfl rfl ?_ | refine x_d (stp_call (w1) rfl rfl rfl rfl rfl) rfl rfl rfl ?_) | (refine is_fn 20 ?_; first | refine x_q (stp_call (w2) rfl rfl rfl rfl rfl) rfl ?_ | refine x_w (stp_call (w2) rfl rfl rfl rfl rfl) rfl rfl rfl ?_ | refine x_d (stp_call (w2) rfl rfl rfl rfl rfl) rfl rfl rfl ?_) | (refine is_fn 22 ?_; first | refine x_q (stp_call (m1) rfl rfl rfl rfl rfl) rfl ?_ | refine x_w (stp_call (m1) rfl rfl rfl rfl rfl) rfl rfl rfl ?_ | refine x_d (stp_call (m1) rfl rfl rfl rfl rfl) rfl rfl rfl ?_) | (refine is_fn 23 ?_; first | refine x_q (stp_call (m2) rfl rfl rfl rfl rfl) rfl ?_ | refine x_w (stp_call (m2) rfl rfl rfl rfl rfl) rfl rfl rfl ?_ | refine x_d (stp_call (m2) rfl rfl rfl rfl rfl) rfl rfl rfl ?_) | (refine is_fn 21 ?_; first | refine x_q (stp_call (m3) rfl rfl rfl rfl rfl) rfl ?_ | refine x_w (stp_call (m3) rfl rfl rfl rfl rfl) rfl rfl rfl ?_ | refine x_d (stp_call (m3) rfl rfl rfl rfl rfl) rfl rfl rfl ?_))) | (refine is_grd ?_; first | refine x_on rfl rfl ?_ | refine x_off rfl rfl rfl rfl ?_ | (refine x_gsplit rfl rfl (fun hc => ?_) (fun hc => ?_) <;> (try simp only [cmpB, decide_eq_true_eq, decide_eq_false_iff_not, beq_iff_eq, bne_iff_ne, ne_eq, Bool.not_eq_true, beq_eq_false_iff_ne, bne_eq_false_iff_eq, Int.not_lt, Int.not_le, Decidable.not_not] at hc))) | (refine is_bin ?_; first | refine x_q (stp_cmp_t rfl rfl rfl (by unfold cmpP; omega)) rfl ?_ | refine x_q (stp_cmp_f rfl rfl rfl (by unfold cmpP; omega)) rfl ?_ | refine x_q (stp_cmp rfl rfl rfl) rfl ?_ | refine x_q (stp_add rfl rfl ⟨by omega, by omega⟩) rfl ?_ | refine x_q (stp_sub rfl rfl ⟨by omega, by omega⟩) rfl ?_ | refine x_q (stp_mul rfl rfl ⟨by omega, by omega⟩) rfl ?_ | refine x_q (stp_quo rfl rfl (by assumption) (by omega)) rfl ?_ | refine x_q (stp_rem rfl rfl (by omega)) rfl ?_ | refine x_q (stp_xor rfl rfl) rfl ?_ | refine x_q (stp_shlI rfl rfl (by omega)) rfl ?_ | refine x_q (stp_shrI rfl rfl (by omega)) rfl ?_ | refine x_q (stp_shift (.inl ⟨rfl, rfl⟩) rfl rfl (by omega)) rfl ?_ | refine x_q (stp_shift (.inr ⟨rfl, rfl⟩) rfl rfl (by omega)) rfl ?_ | refine x_q (stp_bool2 tok rfl rfl rfl rfl (.inl ⟨rfl, rfl⟩)) rfl ?_ | refine x_q (stp_bool2 tok rfl rfl rfl rfl (.inr ⟨rfl, rfl⟩)) rfl ?_ | refine x_q (stp_eqlNil tok (.inl ⟨rfl, rfl⟩) rfl rfl rfl) rfl ?_ | refine x_q (stp_eqlNil_not tok (.inl ⟨rfl, rfl⟩) rfl rfl rfl rfl) rfl ?_ | refine x_q (stp_andI rfl rfl) rfl ?_ | refine x_q (stp_orI rfl rfl) rfl ?_ | refine x_q (stp_bicI rfl rfl) rfl ?_ | refine x_q (stp_strEqV rfl rfl (by assumption)) rfl ?_ | refine x_q (stp_strEq rfl rfl) rfl ?_ | refine x_q (stp_strNeV rfl rfl (by assumption)) rfl ?_ | refine x_q (stp_strNe rfl rfl) rfl ?_) | (refine is_idx ?_; first | refine x_q (stp_indexAddr_sl tok rfl rfl rfl rfl rfl (by omega) (by first | rfl | assumption) rfl rfl) rfl ?_ | refine x_q (stp_indexAddr_r0 tok rfl rfl rfl rfl rfl rfl (by omega) (by omega) rfl) rfl ?_ | refine x_q (stp_indexAddr_box tok rfl rfl rfl rfl rfl rfl (by omega) (by omega)) rfl ?_) | (refine is_load ?_; first | refine x_q (stp_load_fp1 tok rfl rfl rfl (by first | rfl | assumption) rfl) rfl ?_ | refine x_q (stp_load_fpa tok rfl rfl rfl (by first | rfl | assumption) rfl) rfl ?_ | refine x_q (stp_load_arr1 tok rfl rfl rfl rfl (by first | rfl | assumption) rfl) rfl ?_ | refine x_q (stp_load_arra tok rfl rfl rfl rfl (by first | rfl | assumption) rfl) rfl ?_) | (refine is_fad ?_; first | refine x_q (stp_fieldAddr_arr tok rfl rfl rfl rfl rfl rfl rfl rfl) rfl ?_ | refine x_q (stp_fieldAddr_fp tok rfl (by first | rfl | assumption) rfl rfl rfl rfl rfl rfl) rfl ?_) | (refine is_app ?_; first | refine x_appref0 tok rfl rfl rfl rfl rfl rfl rfl (by first | (intro y hy; cases hy; rfl) | exact map_hd _ _ (fun _ => rfl)) rfl rfl rfl (by first | omega | (simp; done) | (simp; omega)) rfl ?_ | refine x_appref tok rfl rfl rfl rfl rfl rfl rfl rfl rfl rfl rfl (by first | (intro y hy; cases hy; rfl) | exact map_hd _ _ (fun _ => rfl)) (by first | omega | (simp; done) | (simp; omega)) rfl ?_) | (refine is_un ?_; first | refine x_q (stp_neg rfl ⟨by omega, by omega⟩) rfl ?_) | (refine is_conv ?_; first | refine x_q (stp_conv_in tok rfl rfl rfl rfl ⟨by omega, by omega⟩) rfl ?_ | refine x_q (stp_conv tok rfl rfl rfl rfl) rfl ?_ | refine x_q (stp_convStr tok rfl rfl rfl rfl rfl rfl rfl (by first | rfl | assumption)) rfl ?_) | (refine is_slc ?_; first | refine x_slcL tok rfl rfl rfl rfl rfl (by first | (intro y hy; cases hy; rfl) | exact map_hd _ _ (fun _ => rfl) | (simp; done)) (by omega) (by simp; omega) (by first | exact List.map_drop.symm | rfl) rfl ?_ | refine x_slcH tok rfl rfl rfl rfl rfl (by first | (intro y hy; cases hy; rfl) | exact map_hd _ _ (fun _ => rfl) | (simp; done)) (by omega) (by simp; omega) (by first | exact List.map_take.symm | rfl) rfl ?_) | (refine is_mks ?_; refine x_mks tok rfl rfl rfl rfl rfl rfl rfl rfl rfl rfl rfl rfl rfl (by omega) (by omega) rfl rfl rfl ?_) | refine x_autow tok rfl rfl rfl rfl ?_ | (refine is_sto ?_; first | refine x_autos tok rfl rfl rfl ?_ | refine x_stoa tok rfl rfl rfl (by first | rfl | assumption) rfl rfl rfl rfl rfl rfl ?_ | refine x_sto1 tok rfl rfl rfl (by first | rfl | assumption) rfl rfl rfl rfl rfl rfl rfl rfl ?_) | refine x_nil ?_ | refine x_nilD (by kernel_rfl) ?_) | (first | refine sim_seq ?_ | refine x_region ?_ | refine x_draw rfl ?_ | refine sim_cond_true rfl ?_ | refine sim_cond_false rfl ?_ | (refine sim_cond rfl (fun hc => ?_) (fun hc => ?_) <;> (try simp only [cmpB, decide_eq_true_eq, decide_eq_false_iff_not, beq_iff_eq, bne_iff_ne, ne_eq, Bool.not_eq_true, beq_eq_false_iff_ne, bne_eq_false_iff_eq, Int.not_lt, Int.not_le, Decidable.not_not] at hc)) | refine sim_skip ?_ | refine sim_ret ?_ | refine sim_exit ?_ | refine sim_block ?_))); exact ⟨rfl, rfl⟩)
  clear v1 v2 vr w1 w2 m1 m2 m3 cl co cr hn hll hy0
  unfold rgC
  obtain ⟨N, hN⟩ : ∃ N : Nat, N = 4 := ⟨4, rfl⟩
  (have zc1 := cn; refine WW ?_; clear zc1)
  (refine sim_cnt (N) [1000, 10] [10] [3, 9, 10] [91, 3, 9, 10] rfl (fun i T U => ⟨(91, iA i) :: T, (1000, dkE (mgD r d1 i)) :: U⟩) ?_; (conv => whnf); refine ⟨by rfl, ?_, ?_⟩)
  · intro i hi
    obtain ⟨hty, cm⟩ := mgR_c hr (mgD r d1 i)
    rw [show mgD r d1 (i + 1) = (mgR r (mgD r d1 i)).2 from rfl]
    generalize (mgR r (mgD r d1 i)).1 = m at *
    generalize (mgR r (mgD r d1 i)).2 = e2 at *
    generalize mgD r d1 i = e at *
    have o1 := open_c r m now1 hrb hty (by omega)
    have o2 := open2_c r m now1 hrb hty (by omega)
    have os := gsame_c (opR r m now1) (opR_b hrb m now1)
    generalize opR r m now1 = y at *
    generalize opS r m now1 = sl at *
    generalize opE r m now1 = er at *
    clear aw
    (have zc1 := cm; have zc2 := o1; have zc3 := o2; have zc4 := os; refine WW ?_; clear zc1 zc2 zc3 zc4)
    rfl
  · have t1 := gtick_c r now1 hrb (by omega)
    have t2 := gtick2_c r now1 hrb ht8 (by omega)
    have ts := gsame_c (rtF r now1) (rtF_b hrb now1)
    generalize rtF r now1 = y at *
    rw [hN]
    (repeat' (first | (refine is_ops ?_; first | refine x_auto tok rfl rfl ?_ | (refine is_call ?_; (first | (refine is_fn 25 ?_; first | refine x_q (stp_call (t1) rfl rfl rfl rfl rfl) rfl ?_ | refine x_w (stp_call (t1) rfl rfl rfl rfl rfl) rfl rfl rfl ?_ | refine x_d (stp_call (t1) rfl rfl rfl rfl rfl) rfl rfl rfl ?_) | (refine is_fn 26 ?_; first | refine x_q (stp_call (t2) rfl rfl rfl rfl rfl) rfl ?_ | refine x_w (stp_call (t2) rfl rfl rfl rfl rfl) rfl rfl rfl ?_ | refine x_d (stp_call (t2) rfl rfl rfl rfl rfl) rfl rfl rfl ?_) | (refine is_fn 21 ?_; first | refine x_q (stp_call (ts) rfl rfl rfl rfl rfl) rfl ?_ | refine x_w (stp_call (ts) rfl rfl rfl rfl rfl) rfl rfl rfl ?_ | refine x_d (stp_call (ts) rfl rfl rfl rfl rfl) rfl rfl rfl ?_) | (refine is_fn 7 ?_; first | refine x_q (stp_call (aw) rfl rfl rfl rfl rfl) rfl ?_ | refine x_w (stp_call (aw) rfl rfl rfl rfl rfl) rfl rfl rfl ?_ | refine x_d (stp_call (aw) rfl rfl rfl rfl rfl) rfl rfl rfl ?_))) | (refine is_grd ?_; first | refine x_on rfl rfl ?_ | refine x_off rfl rfl rfl rfl ?_ | (refine x_gsplit rfl rfl (fun hc => ?_) (fun hc => ?_) <;> (try simp only [cmpB, decide_eq_true_eq, decide_eq_false_iff_not, beq_iff_eq, bne_iff_ne, ne_eq, Bool.not_eq_true, beq_eq_false_iff_ne, bne_eq_false_iff_eq, Int.not_lt, Int.not_le, Decidable.not_not] at hc))) | (refine is_bin ?_; first | refine x_q (stp_cmp_t rfl rfl rfl (by unfold cmpP; omega)) rfl ?_ | refine x_q (stp_cmp_f rfl rfl rfl (by unfold cmpP; omega)) rfl ?_ | refine x_q (stp_cmp rfl rfl rfl) rfl ?_ | refine x_q (stp_add rfl rfl ⟨by omega, by omega⟩) rfl ?_ | refine x_q (stp_sub rfl rfl ⟨by omega, by omega⟩) rfl ?_ | refine x_q (stp_mul rfl rfl ⟨by omega, by omega⟩) rfl ?_ | refine x_q (stp_quo rfl rfl (by assumption) (by omega)) rfl ?_ | refine x_q (stp_rem rfl rfl (by omega)) rfl ?_ | refine x_q (stp_xor rfl rfl) rfl ?_ | refine x_q (stp_shlI rfl rfl (by omega)) rfl ?_ | refine x_q (stp_shrI rfl rfl (by omega)) rfl ?_ | refine x_q (stp_shift (.inl ⟨rfl, rfl⟩) rfl rfl (by omega)) rfl ?_ | refine x_q (stp_shift (.inr ⟨rfl, rfl⟩) rfl rfl (by omega)) rfl ?_ | refine x_q (stp_bool2 tok rfl rfl rfl rfl (.inl ⟨rfl, rfl⟩)) rfl ?_ | refine x_q (stp_bool2 tok rfl rfl rfl rfl (.inr ⟨rfl, rfl⟩)) rfl ?_ | refine x_q (stp_eqlNil tok (.inl ⟨rfl, rfl⟩) rfl rfl rfl) rfl ?_ | refine x_q (stp_eqlNil_not tok (.inl ⟨rfl, rfl⟩) rfl rfl rfl rfl) rfl ?_ | refine x_q (stp_andI rfl rfl) rfl ?_ | refine x_q (stp_orI rfl rfl) rfl ?_ | refine x_q (stp_bicI rfl rfl) rfl ?_ | refine x_q (stp_strEqV rfl rfl (by assumption)) rfl ?_ | refine x_q (stp_strEq rfl rfl) rfl ?_ | refine x_q (stp_strNeV rfl rfl (by assumption)) rfl ?_ | refine x_q (stp_strNe rfl rfl) rfl ?_) | (refine is_idx ?_; first | refine x_q (stp_indexAddr_sl tok rfl rfl rfl rfl rfl (by omega) (by first | rfl | assumption) rfl rfl) rfl ?_ | refine x_q (stp_indexAddr_r0 tok rfl rfl rfl rfl rfl rfl (by omega) (by omega) rfl) rfl ?_ | refine x_q (stp_indexAddr_box tok rfl rfl rfl rfl rfl rfl (by omega) (by omega)) rfl ?_) | (refine is_load ?_; first | refine x_q (stp_load_fp1 tok rfl rfl rfl (by first | rfl | assumption) rfl) rfl ?_ | refine x_q (stp_load_fpa tok rfl rfl rfl (by first | rfl | assumption) rfl) rfl ?_ | refine x_q (stp_load_arr1 tok rfl rfl rfl rfl (by first | rfl | assumption) rfl) rfl ?_ | refine x_q (stp_load_arra tok rfl rfl rfl rfl (by first | rfl | assumption) rfl) rfl ?_) | (refine is_fad ?_; first | refine x_q (stp_fieldAddr_arr tok rfl rfl rfl rfl rfl rfl rfl rfl) rfl ?_ | refine x_q (stp_fieldAddr_fp tok rfl (by first | rfl | assumption) rfl rfl rfl rfl rfl rfl) rfl ?_) | (refine is_app ?_; first | refine x_appref0 tok rfl rfl rfl rfl rfl rfl rfl (by first | (intro y hy; cases hy; rfl) | exact map_hd _ _ (fun _ => rfl)) rfl rfl rfl (by first | omega | (simp; done) | (simp; omega)) rfl ?_ | refine x_appref tok rfl rfl rfl rfl rfl rfl rfl rfl rfl rfl rfl (by first | (intro y hy; cases hy; rfl) | exact map_hd _ _ (fun _ => rfl)) (by first | omega | (simp; done) | (simp; omega)) rfl ?_) | (refine is_un ?_; first | refine x_q (stp_neg rfl ⟨by omega, by omega⟩) rfl ?_) | (refine is_conv ?_; first | refine x_q (stp_conv_in tok rfl rfl rfl rfl ⟨by omega, by omega⟩) rfl ?_ | refine x_q (stp_conv tok rfl rfl rfl rfl) rfl ?_ | refine x_q (stp_convStr tok rfl rfl rfl rfl rfl rfl rfl (by first | rfl | assumption)) rfl ?_) | (refine is_slc ?_; first | refine x_slcL tok rfl rfl rfl rfl rfl (by first | (intro y hy; cases hy; rfl) | exact map_hd _ _ (fun _ => rfl) | (simp; done)) (by omega) (by simp; omega) (by first | exact List.map_drop.symm | rfl) rfl ?_ | refine x_slcH tok rfl rfl rfl rfl rfl (by first | (intro y hy; cases hy; rfl) | exact map_hd _ _ (fun _ => rfl) | (simp; done)) (by omega) (by simp; omega) (by first | exact List.map_take.symm | rfl) rfl ?_) | (refine is_mks ?_; refine x_mks tok rfl rfl rfl rfl rfl rfl rfl rfl rfl rfl rfl rfl rfl (by omega) (by omega) rfl rfl rfl ?_) | refine x_autow tok rfl rfl rfl rfl ?_ | (refine is_sto ?_; first | refine x_autos tok rfl rfl rfl ?_ | refine x_stoa tok rfl rfl rfl (by first | rfl | assumption) rfl rfl rfl rfl rfl rfl ?_ | refine x_sto1 tok rfl rfl rfl (by first | rfl | assumption) rfl rfl rfl rfl rfl rfl rfl rfl ?_) | refine x_nil ?_ | refine x_nilD (by kernel_rfl) ?_) | (first | refine sim_seq ?_ | refine x_region ?_ | refine x_draw rfl ?_ | refine sim_cond_true rfl ?_ | refine sim_cond_false rfl ?_ | (refine sim_cond rfl (fun hc => ?_) (fun hc => ?_) <;> (try simp only [cmpB, decide_eq_true_eq, decide_eq_false_iff_not, beq_iff_eq, bne_iff_ne, ne_eq, Bool.not_eq_true, beq_eq_false_iff_ne, bne_eq_false_iff_eq, Int.not_lt, Int.not_le, Decidable.not_not] at hc)) | refine sim_skip ?_ | refine sim_ret ?_ | refine sim_exit ?_ | refine sim_block ?_)))
    exact fin_ret [] rfl rfl rfl rfl
theorem in_row {n : Int} (h : (Lit.int .i64 n).wf = true) : InR .i64 n := by
  unfold Lit.wf at h
  rw [Bool.and_eq_true, decide_eq_true_eq, decide_eq_true_eq] at h
  have e1 : IntKind.i64.min = -9223372036854775808 := by decide
  have e2 : IntKind.i64.max = 9223372036854775807 := by decide
  unfold InR
  omega
theorem opens_w (raw : Rg) (_ : True) (l : List Int) (hl : l.length ≤ 9223372036854775807) (number : Int) (hnu : (Lit.int .i64 number).wf = true) (now : Int) : CallSim Try.prog 4 [rgA raw, slA iA l, iA number, iA now] [] (bA true) [] := opens_c raw l hl number now (in_row hnu)
end Av
end Go.Proofs.Ytjbldhhgooihfaa
