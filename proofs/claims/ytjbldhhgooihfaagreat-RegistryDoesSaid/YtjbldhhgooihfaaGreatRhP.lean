
/- law17: registry.Do and the reference's are the same. -/
import Derived.Test.YtjbldhhgooihfaaGreatRhN
import Derived.Test.YtjbldhhgooihfaaGreatRhO
namespace Go.Proofs.YtjbldhhgooihfaaGreat
namespace Av
set_option linter.unusedSimpArgs false
set_option linter.unusedVariables false
set_option maxRecDepth 4000
set_option maxHeartbeats 4000000
theorem do_other (r : Rg) (m : Ms) (s now : Int) (sec : List Int) (c1 : CallSim Tryz.prog 19 [rgA r] [] (bA true) []) (c2 : CallSim Tryz.prog 25 [msA m] [] (bA true) []) (c3 : CallSim Tryz.prog 26 [slA tkA r.tk, iA s] [] (bA true) []) (c4 : CallSim Tryz.prog 27 [rgA r] [] (rgA r) []) (hs : (sec.length : Int) = 0 ∨ (sec.length : Int) = 8)
    (h2 : ¬ m.kind = 2) (h3 : ¬ m.kind = 3) (h4 : ¬ m.kind = 4) (h5 : ¬ m.kind = 5) : CallSim Tryz.prog 12 [rgA r, msA m, iA s, iA now, slA yA sec] [] (doR 1) [] := by
  rw [doR_eq]
  have hls := map_len yA sec
  rcases hs with hs | hs
  all_goals
    (refine callSim_of tok Tryz.func12 rfl (fun args w => Tryz.call12 args w) rfl rfl rfl (fun F hF => ?_))
    (have zc1 := c1; have zc2 := c2; have zc3 := c3; have zc4 := c4; refine WW ?_; clear zc1 zc2 zc3 zc4)
    exact fin_ret [] rfl rfl rfl rfl
theorem len1 {l : List Int} (h : l.length = 1) : ∃ a, l = [a] := by
  match l, h with
  | [a], _ => exact ⟨a, rfl⟩
theorem len2 {l : List Int} (h : l.length = 2) : ∃ a b, l = [a, b] := by
  match l, h with
  | [a, b], _ => exact ⟨a, b, rfl⟩
theorem len3 {l : List Int} (h : l.length = 3) : ∃ a b c, l = [a, b, c] := by
  match l, h with
  | [a, b, c], _ => exact ⟨a, b, c, rfl⟩
theorem do_both (r : Rg) (hv : r.vh.length ≤ 1000) (m : Ms) (hm : MsB m) (s now : Int) (sec : List Int) (hs : sec.length ≤ 1000) : DoBoth r m s now sec := by
  have c1 := gvalid_x r (by omega)
  have k1 := gvalid2_c r (by omega)
  obtain ⟨b, c2, hb⟩ := mvalid_x m hm
  have c3 := gused_c r.tk s
  cases hg : gvF r with
  | false =>
    rw [hg] at c1 k1
    exact .bad 1 (do_bad r m s now sec false b _ c1 c2 c3 (.inl rfl) hs) (rdo_bad1 r m s now sec k1)
  | true =>
  have H := gv_b hg
  rw [hg] at c1 k1
  by_cases hk : m.kind = 2 ∨ m.kind = 3 ∨ m.kind = 4 ∨ m.kind = 5
  case neg =>
    have h2 : ¬ m.kind = 2 := fun h => hk (.inl h)
    have h3 : ¬ m.kind = 3 := fun h => hk (.inr (.inl h))
    have h4 : ¬ m.kind = 4 := fun h => hk (.inr (.inr (.inl h)))
    have h5 : ¬ m.kind = 5 := fun h => hk (.inr (.inr (.inr h)))
    refine .bad 1 ?_ (rdo_bad2 r m s now sec k1 h2 h3 h4 h5)
    cases b with
    | false => exact do_bad r m s now sec true false _ c1 c2 c3 (.inr (.inl rfl)) hs
    | true =>
    cases hu : usF r.tk s with
    | false => exact do_bad r m s now sec true true _ c1 c2 c3 (.inr (.inr (.inl hu))) hs
    | true =>
    rw [hu] at c3
    by_cases hsl : (sec.length : Int) = 0 ∨ (sec.length : Int) = 8
    · exact do_other r m s now sec c1 c2 c3 (rclone_c r H.b) hsl h2 h3 h4 h5
    · exact do_bad r m s now sec true true true c1 c2 c3 (.inr (.inr (.inr ⟨fun h => hsl (.inl h), fun h => hsl (.inr h)⟩))) hs
  obtain ⟨f, hf⟩ : ∃ f, kdP m.kind f := by
    unfold kdP
    rcases hk with h | h | h | h
    · exact ⟨3, .inl ⟨h, rfl⟩⟩
    · exact ⟨1, .inr (.inl ⟨h, rfl⟩)⟩
    · exact ⟨2, .inr (.inr (.inl ⟨h, rfl⟩))⟩
    · exact ⟨1, .inr (.inr (.inr ⟨h, rfl⟩))⟩
  obtain ⟨b', k2, hb'⟩ := r5valid_x m hm f hf
  have hbb : b' = b := by
    have h1 := hb f hf
    cases b <;> cases b' <;> simp_all
  subst hbb
  have h1 := hb f hf
  cases b' with
  | false => exact .bad 1 (do_bad r m s now sec true false _ c1 c2 c3 (.inr (.inl rfl)) hs) (rdo_bad3 r m s now sec H.n8 false k1 k2 hk (.inl rfl) hs)
  | true =>
  cases hu : usF r.tk s with
  | false => exact .bad 1 (do_bad r m s now sec true true _ c1 c2 c3 (.inr (.inr (.inl hu))) hs) (rdo_bad3 r m s now sec H.n8 true k1 k2 hk (.inr (.inl hu)) hs)
  | true =>
  by_cases hsl : (sec.length : Int) = 0 ∨ (sec.length : Int) = 8
  case neg =>
    have hq : ¬ (sec.length : Int) = 0 ∧ ¬ (sec.length : Int) = 8 := ⟨fun h => hsl (.inl h), fun h => hsl (.inr h)⟩
    exact .bad 1 (do_bad r m s now sec true true _ c1 c2 c3 (.inr (.inr (.inr hq))) hs) (rdo_bad3 r m s now sec H.n8 true k1 k2 hk (.inr (.inr hq)) hs)
  obtain ⟨_, hd, hal, _⟩ := h1.1 rfl
  obtain ⟨mk, tkn, ar, da⟩ := m
  dsimp only at hd hal hf
  subst hd
  rcases hf with ⟨rfl, rfl⟩ | ⟨rfl, rfl⟩ | ⟨rfl, rfl⟩ | ⟨rfl, rfl⟩
  · obtain ⟨x, y, z, rfl⟩ := len3 hal
    exact do2 r hg tkn x y z s now sec hu hsl c2 k2
  · obtain ⟨x, rfl⟩ := len1 hal
    exact do3 r hg tkn x s now sec hu hsl c2 k2
  · obtain ⟨x, y, rfl⟩ := len2 hal
    exact do4 r hg tkn x y s now sec hu hsl c2 k2
  · obtain ⟨x, rfl⟩ := len1 hal
    exact do5 r hg tkn x s now sec hu hsl c2 k2
/-- ref05.Same of one and the same. -/
theorem msame_c (m : Ms) (hm : MsB m) : CallSim Tryz.prog 15 [msA m, msA m] [] (bA true) [] := by
  have ha := hm.a
  have hla := map_len iA m.args
  (refine callSim_of tok Tryz.func15 rfl (fun args w => Tryz.call15 args w) rfl rfl rfl (fun F hF => ?_))
  (repeat' (first | (refine is_ops ?_; first | refine x_auto tok rfl rfl ?_ | (refine is_call ?_; fail) | (refine is_grd ?_; first | refine x_on rfl rfl ?_ | refine x_off rfl rfl rfl rfl ?_ | (refine x_gsplit rfl rfl (fun hc => ?_) (fun hc => ?_) <;> (try simp only [cmpB, decide_eq_true_eq, decide_eq_false_iff_not, beq_iff_eq, bne_iff_ne, ne_eq, Bool.not_eq_true, beq_eq_false_iff_ne, bne_eq_false_iff_eq, Int.not_lt, Int.not_le, Decidable.not_not] at hc))) | (refine is_bin ?_; first | refine x_q (stp_cmp_t rfl rfl rfl (by unfold cmpP; omega)) rfl ?_ | refine x_q (stp_cmp_f rfl rfl rfl (by unfold cmpP; omega)) rfl ?_ | refine x_q (stp_cmp rfl rfl rfl) rfl ?_ | refine x_q (stp_add rfl rfl ⟨by omega, by omega⟩) rfl ?_ | refine x_q (stp_sub rfl rfl ⟨by omega, by omega⟩) rfl ?_ | refine x_q (stp_mul rfl rfl ⟨by omega, by omega⟩) rfl ?_ | refine x_q (stp_quo rfl rfl (by assumption) (by omega)) rfl ?_ | refine x_q (stp_rem rfl rfl (by omega)) rfl ?_ | refine x_q (stp_xor rfl rfl) rfl ?_ | refine x_q (stp_shlI rfl rfl (by omega)) rfl ?_ | refine x_q (stp_shrI rfl rfl (by omega)) rfl ?_ | refine x_q (stp_shift (.inl ⟨rfl, rfl⟩) rfl rfl (by omega)) rfl ?_ | refine x_q (stp_shift (.inr ⟨rfl, rfl⟩) rfl rfl (by omega)) rfl ?_ | refine x_q (stp_bool2 tok rfl rfl rfl rfl (.inl ⟨rfl, rfl⟩)) rfl ?_ | refine x_q (stp_bool2 tok rfl rfl rfl rfl (.inr ⟨rfl, rfl⟩)) rfl ?_ | refine x_q (stp_eqlNil tok (.inl ⟨rfl, rfl⟩) rfl rfl rfl) rfl ?_ | refine x_q (stp_eqlNil_not tok (.inl ⟨rfl, rfl⟩) rfl rfl rfl rfl) rfl ?_ | refine x_q (stp_andI rfl rfl) rfl ?_ | refine x_q (stp_orI rfl rfl) rfl ?_ | refine x_q (stp_bicI rfl rfl) rfl ?_ | refine x_q (stp_strEqV rfl rfl (by assumption)) rfl ?_ | refine x_q (stp_strEq rfl rfl) rfl ?_ | refine x_q (stp_strNeV rfl rfl (by assumption)) rfl ?_ | refine x_q (stp_strNe rfl rfl) rfl ?_) | (refine is_idx ?_; first | refine x_q (stp_indexAddr_sl tok rfl rfl rfl rfl rfl (by omega) (by first | rfl | assumption) rfl rfl) rfl ?_ | refine x_q (stp_indexAddr_r0 tok rfl rfl rfl rfl rfl rfl (by omega) (by omega) rfl) rfl ?_ | refine x_q (stp_indexAddr_box tok rfl rfl rfl rfl rfl rfl (by omega) (by omega)) rfl ?_) | (refine is_load ?_; first | refine x_q (stp_load_fp1 tok rfl rfl rfl (by first | rfl | assumption) rfl) rfl ?_ | refine x_q (stp_load_fpa tok rfl rfl rfl (by first | rfl | assumption) rfl) rfl ?_ | refine x_q (stp_load_arr1 tok rfl rfl rfl rfl (by first | rfl | assumption) rfl) rfl ?_ | refine x_q (stp_load_arra tok rfl rfl rfl rfl (by first | rfl | assumption) rfl) rfl ?_) | (refine is_fad ?_; first | refine x_q (stp_fieldAddr_arr tok rfl rfl rfl rfl rfl rfl rfl rfl) rfl ?_ | refine x_q (stp_fieldAddr_fp tok rfl (by first | rfl | assumption) rfl rfl rfl rfl rfl rfl) rfl ?_) | (refine is_app ?_; first | refine x_appref0 tok rfl rfl rfl rfl rfl rfl rfl (by first | (intro y hy; cases hy; rfl) | exact map_hd _ _ (fun _ => rfl)) rfl rfl rfl (by first | omega | (simp; done) | (simp; omega)) rfl ?_ | refine x_appref tok rfl rfl rfl rfl rfl rfl rfl rfl rfl rfl rfl (by first | (intro y hy; cases hy; rfl) | exact map_hd _ _ (fun _ => rfl)) (by first | omega | (simp; done) | (simp; omega)) rfl ?_) | (refine is_un ?_; first | refine x_q (stp_neg rfl ⟨by omega, by omega⟩) rfl ?_) | (refine is_conv ?_; first | refine x_q (stp_conv_in tok rfl rfl rfl rfl ⟨by omega, by omega⟩) rfl ?_ | refine x_q (stp_conv tok rfl rfl rfl rfl) rfl ?_ | refine x_q (stp_convStr tok rfl rfl rfl rfl rfl rfl rfl (by first | rfl | assumption)) rfl ?_) | (refine is_slc ?_; first | refine x_slcL tok rfl rfl rfl rfl rfl (by first | (intro y hy; cases hy; rfl) | exact map_hd _ _ (fun _ => rfl) | (simp; done)) (by omega) (by simp; omega) (by first | exact List.map_drop.symm | rfl) rfl ?_ | refine x_slcH tok rfl rfl rfl rfl rfl (by first | (intro y hy; cases hy; rfl) | exact map_hd _ _ (fun _ => rfl) | (simp; done)) (by omega) (by simp; omega) (by first | exact List.map_take.symm | rfl) rfl ?_) | (refine is_mks ?_; refine x_mks tok rfl rfl rfl rfl rfl rfl rfl rfl rfl rfl rfl rfl rfl (by omega) (by omega) rfl rfl rfl ?_) | refine x_autow tok rfl rfl rfl rfl ?_ | (refine is_sto ?_; first | refine x_autos tok rfl rfl rfl ?_ | refine x_stoa tok rfl rfl rfl (by first | rfl | assumption) rfl rfl rfl rfl rfl rfl ?_ | refine x_sto1 tok rfl rfl rfl (by first | rfl | assumption) rfl rfl rfl rfl rfl rfl rfl rfl ?_) | refine x_nil ?_ | refine x_nilD (by kernel_rfl) ?_) | (first | refine sim_seq ?_ | refine x_region ?_ | refine x_draw rfl ?_ | refine sim_cond_true rfl ?_ | refine sim_cond_false rfl ?_ | (refine sim_cond rfl (fun hc => ?_) (fun hc => ?_) <;> (try simp only [cmpB, decide_eq_true_eq, decide_eq_false_iff_not, beq_iff_eq, bne_iff_ne, ne_eq, Bool.not_eq_true, beq_eq_false_iff_ne, bne_eq_false_iff_eq, Int.not_lt, Int.not_le, Decidable.not_not] at hc)) | refine sim_skip ?_ | refine sim_ret ?_ | refine sim_exit ?_ | refine sim_block ?_)))
  all_goals (try (exfalso; first | (simp [eqY_refl] at hc; done) | (revert hc; simp [eqY_refl]; done)))
  (refine sim_rng (m.args) [3] [3] [3, 40, 41] [42, 3, 40, 41] rfl (fun i pre T U => ⟨(42, iA i) :: T, U⟩) ?_; (conv => whnf); refine ⟨by rfl, ?_, ?_⟩)
  · intro i pre x post hx hi
    have hy := rng_at iA hx hi
    have hlt := rng_lt hx hi
    clear hx
    (refine WW ?_)
    all_goals (first | rfl | (exfalso; first | (simp [eqY_refl] at hc; done) | (revert hc; simp [eqY_refl]; done)))
  · (refine WW ?_)
    exact fin_ret [] rfl rfl rfl rfl
end Av
end Go.Proofs.YtjbldhhgooihfaaGreat
