/- Rings: the sanity check; one group. -/
import Derived.Test.YthmnhefaeknppaaRiK
namespace Go.Proofs.Ythmnhefaeknppaa
namespace Av
set_option linter.unusedSimpArgs false
set_option linter.unusedVariables false
set_option maxRecDepth 4000
set_option maxHeartbeats 1000000
def ph0 : Ph := ⟨0, 0, 2, 3, 1, 1, 0, 0⟩
def j0 : Jn := ⟨[ph0, ph0], [2, 1], 0⟩
def cN0 : Nat → Ct
  | 0 => inF j0
  | i + 1 => stF j0 (cN0 i) (-1)
theorem two {p : Nat} (h : p < j0.ph.length) : p = 0 ∨ p = 1 := by
  have : j0.ph.length = 2 := rfl
  omega
theorem jv0 : JV j0 := by
  refine ⟨by decide, rfl, fun i hi => ?_, fun p hp => ?_, fun p q hp hq => ?_, fun p q hp hq hpq _ => ?_, fun p hp => ?_, fun p hp => ?_, fun p hp => ?_, fun p hp g hg0 hg => ?_, by decide⟩
  · rcases two hi with rfl | rfl <;> decide
  · rcases two hp with rfl | rfl <;> decide
  · rcases two hp with rfl | rfl <;> rcases two hq with rfl | rfl <;> decide
  · rcases two hp with rfl | rfl <;> rcases two hq with rfl | rfl
    · exact absurd rfl hpq
    · decide
    · decide
    · exact absurd rfl hpq
  · rcases two hp with rfl | rfl <;> decide
  · rcases two hp with rfl | rfl <;> decide
  · rcases two hp with rfl | rfl <;> decide
  · exfalso
    have : (phO j0 p).group = 0 := by rcases two hp with rfl | rfl <;> rfl
    omega
theorem cv0 : ∀ i, CV j0 (cN0 i)
  | 0 => cv_in jv0
  | i + 1 => cv_st jv0 (cv0 i) (-1)
theorem c6 : (cN0 6).li.map (fun l => (l.lamp, l.tk)) = [(0, 0), (1, 0)] := by decide +kernel
theorem awake09_c : CallSim Try.prog 12 [] [] (bA true) [] := by
  have ci := init_c j0 (by decide)
  have e6 : (cN0 6).li = [⟨0, 0⟩, ⟨1, 0⟩] := by
    have h := c6
    match hl : (cN0 6).li, h with
    | [⟨a, b⟩, ⟨c, d⟩], h =>
      simp only [List.map_cons, List.map_nil, List.cons.injEq, Prod.mk.injEq, and_true] at h
      obtain ⟨⟨rfl, rfl⟩, rfl, rfl⟩ := h
      rfl
    | [], h => simp at h
    | [_], h => simp at h
    | _ :: _ :: _ :: _, h => simp at h
  rw [show inF j0 = cN0 0 from rfl] at ci
  obtain ⟨N6, hN6⟩ : ∃ n : Nat, n = 6 := ⟨6, rfl⟩
  rw [show jnA j0 = .agg [.sl false [.agg [iA 0, iA 0, iA 2, iA 3, iA 1, iA 1, iA 0, iA 0], .agg [iA 0, iA 0, iA 2, iA 3, iA 1, iA 1, iA 0, iA 0]], .sl false [iA 2, iA 1], iA 0] from rfl] at ci
  (refine callSim_of tok Try.func12 rfl (fun args w => Try.call12 args w) rfl rfl rfl (fun F hF => ?_))
  (have zc1 := ci; refine WL ?_; clear zc1)
  (refine sim_cnt (N6) [3, 2] [2] [2, 3] [12, 2, 3] rfl (fun i T U => ⟨(12, iA i) :: T, (3, .box [slA liA (cN0 i).li, iA (cN0 i).gr, slA iA (cN0 i).nx, iA (cN0 i).wt]) :: U⟩) ?_; (conv => whnf); refine ⟨by rfl, ?_, ?_⟩)
  · intro i hi
    have cs := step_c j0 jv0 (cN0 i) (cv0 i) (-1)
    rw [show jnA j0 = .agg [.sl false [.agg [iA 0, iA 0, iA 2, iA 3, iA 1, iA 1, iA 0, iA 0], .agg [iA 0, iA 0, iA 2, iA 3, iA 1, iA 1, iA 0, iA 0]], .sl false [iA 2, iA 1], iA 0] from rfl] at cs
    rw [show stF j0 (cN0 i) (-1) = cN0 (i + 1) from rfl] at cs
    generalize cN0 (i + 1) = c2 at *
    generalize cN0 i = c1 at *
    (have zc1 := cs; refine WL ?_; clear zc1)
    rfl
  · rw [hN6, e6]
    generalize cN0 6 = c at *
    have hl2 : (([⟨0, 0⟩, ⟨1, 0⟩] : List Li).map liA).length = 2 := rfl
    have hy0 : (([⟨0, 0⟩, ⟨1, 0⟩] : List Li).map liA)[0]? = some (.agg [iA 0, iA 0]) := rfl
    have hy1 : (([⟨0, 0⟩, ⟨1, 0⟩] : List Li).map liA)[1]? = some (.agg [iA 1, iA 0]) := rfl
    generalize (([⟨0, 0⟩, ⟨1, 0⟩] : List Li).map liA) = xs at *
    (repeat' (first | (refine is_ops ?_; first | refine x_auto tok rfl rfl ?_ | (refine is_call ?_; fail) | (refine is_grd ?_; first | refine x_on rfl rfl ?_ | refine x_off rfl rfl rfl rfl ?_ | (refine x_gsplit rfl rfl (fun hc => ?_) (fun hc => ?_) <;> (try simp only [cmpB, decide_eq_true_eq, decide_eq_false_iff_not, beq_iff_eq, bne_iff_ne, ne_eq, Bool.not_eq_true, beq_eq_false_iff_ne, bne_eq_false_iff_eq, Int.not_lt, Int.not_le, Decidable.not_not] at hc))) | (refine is_bin ?_; first | refine x_q (stp_cmp_t rfl rfl rfl (by unfold cmpP; omega)) rfl ?_ | refine x_q (stp_cmp_f rfl rfl rfl (by unfold cmpP; omega)) rfl ?_ | refine x_q (stp_cmp rfl rfl rfl) rfl ?_ | refine x_q (stp_add rfl rfl ⟨by omega, by omega⟩) rfl ?_ | refine x_q (stp_sub rfl rfl ⟨by omega, by omega⟩) rfl ?_ | refine x_q (stp_mul rfl rfl ⟨by omega, by omega⟩) rfl ?_ | refine x_q (stp_quo rfl rfl (by assumption) (by omega)) rfl ?_ | refine x_q (stp_rem rfl rfl (by omega)) rfl ?_ | refine x_q (stp_xor rfl rfl) rfl ?_ | refine x_q (stp_shlI rfl rfl (by omega)) rfl ?_ | refine x_q (stp_shrI rfl rfl (by omega)) rfl ?_ | refine x_q (stp_shift (.inl ⟨rfl, rfl⟩) rfl rfl (by omega)) rfl ?_ | refine x_q (stp_shift (.inr ⟨rfl, rfl⟩) rfl rfl (by omega)) rfl ?_ | refine x_q (stp_bool2 tok rfl rfl rfl rfl (.inl ⟨rfl, rfl⟩)) rfl ?_ | refine x_q (stp_bool2 tok rfl rfl rfl rfl (.inr ⟨rfl, rfl⟩)) rfl ?_ | refine x_q (stp_eqlNil tok (.inl ⟨rfl, rfl⟩) rfl rfl rfl) rfl ?_ | refine x_q (stp_eqlNil_not tok (.inl ⟨rfl, rfl⟩) rfl rfl rfl rfl) rfl ?_ | refine x_q (stp_andI rfl rfl) rfl ?_ | refine x_q (stp_orI rfl rfl) rfl ?_ | refine x_q (stp_bicI rfl rfl) rfl ?_ | refine x_q (stp_strEqV rfl rfl (by assumption)) rfl ?_ | refine x_q (stp_strEq rfl rfl) rfl ?_ | refine x_q (stp_strNeV rfl rfl (by assumption)) rfl ?_ | refine x_q (stp_strNe rfl rfl) rfl ?_) | (refine is_idx ?_; first | refine x_q (stp_indexAddr_sl tok rfl rfl rfl rfl rfl (by omega) (by first | rfl | assumption) rfl rfl) rfl ?_ | refine x_q (stp_indexAddr_r0 tok rfl rfl rfl rfl rfl rfl (by omega) (by omega) rfl) rfl ?_ | refine x_q (stp_indexAddr_box tok rfl rfl rfl rfl rfl rfl (by omega) (by omega)) rfl ?_) | (refine is_load ?_; first | refine x_q (stp_load_fp1 tok rfl rfl rfl (by first | rfl | assumption) rfl) rfl ?_ | refine x_q (stp_load_fpa tok rfl rfl rfl (by first | rfl | assumption) rfl) rfl ?_ | refine x_q (stp_load_arr1 tok rfl rfl rfl rfl (by first | rfl | assumption) rfl) rfl ?_ | refine x_q (stp_load_arra tok rfl rfl rfl rfl (by first | rfl | assumption) rfl) rfl ?_) | (refine is_fad ?_; first | refine x_q (stp_fieldAddr_arr tok rfl rfl rfl rfl rfl rfl rfl rfl) rfl ?_ | refine x_q (stp_fieldAddr_fp tok rfl (by first | rfl | assumption) rfl rfl rfl rfl rfl rfl) rfl ?_) | (refine is_app ?_; first | refine x_appref0 tok rfl rfl rfl rfl rfl rfl rfl (by first | (intro y hy; cases hy; rfl) | exact map_hd _ _ (fun _ => rfl)) rfl rfl rfl (by first | omega | (simp; done) | (simp; omega)) rfl ?_ | refine x_appref tok rfl rfl rfl rfl rfl rfl rfl rfl rfl rfl rfl (by first | (intro y hy; cases hy; rfl) | exact map_hd _ _ (fun _ => rfl)) (by first | omega | (simp; done) | (simp; omega)) rfl ?_) | (refine is_un ?_; first | refine x_q (stp_neg rfl ⟨by omega, by omega⟩) rfl ?_) | (refine is_conv ?_; first | refine x_q (stp_conv_in tok rfl rfl rfl rfl ⟨by omega, by omega⟩) rfl ?_ | refine x_q (stp_conv tok rfl rfl rfl rfl) rfl ?_ | refine x_q (stp_convStr tok rfl rfl rfl rfl rfl rfl rfl (by first | rfl | assumption)) rfl ?_) | (refine is_slc ?_; first | refine x_slcL tok rfl rfl rfl rfl rfl (by first | (intro y hy; cases hy; rfl) | exact map_hd _ _ (fun _ => rfl) | (simp; done)) (by omega) (by simp; omega) (by first | exact List.map_drop.symm | rfl) rfl ?_ | refine x_slcH tok rfl rfl rfl rfl rfl (by first | (intro y hy; cases hy; rfl) | exact map_hd _ _ (fun _ => rfl) | (simp; done)) (by omega) (by simp; omega) (by first | exact List.map_take.symm | rfl) rfl ?_) | (refine is_bin ?_; first | refine x_q (stp_eqS (ms := [_, _]) (ns := [_, _]) tok rfl rfl rfl rfl rfl rfl rfl (by kernel_rfl) (by kernel_rfl) (by kernel_rfl) (.inl ⟨rfl, rfl⟩)) rfl ?_ | refine x_q (stp_eqS (ms := [_, _]) (ns := [_, _]) tok rfl rfl rfl rfl rfl rfl rfl (by kernel_rfl) (by kernel_rfl) (by kernel_rfl) (.inr ⟨rfl, rfl⟩)) rfl ?_ | refine x_q (stp_eqS (ms := [_, _, _]) (ns := [_, _, _]) tok rfl rfl rfl rfl rfl rfl rfl (by kernel_rfl) (by kernel_rfl) (by kernel_rfl) (.inl ⟨rfl, rfl⟩)) rfl ?_ | refine x_q (stp_eqS (ms := [_, _, _]) (ns := [_, _, _]) tok rfl rfl rfl rfl rfl rfl rfl (by kernel_rfl) (by kernel_rfl) (by kernel_rfl) (.inr ⟨rfl, rfl⟩)) rfl ?_) | refine x_autow tok rfl rfl rfl rfl ?_ | (refine is_sto ?_; first | refine x_autos tok rfl rfl rfl ?_ | refine x_stoa tok rfl rfl rfl (by first | rfl | assumption) rfl rfl rfl rfl rfl rfl ?_ | refine x_sto1 tok rfl rfl rfl (by first | rfl | assumption) rfl rfl rfl rfl rfl rfl rfl rfl ?_) | refine x_nil ?_ | refine x_nilD (by kernel_rfl) ?_) | (first | refine sim_seq ?_ | refine x_region ?_ | refine x_draw rfl ?_ | refine sim_cond_true rfl ?_ | refine sim_cond_false rfl ?_ | (refine sim_cond rfl (fun hc => ?_) (fun hc => ?_) <;> (try simp only [cmpB, decide_eq_true_eq, decide_eq_false_iff_not, beq_iff_eq, bne_iff_ne, ne_eq, Bool.not_eq_true, beq_eq_false_iff_ne, bne_eq_false_iff_eq, Int.not_lt, Int.not_le, Decidable.not_not] at hc)) | refine sim_skip ?_ | refine sim_ret ?_ | refine sim_exit ?_ | refine sim_block ?_)))
    exact fin_ret [] rfl rfl rfl rfl
/-- All that is not red is of the group. -/
def GV (j : Jn) (c : Ct) : Prop := ∀ p : Nat, p < j.ph.length → (liO c p).lamp ≠ 0 → (phO j p).group = c.gr
theorem gv_in (j : Jn) : GV j (inF j) := fun p hp h => by rw [inF_li] at h; exact absurd rfl h
theorem gv_bg {j : Jn} (J : JV j) {c : Ct} (C : CV j c) (G : GV j c) {p : Nat} (hp : p < j.ph.length) : GV j (bgF j c p) := by
  rcases bgF_gr j c p with h | ⟨hk, hg⟩
  · rw [h.2]; exact G
  · intro q hq hn
    rw [hg]
    have hli : liO (bgF j c p) q = if q = p then ⟨1, 0⟩ else liO c q := by
      unfold bgF
      rw [if_neg (by rw [hk]; decide)]
      have : (b2F j c p).li = c.li.set p ⟨1, 0⟩ := by unfold b2F; split <;> rfl
      unfold liO
      dsimp only
      rw [this]
      exact liO_set c p q _ 0 [] 0 (by have := C.n; omega)
    rw [hli] at hn
    by_cases e : q = p
    · rw [e]
    · rw [if_neg e] at hn
      unfold kpF at hk
      rw [List.any_eq_false] at hk
      have h1 := hk q (List.mem_range.2 (by have := C.n; omega))
      simp only [Bool.and_eq_true, not_and, Bool.not_eq_true] at h1
      have h2 := h1 (by simpa using hn)
      exact Classical.byContradiction fun h3 => by
        have := J.ap p q hp hq (fun h => e h.symm) (.inr fun h => h3 h.symm)
        rw [h2] at this
        cases this
theorem gv_sv {j : Jn} (J : JV j) {c : Ct} (C : CV j c) (G : GV j c) {t : Nat} (ht : t < j.ph.length) (r : Int) : GV j (svS j t c r) := by
  unfold svS
  split
  · split
    · exact G
    · rename_i h
      rcases svP_spec (j := j) (c := c) (r := r) ht with h1 | ⟨p, h1, h2, _⟩
      · exact absurd h1 h
      · rw [h1, Int.toNat_natCast]
        exact gv_bg J C G h2
  · exact G
theorem gv_cy1 {j : Jn} (J : JV j) {c : Ct} (C : CV j c) (G : GV j c) {r : Nat} (hr : r < 2) : GV j (cyS j c r) := by
  unfold cyS
  split
  · rename_i h
    rw [Int.toNat_natCast] at h ⊢
    rcases C.v r hr with h1 | h1
    · exact absurd h1 h.2
    · exact gv_bg J C G (by have := h1.2.1; have := h1.1; omega)
  · exact G
theorem gv_st {j : Jn} (J : JV j) {c : Ct} (C : CV j c) (G : GV j c) (t : Int) : GV j (stF j c t) := by
  unfold stF
  split
  · exact G
  · have h0 : c.wt = 0 := by have := C.w; omega
    have L := cv_ls J C h0 t
    have GL : GV j ⟨lsF j c t, c.gr, c.nx, c.wt⟩ := fun p hp hn => by
      rw [ls_at _ _ _ _ _ hp] at hn
      exact G p hp ((lp_v (by have := J.ti p hp; omega) (by have := J.ti p hp; omega) (C.k p hp)).2 hn)
    split
    · rename_i h
      unfold aimF at h
      rw [decide_eq_true_eq] at h
      have h1 := cv_sv J L h0 (t := t.toNat) (by omega) 0
      exact gv_sv J h1.1 (gv_sv J L GL (by omega) 0) (by omega) 1
    · unfold cyF
      have h1 : CV j (if cyO ⟨lsF j c t, c.gr, c.nx, c.wt⟩ = true then etF j ⟨lsF j c t, c.gr, c.nx, c.wt⟩ ((c.gr + 1) % grF j) else ⟨lsF j c t, c.gr, c.nx, c.wt⟩) ∧ (if cyO ⟨lsF j c t, c.gr, c.nx, c.wt⟩ = true then etF j ⟨lsF j c t, c.gr, c.nx, c.wt⟩ ((c.gr + 1) % grF j) else ⟨lsF j c t, c.gr, c.nx, c.wt⟩).wt = 0 ∧ GV j (if cyO ⟨lsF j c t, c.gr, c.nx, c.wt⟩ = true then etF j ⟨lsF j c t, c.gr, c.nx, c.wt⟩ ((c.gr + 1) % grF j) else ⟨lsF j c t, c.gr, c.nx, c.wt⟩) := by
        split
        · rename_i ho
          have hp := grF_pos J
          refine ⟨cv_et L ⟨Int.emod_nonneg _ (by omega), Int.emod_lt_of_pos _ (by omega)⟩, h0, fun p hp hn => ?_⟩
          unfold cyO arF at ho
          rw [Bool.and_eq_true, List.all_eq_true] at ho
          have h5 := ho.1 (liO ⟨lsF j c t, c.gr, c.nx, c.wt⟩ p) (by
            have hl := L.n
            dsimp only at hl
            unfold liO
            simp [List.getD, hl, hp])
          exact absurd (beq_iff_eq.1 h5) hn
        · exact ⟨L, h0, GL⟩
      have h2 := cv_cy1 J h1.1 h1.2.1 (r := 0) (by omega)
      exact gv_cy1 J h2.1 (gv_cy1 J h1.1 h1.2.2 (r := 0) (by omega)) (r := 1) (by omega)
end Av
end Go.Proofs.Ythmnhefaeknppaa
