
/- law17: copies. -/
import Derived.Test.YtjbldhhgooihfaaGreatRgA
namespace Go.Proofs.YtjbldhhgooihfaaGreat
namespace Av
set_option linter.unusedSimpArgs false
set_option linter.unusedVariables false
set_option maxRecDepth 4000
set_option maxHeartbeats 1000000
theorem wk_take {α : Type} (f : α → AV) (l : List α) : AV.sl false ((l.map f).take (l.map f).length) = slA f l := by rw [List.take_length]; rfl
/-- The list, at a round. -/
def kpL {α : Type} (_ : Nat) (l : List α) : List α := l
theorem cloneI_c (l : List Int) (hl : l.length ≤ 1073741824) : CallSim Tryz.prog 83 [slA iA l] [] (slA iA l) [] := by
  have hll := map_len iA l
  (refine callSim_of tok Tryz.func83 rfl (fun args w => Tryz.call83 args w) rfl rfl rfl (fun F hF => ?_))
  refine sim_nsplit 0 rfl (fun cap hx => ?_) ?_
  · have : l = [] := by simpa using hx
    subst this
    (refine WW ?_)
    exact fin_ret [] rfl rfl rfl rfl
  · (refine WW ?_)
    refine fin_ret [] rfl rfl (wk_take _ _) rfl
theorem cloneY_c (l : List Int) (hl : l.length ≤ 1073741824) : CallSim Tryz.prog 59 [slA yA l] [] (slA yA l) [] := by
  have hll := map_len yA l
  (refine callSim_of tok Tryz.func59 rfl (fun args w => Tryz.call59 args w) rfl rfl rfl (fun F hF => ?_))
  refine sim_nsplit 0 rfl (fun cap hx => ?_) ?_
  · have : l = [] := by simpa using hx
    subst this
    (refine WW ?_)
    exact fin_ret [] rfl rfl rfl rfl
  · (refine WW ?_)
    refine fin_ret [] rfl rfl (wk_take _ _) rfl
theorem cloneV_c (l : List Vh) (hl : l.length ≤ 1073741824) : CallSim Tryz.prog 60 [slA vhA l] [] (slA vhA l) [] := by
  have hll := map_len vhA l
  (refine callSim_of tok Tryz.func60 rfl (fun args w => Tryz.call60 args w) rfl rfl rfl (fun F hF => ?_))
  refine sim_nsplit 0 rfl (fun cap hx => ?_) ?_
  · have : l = [] := by simpa using hx
    subst this
    (refine WW ?_)
    exact fin_ret [] rfl rfl rfl rfl
  · (refine WW ?_)
    refine fin_ret [] rfl rfl (wk_take _ _) rfl
theorem cloneT_own (l : List Tk) (hl : l.length ≤ 1073741824) : CallSim Tryz.prog 58 [slA tkA l] [] (.ref 1001 0 (l.map tkA).length) [(1001, .arr 6 (l.map tkA) false)] := by
  have hll := map_len tkA l
  (refine callSim_of tok Tryz.func58 rfl (fun args w => Tryz.call58 args w) rfl rfl rfl (fun F hF => ?_))
  refine sim_nsplit 0 rfl (fun cap hx => ?_) ?_
  · have : l = [] := by simpa using hx
    subst this
    (repeat' (first | (refine is_ops ?_; first | refine x_auto tok rfl rfl ?_ | (refine is_call ?_; fail) | (refine is_grd ?_; first | refine x_on rfl rfl ?_ | refine x_off rfl rfl rfl rfl ?_ | (refine x_gsplit rfl rfl (fun hc => ?_) (fun hc => ?_) <;> (try simp only [cmpB, decide_eq_true_eq, decide_eq_false_iff_not, beq_iff_eq, bne_iff_ne, ne_eq, Bool.not_eq_true, beq_eq_false_iff_ne, bne_eq_false_iff_eq, Int.not_lt, Int.not_le, Decidable.not_not] at hc))) | (refine is_bin ?_; first | refine x_q (stp_cmp_t rfl rfl rfl (by unfold cmpP; omega)) rfl ?_ | refine x_q (stp_cmp_f rfl rfl rfl (by unfold cmpP; omega)) rfl ?_ | refine x_q (stp_cmp rfl rfl rfl) rfl ?_ | refine x_q (stp_add rfl rfl ⟨by omega, by omega⟩) rfl ?_ | refine x_q (stp_sub rfl rfl ⟨by omega, by omega⟩) rfl ?_ | refine x_q (stp_mul rfl rfl ⟨by omega, by omega⟩) rfl ?_ | refine x_q (stp_quo rfl rfl (by assumption) (by omega)) rfl ?_ | refine x_q (stp_rem rfl rfl (by omega)) rfl ?_ | refine x_q (stp_xor rfl rfl) rfl ?_ | refine x_q (stp_shlI rfl rfl (by omega)) rfl ?_ | refine x_q (stp_shrI rfl rfl (by omega)) rfl ?_ | refine x_q (stp_shift (.inl ⟨rfl, rfl⟩) rfl rfl (by omega)) rfl ?_ | refine x_q (stp_shift (.inr ⟨rfl, rfl⟩) rfl rfl (by omega)) rfl ?_ | refine x_q (stp_bool2 tok rfl rfl rfl rfl (.inl ⟨rfl, rfl⟩)) rfl ?_ | refine x_q (stp_bool2 tok rfl rfl rfl rfl (.inr ⟨rfl, rfl⟩)) rfl ?_ | refine x_q (stp_eqlNil tok (.inl ⟨rfl, rfl⟩) rfl rfl rfl) rfl ?_ | refine x_q (stp_eqlNil_not tok (.inl ⟨rfl, rfl⟩) rfl rfl rfl rfl) rfl ?_ | refine x_q (stp_andI rfl rfl) rfl ?_ | refine x_q (stp_orI rfl rfl) rfl ?_ | refine x_q (stp_bicI rfl rfl) rfl ?_ | refine x_q (stp_strEqV rfl rfl (by assumption)) rfl ?_ | refine x_q (stp_strEq rfl rfl) rfl ?_ | refine x_q (stp_strNeV rfl rfl (by assumption)) rfl ?_ | refine x_q (stp_strNe rfl rfl) rfl ?_) | (refine is_idx ?_; first | refine x_q (stp_indexAddr_sl tok rfl rfl rfl rfl rfl (by omega) (by first | rfl | assumption) rfl rfl) rfl ?_ | refine x_q (stp_indexAddr_r0 tok rfl rfl rfl rfl rfl rfl (by omega) (by omega) rfl) rfl ?_ | refine x_q (stp_indexAddr_box tok rfl rfl rfl rfl rfl rfl (by omega) (by omega)) rfl ?_) | (refine is_load ?_; first | refine x_q (stp_load_fp1 tok rfl rfl rfl (by first | rfl | assumption) rfl) rfl ?_ | refine x_q (stp_load_fpa tok rfl rfl rfl (by first | rfl | assumption) rfl) rfl ?_ | refine x_q (stp_load_arr1 tok rfl rfl rfl rfl (by first | rfl | assumption) rfl) rfl ?_ | refine x_q (stp_load_arra tok rfl rfl rfl rfl (by first | rfl | assumption) rfl) rfl ?_) | (refine is_fad ?_; first | refine x_q (stp_fieldAddr_arr tok rfl rfl rfl rfl rfl rfl rfl rfl) rfl ?_ | refine x_q (stp_fieldAddr_fp tok rfl (by first | rfl | assumption) rfl rfl rfl rfl rfl rfl) rfl ?_) | (refine is_app ?_; first | refine x_appref0 tok rfl rfl rfl rfl rfl rfl rfl (by first | (intro y hy; cases hy; rfl) | exact map_hd _ _ (fun _ => rfl)) rfl rfl rfl (by first | omega | (simp; done) | (simp; omega)) rfl ?_ | refine x_appref tok rfl rfl rfl rfl rfl rfl rfl rfl rfl rfl rfl (by first | (intro y hy; cases hy; rfl) | exact map_hd _ _ (fun _ => rfl)) (by first | omega | (simp; done) | (simp; omega)) rfl ?_) | (refine is_un ?_; first | refine x_q (stp_neg rfl ⟨by omega, by omega⟩) rfl ?_) | (refine is_conv ?_; first | refine x_q (stp_conv_in tok rfl rfl rfl rfl ⟨by omega, by omega⟩) rfl ?_ | refine x_q (stp_conv tok rfl rfl rfl rfl) rfl ?_ | refine x_q (stp_convStr tok rfl rfl rfl rfl rfl rfl rfl (by first | rfl | assumption)) rfl ?_) | (refine is_slc ?_; first | refine x_slcL tok rfl rfl rfl rfl rfl (by first | (intro y hy; cases hy; rfl) | exact map_hd _ _ (fun _ => rfl) | (simp; done)) (by omega) (by simp; omega) (by first | exact List.map_drop.symm | rfl) rfl ?_ | refine x_slcH tok rfl rfl rfl rfl rfl (by first | (intro y hy; cases hy; rfl) | exact map_hd _ _ (fun _ => rfl) | (simp; done)) (by omega) (by simp; omega) (by first | exact List.map_take.symm | rfl) rfl ?_) | fail | refine x_autow tok rfl rfl rfl rfl ?_ | (refine is_sto ?_; first | refine x_autos tok rfl rfl rfl ?_ | refine x_stoa tok rfl rfl rfl (by first | rfl | assumption) rfl rfl rfl rfl rfl rfl ?_ | refine x_sto1 tok rfl rfl rfl (by first | rfl | assumption) rfl rfl rfl rfl rfl rfl rfl rfl ?_) | refine x_nil ?_ | refine x_nilD (by kernel_rfl) ?_) | (first | refine sim_seq ?_ | refine x_region ?_ | refine x_draw rfl ?_ | refine sim_cond_true rfl ?_ | refine sim_cond_false rfl ?_ | (refine sim_cond rfl (fun hc => ?_) (fun hc => ?_) <;> (try simp only [cmpB, decide_eq_true_eq, decide_eq_false_iff_not, beq_iff_eq, bne_iff_ne, ne_eq, Bool.not_eq_true, beq_eq_false_iff_ne, bne_eq_false_iff_eq, Int.not_lt, Int.not_le, Decidable.not_not] at hc)) | refine sim_skip ?_ | refine sim_exit ?_ | refine sim_block ?_)))
    refine sim_virtF 2 1001 6 rfl rfl rfl (sim_ret ?_)
    exact fin_own [1001] rfl rfl rfl rfl
  · repeat' (first | (refine is_ops ?_; first | refine x_auto tok rfl rfl ?_ | (refine is_bin ?_; refine x_q (stp_eqlNil_not tok (.inl ⟨rfl, rfl⟩) rfl rfl rfl rfl) rfl ?_) | (refine is_bsl ?_; refine x_w (nw := [1001]) (stp_buildSlice tok 1001 (xs := []) rfl rfl rfl rfl rfl rfl rfl rfl rfl) rfl rfl rfl ?_) | (refine is_app ?_; refine x_appref0 tok rfl rfl rfl rfl rfl rfl rfl (map_hd _ _ (fun _ => rfl)) rfl rfl rfl (by omega) rfl ?_) | refine x_nil ?_) | (first | refine sim_seq ?_ | refine x_region ?_ | refine x_draw rfl ?_ | refine sim_cond_true rfl ?_ | refine sim_cond_false rfl ?_ | refine sim_cond rfl (fun hc => ?_) (fun hc => ?_) | refine sim_skip ?_ | refine sim_ret ?_ | refine sim_exit ?_ | refine sim_block ?_))
    exact fin_own [1001] rfl rfl rfl rfl
/-- The secrets of tokens are short, and there are few. -/
structure TkB (l : List Tk) : Prop where
  n : l.length ≤ 1000000
  s : ∀ t ∈ l, t.sec.length ≤ 1000000

theorem set_at {α : Type} [Inhabited α] (f : α → AV) (l : List α) (i : Nat) (hi : i < l.length) : (kpL i (l.map f)).set i (f (l.getD i default)) = kpL (i + 1) (l.map f) := by
  unfold kpL
  have := map_at f l i hi
  rw [List.getElem?_eq_some_iff] at this
  obtain ⟨h, e⟩ := this
  rw [← e, List.set_getElem_self]
theorem tclone_own (l : List Tk) (hb : TkB l) : CallSim Tryz.prog 63 [slA tkA l] [] (.ref 1001 0 (l.map tkA).length) [(1001, .arr 6 (l.map tkA) false)] := by
  have c := cloneT_own l (by have := hb.n; omega)
  have hn := hb.n
  have hll := map_len tkA l
  (refine callSim_of tok Tryz.func63 rfl (fun args w => Tryz.call63 args w) rfl rfl rfl (fun F hF => ?_))
  (have zc1 := c; refine WW ?_; clear zc1)
  (refine sim_cnt ((l.map tkA).length) [1001] [] [3, 8] [9, 3, 8] rfl (fun i T U => ⟨(9, iA i) :: T, (1001, .arr 6 (kpL i (l.map tkA)) false) :: U⟩) ?_; (conv => whnf); refine ⟨by rfl, ?_, ?_⟩)
  · intro i hi
    have hi' : i < l.length := by omega
    have hy : (kpL i (l.map tkA))[i]? = some (tkA (l.getD i default)) := map_at tkA l i hi'
    have e := set_at tkA l i hi'
    have c2 := cloneY_c (l.getD i default).sec (by have := hb.s (l.getD i default) (by simp [List.getD, hi']); omega)
    generalize (l.getD i default) = t at *
    generalize kpL i (l.map tkA) = xs at *
    generalize kpL (i + 1) (l.map tkA) = ys at *
    subst e
    (have zc1 := c2; refine WW ?_; clear zc1)
    rfl
  · (refine WW ?_)
    exact fin_own [1001] rfl rfl rfl rfl
theorem cloneA_c (a : Ag) (h1 : a.sec.length ≤ 1000000) (h2 : a.lim.length ≤ 1000000) : CallSim Tryz.prog 44 [agA a] [] (agA a) [] := by
  have c1 := cloneY_c a.sec (by omega)
  have c2 := cloneI_c a.lim (by omega)
  (refine callSim_of tok Tryz.func44 rfl (fun args w => Tryz.call44 args w) rfl rfl rfl (fun F hF => ?_))
  (have zc1 := c1; have zc2 := c2; refine WW ?_; clear zc1 zc2)
  exact fin_ret [] rfl rfl rfl rfl
/-- The lists of a registry are short. -/
structure RgB (r : Rg) : Prop where
  tk : TkB r.tk
  s : r.ag.sec.length ≤ 1000000
  l : r.ag.lim.length ≤ 1000000
  v : r.vh.length ≤ 1000000
def rgX (r : Rg) (xs : List AV) : AV := .agg [iA r.num, slA yA r.ag.sec, iA r.ag.rights, iA r.ag.cls, slA iA r.ag.lim, iA r.ag.req, iA r.ag.ses, iA r.ag.rate, iA r.ag.burst, .sl false xs, slA vhA r.vh, iA r.bk.level, iA r.bk.rate, iA r.bk.burst]
theorem rclone_c (r : Rg) (hb : RgB r) : CallSim Tryz.prog 27 [rgA r] [] (rgA r) [] := by
  have c1 := cloneA_c r.ag hb.s hb.l
  have hn := hb.tk.n
  have hv := hb.v
  have c2 := cloneT_own r.tk (by omega)
  have c3 := cloneV_c r.vh (by omega)
  have hll := map_len tkA r.tk
  (refine callSim_of tok Tryz.func27 rfl (fun args w => Tryz.call27 args w) rfl rfl rfl (fun F hF => ?_))
  (have zc1 := c1; have zc2 := c2; refine WW ?_; clear zc1 zc2)
  (refine sim_cnt ((r.tk.map tkA).length) [1001, 1, 2] [1, 2] [1, 2, 14] [15, 1, 2, 14] rfl (fun i T U => ⟨(15, iA i) :: T, (1001, .arr 6 (kpL i (r.tk.map tkA)) false) :: U⟩) ?_; (conv => whnf); refine ⟨by rfl, ?_, ?_⟩)
  · intro i hi
    have hi' : i < r.tk.length := by omega
    have hy : (kpL i (r.tk.map tkA))[i]? = some (tkA (r.tk.getD i default)) := map_at tkA r.tk i hi'
    have e := set_at tkA r.tk i hi'
    have c2 := cloneY_c (r.tk.getD i default).sec (by have := hb.tk.s (r.tk.getD i default) (by simp [List.getD, hi']); omega)
    generalize (r.tk.getD i default) = t at *
    generalize kpL i (r.tk.map tkA) = xs at *
    generalize kpL (i + 1) (r.tk.map tkA) = ys at *
    subst e
    (have zc1 := c2; refine WW ?_; clear zc1)
    rfl
  · (have zc1 := c3; refine WW ?_; clear zc1)
    exact fin_ret [] rfl rfl (congrArg (rgX r) List.take_length) rfl
end Av
end Go.Proofs.YtjbldhhgooihfaaGreat
