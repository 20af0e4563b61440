/- The law RingSteps. -/
import Derived.Test.YthmnhefaeknppaaRjE
namespace Go.Proofs.Ythmnhefaeknppaa
namespace Av
set_option linter.unusedSimpArgs false
set_option linter.unusedVariables false
set_option maxRecDepth 4000
set_option maxHeartbeats 1000000
def inC (j : Jn) (c : Ct) (t q : Int) : Nat → Ct
  | 0 => c
  | 1 => stF j c t
  | _ + 2 => stF j (stF j c t) q
theorem inC_v {j : Jn} (J : JV j) {c : Ct} (C : CV j c) (t q : Int) : ∀ i, CV j (inC j c t q i)
  | 0 => C
  | 1 => cv_st J C t
  | _ + 2 => cv_st J (cv_st J C t) q
def rsT (n : Int) (ts : List Int) : List Int := -1 :: n :: ts
def rsC (j : Jn) (c : Ct) (n : Int) (ts : List Int) : Nat → Ct
  | 0 => c
  | i + 1 => inC j (rsC j c n ts i) ((rsT n ts).getD i default) ((rsT n ts).getD i default % (n + 1) - 1) 2
theorem rsC_v {j : Jn} (J : JV j) {c : Ct} (C : CV j c) (n : Int) (ts : List Int) : ∀ i, CV j (rsC j c n ts i)
  | 0 => C
  | i + 1 => inC_v J (rsC_v J C n ts i) _ _ _
theorem steps_c (l : List Int) (hl : l.length ≤ 9223372036854775807) (m : List Int) (hm : m.length ≤ 9223372036854775807) (ts : List Int) (hts : ts.length ≤ 9223372036854775807) : CallSim Try.prog 4 [slA iA l, slA iA m, slA iA ts] [] (bA true) [] := by
  have aw := awake09_c
  have hlt := map_len iA ts
  by_cases h150 : 60 < (ts.length : Int)
  · (refine callSim_of tok Try.func4 rfl (fun args w => Try.call4 args w) rfl rfl rfl (fun F hF => ?_))
    (have zc1 := aw; refine WL ?_; clear zc1)
    exact fin_ret [] rfl rfl rfl rfl
  have hn := new_c l hl
  have hn2 := new_c m hm
  generalize (⟨l, 0, Nat.zero_le _, hl⟩ : Dk) = d0 at *
  generalize (⟨m, 0, Nat.zero_le _, hm⟩ : Dk) = e0 at *
  have cj := junction_c d0
  have J := jv_jnF d0
  generalize jnF d0 = j at *
  generalize jnD d0 = d1 at *
  have hjn := J.n
  have hjc := J.c
  have cc := control_c j J e0
  have CC := ctF_v J e0
  generalize ctF j e0 = c0 at *
  generalize ctD j e0 = e1 at *
  have hlp := map_len phA j.ph
  (refine callSim_of tok Try.func4 rfl (fun args w => Try.call4 args w) rfl rfl rfl (fun F hF => ?_))
  (repeat' (first | (refine is_ops ?_; first | refine x_auto tok rfl rfl ?_ | (refine is_call ?_; (first | (refine is_fn 12 ?_; first | refine x_q (stp_call (aw) rfl rfl rfl rfl rfl) rfl ?_ | refine x_w (stp_call (aw) rfl rfl rfl rfl rfl) rfl rfl rfl ?_ | refine x_d (stp_call (aw) rfl rfl rfl rfl rfl) rfl rfl rfl ?_) | (refine is_fn 13 ?_; first | refine x_q (stp_call (hn) rfl rfl rfl rfl rfl) rfl ?_ | refine x_w (stp_call (hn) rfl rfl rfl rfl rfl) rfl rfl rfl ?_ | refine x_d (stp_call (hn) rfl rfl rfl rfl rfl) rfl rfl rfl ?_) | (refine is_fn 14 ?_; first | refine x_q (stp_call (cj) rfl rfl rfl rfl rfl) rfl ?_ | refine x_w (stp_call (cj) rfl rfl rfl rfl rfl) rfl rfl rfl ?_ | refine x_d (stp_call (cj) rfl rfl rfl rfl rfl) rfl rfl rfl ?_))) | (refine is_grd ?_; first | refine x_on rfl rfl ?_ | refine x_off rfl rfl rfl rfl ?_ | (refine x_gsplit rfl rfl (fun hc => ?_) (fun hc => ?_) <;> (try simp only [cmpB, decide_eq_true_eq, decide_eq_false_iff_not, beq_iff_eq, bne_iff_ne, ne_eq, Bool.not_eq_true, beq_eq_false_iff_ne, bne_eq_false_iff_eq, Int.not_lt, Int.not_le, Decidable.not_not] at hc))) | (refine is_bin ?_; first | refine x_q (stp_cmp_t rfl rfl rfl (by unfold cmpP; omega)) rfl ?_ | refine x_q (stp_cmp_f rfl rfl rfl (by unfold cmpP; omega)) rfl ?_ | refine x_q (stp_cmp rfl rfl rfl) rfl ?_ | refine x_q (stp_add rfl rfl ⟨by omega, by omega⟩) rfl ?_ | refine x_q (stp_sub rfl rfl ⟨by omega, by omega⟩) rfl ?_ | refine x_q (stp_mul rfl rfl ⟨by omega, by omega⟩) rfl ?_ | refine x_q (stp_quo rfl rfl (by assumption) (by omega)) rfl ?_ | refine x_q (stp_rem rfl rfl (by omega)) rfl ?_ | refine x_q (stp_xor rfl rfl) rfl ?_ | refine x_q (stp_shlI rfl rfl (by omega)) rfl ?_ | refine x_q (stp_shrI rfl rfl (by omega)) rfl ?_ | refine x_q (stp_shift (.inl ⟨rfl, rfl⟩) rfl rfl (by omega)) rfl ?_ | refine x_q (stp_shift (.inr ⟨rfl, rfl⟩) rfl rfl (by omega)) rfl ?_ | refine x_q (stp_bool2 tok rfl rfl rfl rfl (.inl ⟨rfl, rfl⟩)) rfl ?_ | refine x_q (stp_bool2 tok rfl rfl rfl rfl (.inr ⟨rfl, rfl⟩)) rfl ?_ | refine x_q (stp_eqlNil tok (.inl ⟨rfl, rfl⟩) rfl rfl rfl) rfl ?_ | refine x_q (stp_eqlNil_not tok (.inl ⟨rfl, rfl⟩) rfl rfl rfl rfl) rfl ?_ | refine x_q (stp_andI rfl rfl) rfl ?_ | refine x_q (stp_orI rfl rfl) rfl ?_ | refine x_q (stp_bicI rfl rfl) rfl ?_ | refine x_q (stp_strEqV rfl rfl (by assumption)) rfl ?_ | refine x_q (stp_strEq rfl rfl) rfl ?_ | refine x_q (stp_strNeV rfl rfl (by assumption)) rfl ?_ | refine x_q (stp_strNe rfl rfl) rfl ?_) | (refine is_idx ?_; first | refine x_q (stp_indexAddr_sl tok rfl rfl rfl rfl rfl (by omega) (by first | rfl | assumption) rfl rfl) rfl ?_ | refine x_q (stp_indexAddr_r0 tok rfl rfl rfl rfl rfl rfl (by omega) (by omega) rfl) rfl ?_ | refine x_q (stp_indexAddr_box tok rfl rfl rfl rfl rfl rfl (by omega) (by omega)) rfl ?_) | (refine is_load ?_; first | refine x_q (stp_load_fp1 tok rfl rfl rfl (by first | rfl | assumption) rfl) rfl ?_ | refine x_q (stp_load_fpa tok rfl rfl rfl (by first | rfl | assumption) rfl) rfl ?_ | refine x_q (stp_load_arr1 tok rfl rfl rfl rfl (by first | rfl | assumption) rfl) rfl ?_ | refine x_q (stp_load_arra tok rfl rfl rfl rfl (by first | rfl | assumption) rfl) rfl ?_) | (refine is_fad ?_; first | refine x_q (stp_fieldAddr_arr tok rfl rfl rfl rfl rfl rfl rfl rfl) rfl ?_ | refine x_q (stp_fieldAddr_fp tok rfl (by first | rfl | assumption) rfl rfl rfl rfl rfl rfl) rfl ?_) | (refine is_app ?_; first | refine x_appref0 tok rfl rfl rfl rfl rfl rfl rfl (by first | (intro y hy; cases hy; rfl) | exact map_hd _ _ (fun _ => rfl)) rfl rfl rfl (by first | omega | (simp; done) | (simp; omega)) rfl ?_ | refine x_appref tok rfl rfl rfl rfl rfl rfl rfl rfl rfl rfl rfl (by first | (intro y hy; cases hy; rfl) | exact map_hd _ _ (fun _ => rfl)) (by first | omega | (simp; done) | (simp; omega)) rfl ?_) | (refine is_un ?_; first | refine x_q (stp_neg rfl ⟨by omega, by omega⟩) rfl ?_) | (refine is_conv ?_; first | refine x_q (stp_conv_in tok rfl rfl rfl rfl ⟨by omega, by omega⟩) rfl ?_ | refine x_q (stp_conv tok rfl rfl rfl rfl) rfl ?_ | refine x_q (stp_convStr tok rfl rfl rfl rfl rfl rfl rfl (by first | rfl | assumption)) rfl ?_) | (refine is_slc ?_; first | refine x_slcL tok rfl rfl rfl rfl rfl (by first | (intro y hy; cases hy; rfl) | exact map_hd _ _ (fun _ => rfl) | (simp; done)) (by omega) (by simp; omega) (by first | exact List.map_drop.symm | rfl) rfl ?_ | refine x_slcH tok rfl rfl rfl rfl rfl (by first | (intro y hy; cases hy; rfl) | exact map_hd _ _ (fun _ => rfl) | (simp; done)) (by omega) (by simp; omega) (by first | exact List.map_take.symm | rfl) rfl ?_) | fail | refine x_autow tok rfl rfl rfl rfl ?_ | (refine is_sto ?_; first | refine x_autos tok rfl rfl rfl ?_ | refine x_stoa tok rfl rfl rfl (by first | rfl | assumption) rfl rfl rfl rfl rfl rfl ?_ | refine x_sto1 tok rfl rfl rfl (by first | rfl | assumption) rfl rfl rfl rfl rfl rfl rfl rfl ?_) | refine x_nil ?_ | refine x_nilD (by kernel_rfl) ?_) | (first | refine sim_seq ?_ | refine x_region ?_ | refine sim_cond_true rfl ?_ | refine sim_cond_false rfl ?_ | refine sim_skip ?_ | refine sim_ret ?_ | refine sim_exit ?_)))
  refine sim_restr (st' := ⟨[(1, slA iA m), (2, slA iA ts), (6, bA false), (7, .ptr 7 0 0)], [(7, .box [slA phA j.ph, slA iA j.cf, iA j.st])]⟩) [7] [1, 2, 6, 7] rfl rfl ?_
  clear cj hn
  have hl2 : ([AV.s (.int .i64 (-1)), AV.s (.int .i64 ((j.ph.map phA).length : Int))] ++ ts.map iA).length = ts.length + 2 := by simp
  (have zc1 := hn2; have zc2 := cc; refine WW ?_; clear zc1 zc2)
  (refine sim_cnt (ts.length + 2) [8, 7, 29] [7, 29] [7, 8, 31, 32] [33, 7, 8, 31, 32] rfl (fun i T U => ⟨(33, iA i) :: T, (8, .box [slA liA (rsC j c0 ((j.ph.map phA).length : Int) ts i).li, iA (rsC j c0 ((j.ph.map phA).length : Int) ts i).gr, slA iA (rsC j c0 ((j.ph.map phA).length : Int) ts i).nx, iA (rsC j c0 ((j.ph.map phA).length : Int) ts i).wt]) :: U⟩) ?_; (conv => whnf); refine ⟨by rfl, ?_, ?_⟩)
  · intro u hu
    have hy := map_at iA (rsT ((j.ph.map phA).length : Int) ts) u (by unfold rsT; simp; omega)
    change ([AV.s (.int .i64 (-1)), AV.s (.int .i64 ((j.ph.map phA).length : Int))] ++ ts.map iA)[u]? = some (iA ((rsT ((j.ph.map phA).length : Int) ts).getD u default)) at hy
    have C0 := rsC_v J CC ((j.ph.map phA).length : Int) ts u
    rw [show rsC j c0 ((j.ph.map phA).length : Int) ts (u + 1) = inC j (rsC j c0 ((j.ph.map phA).length : Int) ts u) ((rsT ((j.ph.map phA).length : Int) ts).getD u default) ((rsT ((j.ph.map phA).length : Int) ts).getD u default % (((j.ph.map phA).length : Int) + 1) - 1) 2 from rfl]
    have cm := mod_c ((rsT ((j.ph.map phA).length : Int) ts).getD u default) (((j.ph.map phA).length : Int) + 1) (by omega) (by omega)
    have bm := Int.emod_nonneg ((rsT ((j.ph.map phA).length : Int) ts).getD u default) (show ((j.ph.map phA).length : Int) + 1 ≠ 0 by omega)
    have bm2 := Int.emod_lt_of_pos ((rsT ((j.ph.map phA).length : Int) ts).getD u default) (show 0 < ((j.ph.map phA).length : Int) + 1 by omega)
    have hgl : ∀ k, (inC j (rsC j c0 ((j.ph.map phA).length : Int) ts u) ((rsT ((j.ph.map phA).length : Int) ts).getD u default) ((rsT ((j.ph.map phA).length : Int) ts).getD u default % (((j.ph.map phA).length : Int) + 1) - 1) k).li.length ≤ 1000000 := fun k => by have := (inC_v J C0 ((rsT ((j.ph.map phA).length : Int) ts).getD u default) ((rsT ((j.ph.map phA).length : Int) ts).getD u default % (((j.ph.map phA).length : Int) + 1) - 1) k).n; omega
    have hgn : ∀ k, (inC j (rsC j c0 ((j.ph.map phA).length : Int) ts u) ((rsT ((j.ph.map phA).length : Int) ts).getD u default) ((rsT ((j.ph.map phA).length : Int) ts).getD u default % (((j.ph.map phA).length : Int) + 1) - 1) k).nx.length ≤ 1000000 := fun k => by have := (inC_v J C0 ((rsT ((j.ph.map phA).length : Int) ts).getD u default) ((rsT ((j.ph.map phA).length : Int) ts).getD u default % (((j.ph.map phA).length : Int) + 1) - 1) k).m; omega
    have CV1 := inC_v J C0 ((rsT ((j.ph.map phA).length : Int) ts).getD u default) ((rsT ((j.ph.map phA).length : Int) ts).getD u default % (((j.ph.map phA).length : Int) + 1) - 1)
    generalize (rsT ((j.ph.map phA).length : Int) ts).getD u default % (((j.ph.map phA).length : Int) + 1) = q at *
    generalize (rsT ((j.ph.map phA).length : Int) ts).getD u default = t at *
    generalize rsC j c0 ((j.ph.map phA).length : Int) ts u = c at *
    obtain ⟨N2, hN2⟩ : ∃ n : Nat, n = 2 := ⟨2, rfl⟩
    clear aw hn2 cc CC
    (have zc1 := cm; refine WW ?_; clear zc1)
    have e2 : inC j c t (q - 1) 2 = inC j c t (q - 1) N2 := by rw [hN2]
    rw [e2]
    have hl3 : ([AV.s (.int .i64 t), AV.s (.int .i64 (q - 1))] : List AV).length = 2 := rfl
    (refine sim_cnt (N2) [8, 7, 29, 45] [7, 29, 45] [7, 8, 31, 32, 33, 45, 46] [47, 7, 8, 31, 32, 33, 45, 46] rfl (fun i T U => ⟨(47, iA i) :: T, (8, .box [slA liA (inC j c t (q - 1) i).li, iA (inC j c t (q - 1) i).gr, slA iA (inC j c t (q - 1) i).nx, iA (inC j c t (q - 1) i).wt]) :: U⟩) ?_; (conv => whnf); refine ⟨by rfl, ?_, ?_⟩)
    · intro k hk
      have : k = 0 ∨ k = 1 := by omega
      have C1 := CV1 k
      rcases this with rfl | rfl
      · have hy : ([AV.s (.int .i64 t), AV.s (.int .i64 (q - 1))] : List AV)[((0 : Nat) : Int).toNat]? = some (iA t) := rfl
        have s1 := step_c j J _ C1 t
        have s2 := rstepC_c j J _ C1 t
        have e1 : inC j c t (q - 1) (0 + 1) = stF j (inC j c t (q - 1) 0) t := rfl
        have sa := csame_c (stF j (inC j c t (q - 1) 0) t) (hgl 1) (hgn 1)
        rw [e1]
        clear e1 hgl hgn CV1 C0 C1 e2 cm
        generalize stF j (inC j c t (q - 1) 0) t = c2 at *
        generalize inC j c t (q - 1) 0 = c1 at *
        (have zc1 := s1; have zc2 := s2; have zc3 := sa; refine WW ?_; clear zc1 zc2 zc3)
        rfl
      · have hy : ([AV.s (.int .i64 t), AV.s (.int .i64 (q - 1))] : List AV)[((1 : Nat) : Int).toNat]? = some (iA (q - 1)) := rfl
        have s1 := step_c j J _ C1 (q - 1)
        have s2 := rstepC_c j J _ C1 (q - 1)
        have e1 : inC j c t (q - 1) (1 + 1) = stF j (inC j c t (q - 1) 1) (q - 1) := rfl
        have sa := csame_c (stF j (inC j c t (q - 1) 1) (q - 1)) (hgl 2) (hgn 2)
        rw [e1]
        clear e1 hgl hgn CV1 C0 C1 e2 cm
        generalize stF j (inC j c t (q - 1) 1) (q - 1) = c2 at *
        generalize inC j c t (q - 1) 1 = c1 at *
        (have zc1 := s1; have zc2 := s2; have zc3 := sa; refine WW ?_; clear zc1 zc2 zc3)
        rfl
    · clear CV1
      (refine WW ?_)
      rfl
  · clear CC hn2 cc
    (have zc1 := aw; refine WW ?_; clear zc1)
    exact fin_ret [] rfl rfl rfl rfl
end Av
end Go.Proofs.Ythmnhefaeknppaa
