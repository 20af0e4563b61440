/- The law JunctionSteps. -/
import Derived.Test.YtkliodbbcblobaaLJSafe
import Derived.Test.YtkliodbbcblobaaAvu
namespace Go.Proofs.Ytkliodbbcblobaa
namespace Av
set_option linter.unusedSimpArgs false
set_option linter.unusedVariables false
set_option maxRecDepth 4000
set_option maxHeartbeats 4000000
def jtK (a : Int) : Int := if a % 5 = 4 then a.tdiv 5 % 9 else -1
def jtX (j : Jn) (s : Sg) (a n : Int) : Sg := sjF j s (a.tdiv 64 % (n + 1) - 1) (jtK a)
def jtY (j : Jn) (s : Sg) (a n : Int) : Sg := if a.tdiv 512 % 6 = 5 then srF j (jtX j s a n) else jtX j s a n
def jtS (j : Jn) (c : Ct) (n : Int) (ts : List Int) : Nat → Sg
  | 0 => ⟨c, false⟩
  | i + 1 => jtY j (jtS j c n ts i) (ts.getD i default) n
theorem jtX_v {j : Jn} (J : JV j) {s : Sg} (C : CV j s.c) (a n : Int) : CV j (jtX j s a n).c := sj_v J C _ _
theorem jtS_v {j : Jn} (J : JV j) {c : Ct} (C : CV j c) (n : Int) (ts : List Int) : ∀ i, CV j (jtS j c n ts i).c
  | 0 => C
  | i + 1 => by
    unfold jtS jtY
    split
    · exact sr_v J (jtX_v J (jtS_v J C n ts i) _ n)
    · exact jtX_v J (jtS_v J C n ts i) _ n
theorem jsteps_c (raw : Sg) (hr : raw.c.li.length ≤ 9223372036854775807 ∧ raw.c.nx.length ≤ 9223372036854775807) (l : List Int) (hl : l.length ≤ 9223372036854775807) (m : List Int) (hm : m.length ≤ 9223372036854775807) (ts : List Int) (hts : ts.length ≤ 9223372036854775807) (hir : ∀ x ∈ ts, InR .i64 x) : CallSim Try.prog 3 [sgA raw, slA iA l, slA iA m, slA iA ts] [] (bA true) [] := by
  have aw := awake11_c
  have hlt := map_len iA ts
  have hl1 := map_len liA raw.c.li
  have hl2 := map_len iA raw.c.nx
  obtain ⟨hr1, hr2⟩ := hr
  by_cases h1 : 60 < (ts.length : Int)
  · (refine callSim_of tok Try.func3 rfl (fun args w => Try.call3 args w) rfl rfl rfl (fun F hF => ?_))
    (have zc1 := aw; refine WL ?_; clear zc1)
    exact fin_ret [] rfl rfl rfl rfl
  by_cases h2 : 20 < (raw.c.li.length : Int)
  · (refine callSim_of tok Try.func3 rfl (fun args w => Try.call3 args w) rfl rfl rfl (fun F hF => ?_))
    (have zc1 := aw; refine WL ?_; clear zc1)
    exact fin_ret [] rfl rfl rfl rfl
  by_cases h3 : 20 < (raw.c.nx.length : Int)
  · (refine callSim_of tok Try.func3 rfl (fun args w => Try.call3 args w) rfl rfl rfl (fun F hF => ?_))
    (have zc1 := aw; refine WL ?_; clear zc1)
    exact fin_ret [] rfl rfl rfl rfl
  have hn := new_c l hl
  have hn2 := new_c m hm
  generalize (⟨l, 0, Nat.zero_le _, hl⟩ : Dk) = d0 at *
  generalize (⟨m, 0, Nat.zero_le _, hm⟩ : Dk) = e0 at *
  have cj := junction_c d0
  have J := jv_jnF d0
  generalize jnF d0 = j at *
  generalize jnD d0 = d1 at *
  have hjn := J.n
  have hjc := J.c
  have cc := control_c j J e0
  have CC := ctF_v J e0
  generalize ctF j e0 = c0 at *
  generalize ctD j e0 = e1 at *
  have hlp := map_len phA j.ph
  have v1 := svalid_c j J raw
  have v2 := rsvalid_c j J raw
  have v3 := svalid_c j J ⟨c0, false⟩
  rw [vcF_CV J CC] at v3
  have m1 := lamps_c raw (by omega)
  have m2 := rlamps_c raw (by omega)
  have m3 := ints_c (laF raw) (by simp [laF]; omega)
  have n1 := snew_c j J
  have n2 := rsnew_c j J
  have n3 := ssame_c (newS j) (by show (List.replicate _ _).length ≤ _; rw [List.length_replicate]; omega) (by show (2 : Nat) ≤ 1000000; omega)
  have hA : (slA iA ts).cells.length = 1 := rfl
  generalize newS j = z at *
  generalize laF raw = lr at *
  generalize vcF j raw.c = vb at *
  obtain ⟨⟨rl, rg, rn, rw⟩, rlat⟩ := raw
  dsimp only at *
  rw [show sgA ⟨⟨rl, rg, rn, rw⟩, rlat⟩ = .agg [slA liA rl, iA rg, slA iA rn, iA rw, bA rlat] from rfl] at *
  have CN := jtS_v J CC ((j.ph.map phA).length : Int) ts
  (refine callSim_of tok Try.func3 rfl (fun args w => Try.call3 args w) rfl rfl rfl (fun F hF => ?_))
  (repeat' (first | (refine is_ops ?_; first | refine x_auto tok rfl rfl ?_ | (refine is_call ?_; (first | (refine is_fn 14 ?_; first | refine x_q (stp_call (hn) rfl rfl rfl rfl rfl) rfl ?_ | refine x_w (stp_call (hn) rfl rfl rfl rfl rfl) rfl rfl rfl ?_ | refine x_d (stp_call (hn) rfl rfl rfl rfl rfl) rfl rfl rfl ?_) | (refine is_fn 15 ?_; first | refine x_q (stp_call (cj) rfl rfl rfl rfl rfl) rfl ?_ | refine x_w (stp_call (cj) rfl rfl rfl rfl rfl) rfl rfl rfl ?_ | refine x_d (stp_call (cj) rfl rfl rfl rfl rfl) rfl rfl rfl ?_))) | (refine is_grd ?_; first | refine x_on rfl rfl ?_ | refine x_off rfl rfl rfl rfl ?_ | (refine x_gsplit rfl rfl (fun hc => ?_) (fun hc => ?_) <;> (try simp only [cmpB, decide_eq_true_eq, decide_eq_false_iff_not, beq_iff_eq, bne_iff_ne, ne_eq, Bool.not_eq_true, beq_eq_false_iff_ne, bne_eq_false_iff_eq, Int.not_lt, Int.not_le, Decidable.not_not] at hc))) | (refine is_bin ?_; first | refine x_q (stp_cmp_t rfl rfl rfl (by unfold cmpP; omega)) rfl ?_ | refine x_q (stp_cmp_f rfl rfl rfl (by unfold cmpP; omega)) rfl ?_ | refine x_q (stp_cmp rfl rfl rfl) rfl ?_ | refine x_q (stp_add rfl rfl ⟨by omega, by omega⟩) rfl ?_ | refine x_q (stp_sub rfl rfl ⟨by omega, by omega⟩) rfl ?_ | refine x_q (stp_mul rfl rfl ⟨by omega, by omega⟩) rfl ?_ | refine x_q (stp_quo rfl rfl (by assumption) (by omega)) rfl ?_ | refine x_q (stp_rem rfl rfl (by omega)) rfl ?_ | refine x_q (stp_xor rfl rfl) rfl ?_ | refine x_q (stp_shlI rfl rfl (by omega)) rfl ?_ | refine x_q (stp_shrI rfl rfl (by omega)) rfl ?_ | refine x_q (stp_shift (.inl ⟨rfl, rfl⟩) rfl rfl (by omega)) rfl ?_ | refine x_q (stp_shift (.inr ⟨rfl, rfl⟩) rfl rfl (by omega)) rfl ?_ | refine x_q (stp_bool2 tok rfl rfl rfl rfl (.inl ⟨rfl, rfl⟩)) rfl ?_ | refine x_q (stp_bool2 tok rfl rfl rfl rfl (.inr ⟨rfl, rfl⟩)) rfl ?_ | refine x_q (stp_eqlNil tok (.inl ⟨rfl, rfl⟩) rfl rfl rfl) rfl ?_ | refine x_q (stp_eqlNil_not tok (.inl ⟨rfl, rfl⟩) rfl rfl rfl rfl) rfl ?_ | refine x_q (stp_andI rfl rfl) rfl ?_ | refine x_q (stp_orI rfl rfl) rfl ?_ | refine x_q (stp_bicI rfl rfl) rfl ?_ | refine x_q (stp_strEqV rfl rfl (by assumption)) rfl ?_ | refine x_q (stp_strEq rfl rfl) rfl ?_ | refine x_q (stp_strNeV rfl rfl (by assumption)) rfl ?_ | refine x_q (stp_strNe rfl rfl) rfl ?_) | (refine is_idx ?_; first | refine x_q (stp_indexAddr_sl tok rfl rfl rfl rfl rfl (by omega) (by first | rfl | assumption) rfl rfl) rfl ?_ | refine x_q (stp_indexAddr_r0 tok rfl rfl rfl rfl rfl rfl (by omega) (by omega) rfl) rfl ?_ | refine x_q (stp_indexAddr_box tok rfl rfl rfl rfl rfl rfl (by omega) (by omega)) rfl ?_) | (refine is_load ?_; first | refine x_q (stp_load_fp1 tok rfl rfl rfl (by first | rfl | assumption) rfl) rfl ?_ | refine x_q (stp_load_fpa tok rfl rfl rfl (by first | rfl | assumption) rfl) rfl ?_ | refine x_q (stp_load_arr1 tok rfl rfl rfl rfl (by first | rfl | assumption) rfl) rfl ?_ | refine x_q (stp_load_arra tok rfl rfl rfl rfl (by first | rfl | assumption) rfl) rfl ?_) | (refine is_fad ?_; first | refine x_q (stp_fieldAddr_arr tok rfl rfl rfl rfl rfl rfl rfl rfl) rfl ?_ | refine x_q (stp_fieldAddr_fp tok rfl (by first | rfl | assumption) rfl rfl rfl rfl rfl rfl) rfl ?_) | (refine is_app ?_; first | refine x_appref0 tok rfl rfl rfl rfl rfl rfl rfl (by first | (intro y hy; cases hy; rfl) | exact map_hd _ _ (fun _ => rfl)) rfl rfl rfl (by first | omega | (simp; done) | (simp; omega)) rfl ?_ | refine x_appref tok rfl rfl rfl rfl rfl rfl rfl rfl rfl rfl rfl (by first | (intro y hy; cases hy; rfl) | exact map_hd _ _ (fun _ => rfl)) (by first | omega | (simp; done) | (simp; omega)) rfl ?_) | (refine is_un ?_; first | refine x_q (stp_neg rfl ⟨by omega, by omega⟩) rfl ?_) | (refine is_conv ?_; first | refine x_q (stp_conv_in tok rfl rfl rfl rfl ⟨by omega, by omega⟩) rfl ?_ | refine x_q (stp_conv tok rfl rfl rfl rfl) rfl ?_ | refine x_q (stp_convStr tok rfl rfl rfl rfl rfl rfl rfl (by first | rfl | assumption)) rfl ?_) | (refine is_slc ?_; first | refine x_slcL tok rfl rfl rfl rfl rfl (by first | (intro y hy; cases hy; rfl) | exact map_hd _ _ (fun _ => rfl) | (simp; done)) (by omega) (by simp; omega) (by first | exact List.map_drop.symm | rfl) rfl ?_ | refine x_slcH tok rfl rfl rfl rfl rfl (by first | (intro y hy; cases hy; rfl) | exact map_hd _ _ (fun _ => rfl) | (simp; done)) (by omega) (by simp; omega) (by first | exact List.map_take.symm | rfl) rfl ?_) | fail | refine x_autow tok rfl rfl rfl rfl ?_ | (refine is_sto ?_; first | refine x_autos tok rfl rfl rfl ?_ | refine x_stoa tok rfl rfl rfl (by first | rfl | assumption) rfl rfl rfl rfl rfl rfl ?_ | refine x_sto1 tok rfl rfl rfl (by first | rfl | assumption) rfl rfl rfl rfl rfl rfl rfl rfl ?_) | refine x_nil ?_ | refine x_nilD (by kernel_rfl) ?_) | (first | refine sim_seq ?_ | refine x_region ?_ | refine sim_cond_true rfl ?_ | refine sim_cond_false rfl ?_ | refine sim_skip ?_ | refine sim_ret ?_ | refine sim_exit ?_)))
  refine sim_restr (st' := ⟨[(2, slA iA m), (3, slA iA ts), (8, bA false), (9, .ptr 9 0 0), (4, .ptr 4 0 0)], [(9, .box [slA phA j.ph, slA iA j.cf, iA j.st]), (4, .box [slA liA rl, iA rg, slA iA rn, iA rw, bA rlat])]⟩) [9, 4] [2, 3, 8, 9, 4] rfl rfl ?_
  clear cj hn
  refine sim_join [9, 10, 4] [3, 8, 9, 10, 4] ⟨[(3, slA iA ts), (8, bA false), (9, .ptr 9 0 0), (10, .ptr 10 0 0), (4, .ptr 4 0 0)], [(9, .box [slA phA j.ph, slA iA j.cf, iA j.st]), (10, .box [slA liA c0.li, iA c0.gr, slA iA c0.nx, iA c0.wt, bA false]), (4, .box [slA liA rl, iA rg, slA iA rn, iA rw, bA rlat])]⟩ rfl ?_ ?_
  · (have zc1 := hn2; have zc2 := cc; refine WW ?_; clear zc1 zc2)
    exact ⟨rfl, rfl⟩
  · clear hn2 cc
    refine sim_seq ?_
    refine sim_join [9, 10] [75, 3, 8, 9, 10] ⟨[(75, bA false), (3, slA iA ts), (8, bA false), (9, .ptr 9 0 0), (10, .ptr 10 0 0)], [(9, .box [slA phA j.ph, slA iA j.cf, iA j.st]), (10, .box [slA liA c0.li, iA c0.gr, slA iA c0.nx, iA c0.wt, bA false])]⟩ rfl ?_ ?_
    · cases vb
      all_goals
        (have zc1 := v1; have zc2 := v2; have zc3 := v3; have zc4 := m1; have zc5 := m2; have zc6 := m3; have zc7 := n1; have zc8 := n2; have zc9 := n3; refine WW ?_; clear zc1 zc2 zc3 zc4 zc5 zc6 zc7 zc8 zc9)
      all_goals exact ⟨rfl, rfl⟩
    clear v1 v2 v3 m1 m2 m3 n1 n2 n3
    (refine WW ?_)
    (refine sim_cnt (ts.length) [10, 9] [9] [9, 10, 76, 77] [78, 9, 10, 76, 77] rfl (fun i T U => ⟨(78, iA i) :: T, (10, .box [slA liA (jtS j c0 ((j.ph.map phA).length : Int) ts i).c.li, iA (jtS j c0 ((j.ph.map phA).length : Int) ts i).c.gr, slA iA (jtS j c0 ((j.ph.map phA).length : Int) ts i).c.nx, iA (jtS j c0 ((j.ph.map phA).length : Int) ts i).c.wt, bA (jtS j c0 ((j.ph.map phA).length : Int) ts i).lat]) :: U⟩) ?_; (conv => whnf); refine ⟨by rfl, ?_, ?_⟩)
    · intro u hu
      have hy := map_at iA ts u hu
      have hri : InR .i64 (ts.getD u default) := hir _ (by simp [List.getD, hu])
      have C0 := CN u
      rw [show jtS j c0 ((j.ph.map phA).length : Int) ts (u + 1) = jtY j (jtS j c0 ((j.ph.map phA).length : Int) ts u) (ts.getD u default) ((j.ph.map phA).length : Int) from rfl]
      clear CN aw hir
      generalize jtS j c0 ((j.ph.map phA).length : Int) ts u = s at *
      generalize ts.getD u default = a at *
      have q5 := quo_r hri 5 (by omega)
      have q64 := quo_r hri 64 (by omega)
      have q512 := quo_r hri 512 (by omega)
      have m1 := mod_c a 5 (by omega) (by omega)
      have m2 := mod_c (a.tdiv 5) 9 (by omega) (by omega)
      have m3 := mod_c (a.tdiv 64) (((j.ph.map phA).length : Int) + 1) (by omega) (by omega)
      have m4 := mod_c (a.tdiv 512) 6 (by omega) (by omega)
      have b3 := Int.emod_nonneg (a.tdiv 64) (show ((j.ph.map phA).length : Int) + 1 ≠ 0 by omega)
      have b4 := Int.emod_lt_of_pos (a.tdiv 64) (show 0 < ((j.ph.map phA).length : Int) + 1 by omega)
      have X := jtX_v J C0 a ((j.ph.map phA).length : Int)
      have s1 := sstep_c j J s C0 (a.tdiv 64 % (((j.ph.map phA).length : Int) + 1) - 1) (jtK a)
      have s2 := rsstep_c j J s C0 (a.tdiv 64 % (((j.ph.map phA).length : Int) + 1) - 1) (jtK a)
      unfold jtY
      change CallSim Try.prog 26 [jnA j, sgA s, iA (a.tdiv 64 % (((j.ph.map phA).length : Int) + 1) - 1), iA (jtK a)] [] (sgA (jtX j s a ((j.ph.map phA).length : Int))) [] at s1
      change CallSim Try.prog 27 [jnA j, sgA s, iA (a.tdiv 64 % (((j.ph.map phA).length : Int) + 1) - 1), iA (jtK a)] [] (sgA (jtX j s a ((j.ph.map phA).length : Int))) [] at s2
      generalize jtX j s a ((j.ph.map phA).length : Int) = x at *
      have hxn := X.n
      have hxm := X.m
      have hYv := sr_v J X
      have hyn := hYv.n
      have hym := hYv.m
      have r1 := sreset_c j J x (by omega) (by omega)
      have r2 := rsreset_c j J x (by omega) (by omega)
      have a1 := ssame_c x (by omega) (by omega)
      have a2 := ssame_c (srF j x) (by omega) (by omega)
      have p1 := lamps_c x (by omega)
      have p2 := rlamps_c x (by omega)
      have p3 := ints_c (laF x) (by simp [laF]; omega)
      have hk : (a % 5 = 4 ∧ jtK a = a.tdiv 5 % 9) ∨ (a % 5 ≠ 4 ∧ jtK a = -1) := by
        unfold jtK
        by_cases h : a % 5 = 4
        · exact .inl ⟨h, if_pos h⟩
        · exact .inr ⟨h, if_neg h⟩
      generalize jtK a = K at *
      generalize srF j x = y at *
      generalize laF x = lx at *
      generalize a.tdiv 5 % 9 = r5 at *
      generalize a.tdiv 64 % (((j.ph.map phA).length : Int) + 1) = r64 at *
      clear X hYv C0 hri
      obtain ⟨xc, xl⟩ := x
      have hxl : xl = true ∨ xl = false := by cases xl <;> simp
      by_cases h6 : a.tdiv 512 % 6 = 5
      · rw [if_pos h6]
        rcases hxl with rfl | rfl
        all_goals rcases hk with ⟨h3, rfl⟩ | ⟨h3, rfl⟩
        all_goals
          (repeat' (first | (refine is_ops ?_; first | refine x_auto tok rfl rfl ?_ | (refine is_call ?_; (first | (refine is_fn 25 ?_; first | refine x_q (stp_call (m1) rfl rfl rfl rfl rfl) rfl ?_ | refine x_w (stp_call (m1) rfl rfl rfl rfl rfl) rfl rfl rfl ?_ | refine x_d (stp_call (m1) rfl rfl rfl rfl rfl) rfl rfl rfl ?_) | (refine is_fn 25 ?_; first | refine x_q (stp_call (m2) rfl rfl rfl rfl rfl) rfl ?_ | refine x_w (stp_call (m2) rfl rfl rfl rfl rfl) rfl rfl rfl ?_ | refine x_d (stp_call (m2) rfl rfl rfl rfl rfl) rfl rfl rfl ?_) | (refine is_fn 25 ?_; first | refine x_q (stp_call (m3) rfl rfl rfl rfl rfl) rfl ?_ | refine x_w (stp_call (m3) rfl rfl rfl rfl rfl) rfl rfl rfl ?_ | refine x_d (stp_call (m3) rfl rfl rfl rfl rfl) rfl rfl rfl ?_) | (refine is_fn 25 ?_; first | refine x_q (stp_call (m4) rfl rfl rfl rfl rfl) rfl ?_ | refine x_w (stp_call (m4) rfl rfl rfl rfl rfl) rfl rfl rfl ?_ | refine x_d (stp_call (m4) rfl rfl rfl rfl rfl) rfl rfl rfl ?_) | (refine is_fn 26 ?_; first | refine x_q (stp_call (s1) rfl rfl rfl rfl rfl) rfl ?_ | refine x_w (stp_call (s1) rfl rfl rfl rfl rfl) rfl rfl rfl ?_ | refine x_d (stp_call (s1) rfl rfl rfl rfl rfl) rfl rfl rfl ?_) | (refine is_fn 27 ?_; first | refine x_q (stp_call (s2) rfl rfl rfl rfl rfl) rfl ?_ | refine x_w (stp_call (s2) rfl rfl rfl rfl rfl) rfl rfl rfl ?_ | refine x_d (stp_call (s2) rfl rfl rfl rfl rfl) rfl rfl rfl ?_) | (refine is_fn 28 ?_; first | refine x_q (stp_call (r1) rfl rfl rfl rfl rfl) rfl ?_ | refine x_w (stp_call (r1) rfl rfl rfl rfl rfl) rfl rfl rfl ?_ | refine x_d (stp_call (r1) rfl rfl rfl rfl rfl) rfl rfl rfl ?_) | (refine is_fn 29 ?_; first | refine x_q (stp_call (r2) rfl rfl rfl rfl rfl) rfl ?_ | refine x_w (stp_call (r2) rfl rfl rfl rfl rfl) rfl rfl rfl ?_ | refine x_d (stp_call (r2) rfl rfl rfl rfl rfl) rfl rfl rfl ?_) | (refine is_fn 22 ?_; first | refine x_q (stp_call (a1) rfl rfl rfl rfl rfl) rfl ?_ | refine x_w (stp_call (a1) rfl rfl rfl rfl rfl) rfl rfl rfl ?_ | refine x_d (stp_call (a1) rfl rfl rfl rfl rfl) rfl rfl rfl ?_) | (refine is_fn 22 ?_; first | refine x_q (stp_call (a2) rfl rfl rfl rfl rfl) rfl ?_ | refine x_w (stp_call (a2) rfl rfl rfl rfl rfl) rfl rfl rfl ?_ | refine x_d (stp_call (a2) rfl rfl rfl rfl rfl) rfl rfl rfl ?_) | (refine is_fn 20 ?_; first | refine x_q (stp_call (p1) rfl rfl rfl rfl rfl) rfl ?_ | refine x_w (stp_call (p1) rfl rfl rfl rfl rfl) rfl rfl rfl ?_ | refine x_d (stp_call (p1) rfl rfl rfl rfl rfl) rfl rfl rfl ?_) | (refine is_fn 21 ?_; first | refine x_q (stp_call (p2) rfl rfl rfl rfl rfl) rfl ?_ | refine x_w (stp_call (p2) rfl rfl rfl rfl rfl) rfl rfl rfl ?_ | refine x_d (stp_call (p2) rfl rfl rfl rfl rfl) rfl rfl rfl ?_) | (refine is_fn 19 ?_; first | refine x_q (stp_call (p3) rfl rfl rfl rfl rfl) rfl ?_ | refine x_w (stp_call (p3) rfl rfl rfl rfl rfl) rfl rfl rfl ?_ | refine x_d (stp_call (p3) rfl rfl rfl rfl rfl) rfl rfl rfl ?_))) | (refine is_grd ?_; first | refine x_on rfl rfl ?_ | refine x_off rfl rfl rfl rfl ?_ | (refine x_gsplit rfl rfl (fun hc => ?_) (fun hc => ?_) <;> (try simp only [cmpB, decide_eq_true_eq, decide_eq_false_iff_not, beq_iff_eq, bne_iff_ne, ne_eq, Bool.not_eq_true, beq_eq_false_iff_ne, bne_eq_false_iff_eq, Int.not_lt, Int.not_le, Decidable.not_not] at hc))) | (refine is_bin ?_; first | refine x_q (stp_cmp_t rfl rfl rfl (by unfold cmpP; omega)) rfl ?_ | refine x_q (stp_cmp_f rfl rfl rfl (by unfold cmpP; omega)) rfl ?_ | refine x_q (stp_cmp rfl rfl rfl) rfl ?_ | refine x_q (stp_add rfl rfl ⟨by omega, by omega⟩) rfl ?_ | refine x_q (stp_sub rfl rfl ⟨by omega, by omega⟩) rfl ?_ | refine x_q (stp_mul rfl rfl ⟨by omega, by omega⟩) rfl ?_ | refine x_q (stp_quo rfl rfl (by assumption) (by omega)) rfl ?_ | refine x_q (stp_rem rfl rfl (by omega)) rfl ?_ | refine x_q (stp_xor rfl rfl) rfl ?_ | refine x_q (stp_shlI rfl rfl (by omega)) rfl ?_ | refine x_q (stp_shrI rfl rfl (by omega)) rfl ?_ | refine x_q (stp_shift (.inl ⟨rfl, rfl⟩) rfl rfl (by omega)) rfl ?_ | refine x_q (stp_shift (.inr ⟨rfl, rfl⟩) rfl rfl (by omega)) rfl ?_ | refine x_q (stp_bool2 tok rfl rfl rfl rfl (.inl ⟨rfl, rfl⟩)) rfl ?_ | refine x_q (stp_bool2 tok rfl rfl rfl rfl (.inr ⟨rfl, rfl⟩)) rfl ?_ | refine x_q (stp_eqlNil tok (.inl ⟨rfl, rfl⟩) rfl rfl rfl) rfl ?_ | refine x_q (stp_eqlNil_not tok (.inl ⟨rfl, rfl⟩) rfl rfl rfl rfl) rfl ?_ | refine x_q (stp_andI rfl rfl) rfl ?_ | refine x_q (stp_orI rfl rfl) rfl ?_ | refine x_q (stp_bicI rfl rfl) rfl ?_ | refine x_q (stp_strEqV rfl rfl (by assumption)) rfl ?_ | refine x_q (stp_strEq rfl rfl) rfl ?_ | refine x_q (stp_strNeV rfl rfl (by assumption)) rfl ?_ | refine x_q (stp_strNe rfl rfl) rfl ?_) | (refine is_idx ?_; first | refine x_q (stp_indexAddr_sl tok rfl rfl rfl rfl rfl (by omega) (by first | rfl | assumption) rfl rfl) rfl ?_ | refine x_q (stp_indexAddr_r0 tok rfl rfl rfl rfl rfl rfl (by omega) (by omega) rfl) rfl ?_ | refine x_q (stp_indexAddr_box tok rfl rfl rfl rfl rfl rfl (by omega) (by omega)) rfl ?_) | (refine is_load ?_; first | refine x_q (stp_load_fp1 tok rfl rfl rfl (by first | rfl | assumption) rfl) rfl ?_ | refine x_q (stp_load_fpa tok rfl rfl rfl (by first | rfl | assumption) rfl) rfl ?_ | refine x_q (stp_load_arr1 tok rfl rfl rfl rfl (by first | rfl | assumption) rfl) rfl ?_ | refine x_q (stp_load_arra tok rfl rfl rfl rfl (by first | rfl | assumption) rfl) rfl ?_) | (refine is_fad ?_; first | refine x_q (stp_fieldAddr_arr tok rfl rfl rfl rfl rfl rfl rfl rfl) rfl ?_ | refine x_q (stp_fieldAddr_fp tok rfl (by first | rfl | assumption) rfl rfl rfl rfl rfl rfl) rfl ?_) | (refine is_app ?_; first | refine x_appref0 tok rfl rfl rfl rfl rfl rfl rfl (by first | (intro y hy; cases hy; rfl) | exact map_hd _ _ (fun _ => rfl)) rfl rfl rfl (by first | omega | (simp; done) | (simp; omega)) rfl ?_ | refine x_appref tok rfl rfl rfl rfl rfl rfl rfl rfl rfl rfl rfl (by first | (intro y hy; cases hy; rfl) | exact map_hd _ _ (fun _ => rfl)) (by first | omega | (simp; done) | (simp; omega)) rfl ?_) | (refine is_un ?_; first | refine x_q (stp_neg rfl ⟨by omega, by omega⟩) rfl ?_) | (refine is_conv ?_; first | refine x_q (stp_conv_in tok rfl rfl rfl rfl ⟨by omega, by omega⟩) rfl ?_ | refine x_q (stp_conv tok rfl rfl rfl rfl) rfl ?_ | refine x_q (stp_convStr tok rfl rfl rfl rfl rfl rfl rfl (by first | rfl | assumption)) rfl ?_) | (refine is_slc ?_; first | refine x_slcL tok rfl rfl rfl rfl rfl (by first | (intro y hy; cases hy; rfl) | exact map_hd _ _ (fun _ => rfl) | (simp; done)) (by omega) (by simp; omega) (by first | exact List.map_drop.symm | rfl) rfl ?_ | refine x_slcH tok rfl rfl rfl rfl rfl (by first | (intro y hy; cases hy; rfl) | exact map_hd _ _ (fun _ => rfl) | (simp; done)) (by omega) (by simp; omega) (by first | exact List.map_take.symm | rfl) rfl ?_) | (refine is_mks ?_; refine x_mks tok rfl rfl rfl rfl rfl rfl rfl rfl rfl rfl rfl rfl rfl (by omega) (by omega) rfl rfl rfl ?_) | refine x_autow tok rfl rfl rfl rfl ?_ | (refine is_sto ?_; first | refine x_autos tok rfl rfl rfl ?_ | refine x_stoa tok rfl rfl rfl (by first | rfl | assumption) rfl rfl rfl rfl rfl rfl ?_ | refine x_sto1 tok rfl rfl rfl (by first | rfl | assumption) rfl rfl rfl rfl rfl rfl rfl rfl ?_) | refine x_nil ?_ | refine x_nilD (by kernel_rfl) ?_) | (first | refine sim_seq ?_ | refine x_region ?_ | refine x_draw rfl ?_ | refine sim_cond_true rfl ?_ | refine sim_cond_false rfl ?_ | (refine sim_cond rfl (fun hc => ?_) (fun hc => ?_) <;> (try simp only [cmpB, decide_eq_true_eq, decide_eq_false_iff_not, beq_iff_eq, bne_iff_ne, ne_eq, Bool.not_eq_true, beq_eq_false_iff_ne, bne_eq_false_iff_eq, Int.not_lt, Int.not_le, Decidable.not_not] at hc)) | refine sim_skip ?_ | refine sim_ret ?_ | refine sim_exit ?_ | refine sim_block ?_)))
        all_goals rfl
      · rw [if_neg h6]
        rcases hxl with rfl | rfl
        all_goals rcases hk with ⟨h3, rfl⟩ | ⟨h3, rfl⟩
        all_goals
          (repeat' (first | (refine is_ops ?_; first | refine x_auto tok rfl rfl ?_ | (refine is_call ?_; (first | (refine is_fn 25 ?_; first | refine x_q (stp_call (m1) rfl rfl rfl rfl rfl) rfl ?_ | refine x_w (stp_call (m1) rfl rfl rfl rfl rfl) rfl rfl rfl ?_ | refine x_d (stp_call (m1) rfl rfl rfl rfl rfl) rfl rfl rfl ?_) | (refine is_fn 25 ?_; first | refine x_q (stp_call (m2) rfl rfl rfl rfl rfl) rfl ?_ | refine x_w (stp_call (m2) rfl rfl rfl rfl rfl) rfl rfl rfl ?_ | refine x_d (stp_call (m2) rfl rfl rfl rfl rfl) rfl rfl rfl ?_) | (refine is_fn 25 ?_; first | refine x_q (stp_call (m3) rfl rfl rfl rfl rfl) rfl ?_ | refine x_w (stp_call (m3) rfl rfl rfl rfl rfl) rfl rfl rfl ?_ | refine x_d (stp_call (m3) rfl rfl rfl rfl rfl) rfl rfl rfl ?_) | (refine is_fn 25 ?_; first | refine x_q (stp_call (m4) rfl rfl rfl rfl rfl) rfl ?_ | refine x_w (stp_call (m4) rfl rfl rfl rfl rfl) rfl rfl rfl ?_ | refine x_d (stp_call (m4) rfl rfl rfl rfl rfl) rfl rfl rfl ?_) | (refine is_fn 26 ?_; first | refine x_q (stp_call (s1) rfl rfl rfl rfl rfl) rfl ?_ | refine x_w (stp_call (s1) rfl rfl rfl rfl rfl) rfl rfl rfl ?_ | refine x_d (stp_call (s1) rfl rfl rfl rfl rfl) rfl rfl rfl ?_) | (refine is_fn 27 ?_; first | refine x_q (stp_call (s2) rfl rfl rfl rfl rfl) rfl ?_ | refine x_w (stp_call (s2) rfl rfl rfl rfl rfl) rfl rfl rfl ?_ | refine x_d (stp_call (s2) rfl rfl rfl rfl rfl) rfl rfl rfl ?_) | (refine is_fn 28 ?_; first | refine x_q (stp_call (r1) rfl rfl rfl rfl rfl) rfl ?_ | refine x_w (stp_call (r1) rfl rfl rfl rfl rfl) rfl rfl rfl ?_ | refine x_d (stp_call (r1) rfl rfl rfl rfl rfl) rfl rfl rfl ?_) | (refine is_fn 29 ?_; first | refine x_q (stp_call (r2) rfl rfl rfl rfl rfl) rfl ?_ | refine x_w (stp_call (r2) rfl rfl rfl rfl rfl) rfl rfl rfl ?_ | refine x_d (stp_call (r2) rfl rfl rfl rfl rfl) rfl rfl rfl ?_) | (refine is_fn 22 ?_; first | refine x_q (stp_call (a1) rfl rfl rfl rfl rfl) rfl ?_ | refine x_w (stp_call (a1) rfl rfl rfl rfl rfl) rfl rfl rfl ?_ | refine x_d (stp_call (a1) rfl rfl rfl rfl rfl) rfl rfl rfl ?_) | (refine is_fn 22 ?_; first | refine x_q (stp_call (a2) rfl rfl rfl rfl rfl) rfl ?_ | refine x_w (stp_call (a2) rfl rfl rfl rfl rfl) rfl rfl rfl ?_ | refine x_d (stp_call (a2) rfl rfl rfl rfl rfl) rfl rfl rfl ?_) | (refine is_fn 20 ?_; first | refine x_q (stp_call (p1) rfl rfl rfl rfl rfl) rfl ?_ | refine x_w (stp_call (p1) rfl rfl rfl rfl rfl) rfl rfl rfl ?_ | refine x_d (stp_call (p1) rfl rfl rfl rfl rfl) rfl rfl rfl ?_) | (refine is_fn 21 ?_; first | refine x_q (stp_call (p2) rfl rfl rfl rfl rfl) rfl ?_ | refine x_w (stp_call (p2) rfl rfl rfl rfl rfl) rfl rfl rfl ?_ | refine x_d (stp_call (p2) rfl rfl rfl rfl rfl) rfl rfl rfl ?_) | (refine is_fn 19 ?_; first | refine x_q (stp_call (p3) rfl rfl rfl rfl rfl) rfl ?_ | refine x_w (stp_call (p3) rfl rfl rfl rfl rfl) rfl rfl rfl ?_ | refine x_d (stp_call (p3) rfl rfl rfl rfl rfl) rfl rfl rfl ?_))) | (refine is_grd ?_; first | refine x_on rfl rfl ?_ | refine x_off rfl rfl rfl rfl ?_ | (refine x_gsplit rfl rfl (fun hc => ?_) (fun hc => ?_) <;> (try simp only [cmpB, decide_eq_true_eq, decide_eq_false_iff_not, beq_iff_eq, bne_iff_ne, ne_eq, Bool.not_eq_true, beq_eq_false_iff_ne, bne_eq_false_iff_eq, Int.not_lt, Int.not_le, Decidable.not_not] at hc))) | (refine is_bin ?_; first | refine x_q (stp_cmp_t rfl rfl rfl (by unfold cmpP; omega)) rfl ?_ | refine x_q (stp_cmp_f rfl rfl rfl (by unfold cmpP; omega)) rfl ?_ | refine x_q (stp_cmp rfl rfl rfl) rfl ?_ | refine x_q (stp_add rfl rfl ⟨by omega, by omega⟩) rfl ?_ | refine x_q (stp_sub rfl rfl ⟨by omega, by omega⟩) rfl ?_ | refine x_q (stp_mul rfl rfl ⟨by omega, by omega⟩) rfl ?_ | refine x_q (stp_quo rfl rfl (by assumption) (by omega)) rfl ?_ | refine x_q (stp_rem rfl rfl (by omega)) rfl ?_ | refine x_q (stp_xor rfl rfl) rfl ?_ | refine x_q (stp_shlI rfl rfl (by omega)) rfl ?_ | refine x_q (stp_shrI rfl rfl (by omega)) rfl ?_ | refine x_q (stp_shift (.inl ⟨rfl, rfl⟩) rfl rfl (by omega)) rfl ?_ | refine x_q (stp_shift (.inr ⟨rfl, rfl⟩) rfl rfl (by omega)) rfl ?_ | refine x_q (stp_bool2 tok rfl rfl rfl rfl (.inl ⟨rfl, rfl⟩)) rfl ?_ | refine x_q (stp_bool2 tok rfl rfl rfl rfl (.inr ⟨rfl, rfl⟩)) rfl ?_ | refine x_q (stp_eqlNil tok (.inl ⟨rfl, rfl⟩) rfl rfl rfl) rfl ?_ | refine x_q (stp_eqlNil_not tok (.inl ⟨rfl, rfl⟩) rfl rfl rfl rfl) rfl ?_ | refine x_q (stp_andI rfl rfl) rfl ?_ | refine x_q (stp_orI rfl rfl) rfl ?_ | refine x_q (stp_bicI rfl rfl) rfl ?_ | refine x_q (stp_strEqV rfl rfl (by assumption)) rfl ?_ | refine x_q (stp_strEq rfl rfl) rfl ?_ | refine x_q (stp_strNeV rfl rfl (by assumption)) rfl ?_ | refine x_q (stp_strNe rfl rfl) rfl ?_) | (refine is_idx ?_; first | refine x_q (stp_indexAddr_sl tok rfl rfl rfl rfl rfl (by omega) (by first | rfl | assumption) rfl rfl) rfl ?_ | refine x_q (stp_indexAddr_r0 tok rfl rfl rfl rfl rfl rfl (by omega) (by omega) rfl) rfl ?_ | refine x_q (stp_indexAddr_box tok rfl rfl rfl rfl rfl rfl (by omega) (by omega)) rfl ?_) | (refine is_load ?_; first | refine x_q (stp_load_fp1 tok rfl rfl rfl (by first | rfl | assumption) rfl) rfl ?_ | refine x_q (stp_load_fpa tok rfl rfl rfl (by first | rfl | assumption) rfl) rfl ?_ | refine x_q (stp_load_arr1 tok rfl rfl rfl rfl (by first | rfl | assumption) rfl) rfl ?_ | refine x_q (stp_load_arra tok rfl rfl rfl rfl (by first | rfl | assumption) rfl) rfl ?_) | (refine is_fad ?_; first | refine x_q (stp_fieldAddr_arr tok rfl rfl rfl rfl rfl rfl rfl rfl) rfl ?_ | refine x_q (stp_fieldAddr_fp tok rfl (by first | rfl | assumption) rfl rfl rfl rfl rfl rfl) rfl ?_) | (refine is_app ?_; first | refine x_appref0 tok rfl rfl rfl rfl rfl rfl rfl (by first | (intro y hy; cases hy; rfl) | exact map_hd _ _ (fun _ => rfl)) rfl rfl rfl (by first | omega | (simp; done) | (simp; omega)) rfl ?_ | refine x_appref tok rfl rfl rfl rfl rfl rfl rfl rfl rfl rfl rfl (by first | (intro y hy; cases hy; rfl) | exact map_hd _ _ (fun _ => rfl)) (by first | omega | (simp; done) | (simp; omega)) rfl ?_) | (refine is_un ?_; first | refine x_q (stp_neg rfl ⟨by omega, by omega⟩) rfl ?_) | (refine is_conv ?_; first | refine x_q (stp_conv_in tok rfl rfl rfl rfl ⟨by omega, by omega⟩) rfl ?_ | refine x_q (stp_conv tok rfl rfl rfl rfl) rfl ?_ | refine x_q (stp_convStr tok rfl rfl rfl rfl rfl rfl rfl (by first | rfl | assumption)) rfl ?_) | (refine is_slc ?_; first | refine x_slcL tok rfl rfl rfl rfl rfl (by first | (intro y hy; cases hy; rfl) | exact map_hd _ _ (fun _ => rfl) | (simp; done)) (by omega) (by simp; omega) (by first | exact List.map_drop.symm | rfl) rfl ?_ | refine x_slcH tok rfl rfl rfl rfl rfl (by first | (intro y hy; cases hy; rfl) | exact map_hd _ _ (fun _ => rfl) | (simp; done)) (by omega) (by simp; omega) (by first | exact List.map_take.symm | rfl) rfl ?_) | (refine is_mks ?_; refine x_mks tok rfl rfl rfl rfl rfl rfl rfl rfl rfl rfl rfl rfl rfl (by omega) (by omega) rfl rfl rfl ?_) | refine x_autow tok rfl rfl rfl rfl ?_ | (refine is_sto ?_; first | refine x_autos tok rfl rfl rfl ?_ | refine x_stoa tok rfl rfl rfl (by first | rfl | assumption) rfl rfl rfl rfl rfl rfl ?_ | refine x_sto1 tok rfl rfl rfl (by first | rfl | assumption) rfl rfl rfl rfl rfl rfl rfl rfl ?_) | refine x_nil ?_ | refine x_nilD (by kernel_rfl) ?_) | (first | refine sim_seq ?_ | refine x_region ?_ | refine x_draw rfl ?_ | refine sim_cond_true rfl ?_ | refine sim_cond_false rfl ?_ | (refine sim_cond rfl (fun hc => ?_) (fun hc => ?_) <;> (try simp only [cmpB, decide_eq_true_eq, decide_eq_false_iff_not, beq_iff_eq, bne_iff_ne, ne_eq, Bool.not_eq_true, beq_eq_false_iff_ne, bne_eq_false_iff_eq, Int.not_lt, Int.not_le, Decidable.not_not] at hc)) | refine sim_skip ?_ | refine sim_ret ?_ | refine sim_exit ?_ | refine sim_block ?_)))
        all_goals rfl
    · clear CN
      (have zc1 := aw; refine WW ?_; clear zc1)
      exact fin_ret [] rfl rfl rfl rfl
/-! ### Signals that a law is handed -/
section
variable {H : Type} {eh : TypeId × Value → H} {w : World}
def liE (l : Li) : List AV := [iA l.lamp, iA l.tk]
def ctE0 (c : Ct) : List AV := [slA liA c.li, iA c.gr, slA iA c.nx, iA c.wt]
theorem reads_li : Reads eh Try.prog w 53 liE (fun _ => True) :=
  (reads_struct Try.underlying53 (by kernel_rfl) (.cons 1 (reads_int Try.underlying3) rfl (by kernel_rfl) (fun _ => rfl) (.cons 1 (reads_int Try.underlying3) rfl (by kernel_rfl) (fun _ => rfl) (.nil 2)))).map (fun p => ⟨p.1, p.2.1⟩) (fun _ => rfl) (fun _ _ => trivial)
theorem reads_lis : Reads eh Try.prog w 22 (fun l : List Li => [slA liA l]) (fun l => l.length ≤ 9223372036854775807) :=
  (reads_slice (sz := 2) Try.underlying22 true reads_li (by kernel_rfl) rfl (fun x h => by cases h)).map id (fun _ => rfl) (fun _ h => h.1)
theorem reads_ct : Reads eh Try.prog w 25 ctE0 (fun c => c.li.length ≤ 9223372036854775807 ∧ c.nx.length ≤ 9223372036854775807) :=
  (reads_struct Try.underlying25 (by kernel_rfl) (.cons 1 reads_lis rfl (by kernel_rfl) (fun _ => rfl) (.cons 1 (reads_int Try.underlying3) rfl (by kernel_rfl) (fun _ => rfl)
    (.cons 1 (reads_slice (sz := 1) Try.underlying23 false (reads_int Try.underlying3) (by kernel_rfl) rfl (fun x _ => ⟨_, rfl, rfl⟩)) rfl (by kernel_rfl) (fun _ => rfl) (.cons 1 (reads_int Try.underlying3) rfl (by kernel_rfl) (fun _ => rfl) (.nil 4)))))).map
    (fun p => ⟨p.1, p.2.1, p.2.2.1, p.2.2.2.1⟩) (fun _ => rfl) (fun _ h => ⟨h.1, h.2.2.1.1⟩)
def sgE (s : Sg) : List AV := ctE0 s.c ++ ([bA s.lat] ++ [])
theorem reads_sg : Reads eh Try.prog w 27 sgE (fun s => s.c.li.length ≤ 9223372036854775807 ∧ s.c.nx.length ≤ 9223372036854775807) :=
  (reads_struct Try.underlying27 (by kernel_rfl) (.cons 4 reads_ct rfl (by kernel_rfl) (fun _ => rfl) (.cons 1 (reads_bool Try.underlying4) rfl (by kernel_rfl) (fun _ => rfl) (.nil 5)))).map
    (fun p => ⟨p.1, p.2.1⟩) (fun _ => rfl) (fun _ h => h.1)
theorem jsteps_w (raw : Sg) (hr : raw.c.li.length ≤ 9223372036854775807 ∧ raw.c.nx.length ≤ 9223372036854775807) (l : List Int) (hl : l.length ≤ 9223372036854775807) (m : List Int) (hm : m.length ≤ 9223372036854775807) (ts : List Int) (hts : ts.length ≤ 9223372036854775807) (hir : ∀ x ∈ ts, InR .i64 x) : CallSim Try.prog 3 [.agg (sgE raw), slA iA l, slA iA m, slA iA ts] [] (bA true) [] := jsteps_c raw hr l hl m hm ts hts hir
end
end Av
end Go.Proofs.Ytkliodbbcblobaa
