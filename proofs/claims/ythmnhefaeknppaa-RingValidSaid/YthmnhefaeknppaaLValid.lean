/- The law RingValid. -/
import Derived.Test.YthmnhefaeknppaaRjF
import Derived.Test.YthmnhefaeknppaaAvu
namespace Go.Proofs.Ythmnhefaeknppaa
namespace Av
set_option linter.unusedSimpArgs false
set_option linter.unusedVariables false
set_option maxRecDepth 4000
set_option maxHeartbeats 1000000
theorem quo_in (b : Int) (h : InR .i64 b) (n : Int) (hn : 1 ≤ n) : InR .i64 (b.tdiv n) := by
  unfold InR at h ⊢
  have e1 : IntKind.i64.min = -9223372036854775808 := by decide
  have e2 : IntKind.i64.max = 9223372036854775807 := by decide
  rw [e1, e2] at *
  have h1 : (b.tdiv n).natAbs ≤ b.natAbs := by
    rw [Int.natAbs_tdiv]
    exact Nat.div_le_self _ _
  by_cases hb : 0 ≤ b
  · have h3 : 0 ≤ b.tdiv n := Int.tdiv_nonneg hb (by omega)
    omega
  · have h3 : b.tdiv n ≤ 0 := by
      have := Int.tdiv_nonneg (a := -b) (b := n) (by omega) (by omega)
      rw [Int.neg_tdiv] at this
      omega
    omega
theorem rcopyW_c (c : Ct) (h1 : c.li.length ≤ 1000) (h2 : c.nx.length ≤ 1000) : CallSim Try.prog 34 [ctA c] [] (ctA c) [] := by
  have hl := map_len liA c.li
  have hl2 := map_len iA c.nx
  (refine callSim_of tok Try.func34 rfl (fun args w => Try.call34 args w) rfl rfl rfl (fun F hF => ?_))
  (refine WL ?_)
  exact fin_ret [] rfl rfl rfl rfl
def bnF (c : Ct) (w b : Int) : Ct :=
  if w % 5 = 0 then ⟨c.li.set (b % c.li.length).toNat ⟨b.tdiv 8 % 5, b.tdiv 40 % 3⟩, c.gr, c.nx, c.wt⟩
  else if w % 5 = 1 then ⟨c.li, b % 5 - 1, c.nx, c.wt⟩
  else if w % 5 = 2 then ⟨c.li, c.gr, c.nx.set (b % c.nx.length).toNat (b.tdiv 2 % 10 - 2), c.wt⟩
  else if w % 5 = 3 then ⟨c.li, c.gr, c.nx, b % 5 - 1⟩
  else ⟨c.li, c.gr, c.nx.drop 1, c.wt⟩
theorem bnF_li (c : Ct) (w b : Int) : (bnF c w b).li.length = c.li.length := by
  unfold bnF
  repeat' split
  all_goals simp
theorem bent_c (c : Ct) (h1 : 1 ≤ c.li.length ∧ c.li.length ≤ 1000) (h2 : 1 ≤ c.nx.length ∧ c.nx.length ≤ 1000) (w b : Int) (hb : InR .i64 b) : CallSim Try.prog 16 [ctA c, iA w, iA b] [] (ctA (bnF c w b)) [] := by
  have hl := map_len liA c.li
  have hl2 := map_len iA c.nx
  have kO := copyC_own c (by omega) (by omega)
  have kW := rcopyW_c c (by omega) (by omega)
  have mw := mod_c w 5 (by omega) (by omega)
  have m5 := mod_c b 5 (by omega) (by omega)
  have q8 := quo_in b hb 8 (by omega)
  have q40 := quo_in b hb 40 (by omega)
  have q2 := quo_in b hb 2 (by omega)
  have m8 := mod_c (b.tdiv 8) 5 (by omega) (by omega)
  have m40 := mod_c (b.tdiv 40) 3 (by omega) (by omega)
  have m2 := mod_c (b.tdiv 2) 10 (by omega) (by omega)
  have mL := mod_c b (c.li.map liA).length (by omega) (by omega)
  have mN := mod_c b (c.nx.map iA).length (by omega) (by omega)
  have b2 : 0 ≤ b.tdiv 2 % 10 ∧ b.tdiv 2 % 10 < 10 := by omega
  have b5 : 0 ≤ b % 5 ∧ b % 5 < 5 := by omega
  have bL : 0 ≤ b % ((c.li.map liA).length : Int) ∧ b % ((c.li.map liA).length : Int) < ((c.li.map liA).length : Int) := ⟨Int.emod_nonneg _ (by omega), Int.emod_lt_of_pos _ (by omega)⟩
  have bN : 0 ≤ b % ((c.nx.map iA).length : Int) ∧ b % ((c.nx.map iA).length : Int) < ((c.nx.map iA).length : Int) := ⟨Int.emod_nonneg _ (by omega), Int.emod_lt_of_pos _ (by omega)⟩
  have bW : 0 ≤ w % 5 ∧ w % 5 < 5 := by omega
  unfold bnF
  generalize b.tdiv 8 % 5 = v8 at *
  generalize b.tdiv 40 % 3 = v40 at *
  generalize b.tdiv 2 % 10 = v2 at *
  by_cases w0 : w % 5 = 0
  · rw [if_pos w0]
    have e : ctA ⟨c.li.set (b % c.li.length).toNat ⟨v8, v40⟩, c.gr, c.nx, c.wt⟩ = .agg [.sl false (((c.li.map liA).set (b % ((c.li.map liA).length : Int)).toNat (liA ⟨v8, v40⟩)).take (c.li.map liA).length), iA c.gr, .sl false ((c.nx.map iA).take (c.nx.map iA).length), iA c.wt] := by
      unfold ctA slA
      rw [List.take_of_length_le (by simp), List.take_length, List.map_set, hl]
    generalize hx : b % ((c.li.map liA).length : Int) = x at *
    have hy := map_atI liA c.li x bL.1 (by omega)
    generalize w % 5 = w5 at *
    clear kW m5 mN hx
    (refine callSim_of tok Try.func16 rfl (fun args w => Try.call16 args w) rfl rfl rfl (fun F hF => ?_))
    (have zc1 := kO; have zc2 := mw; have zc3 := mL; have zc4 := m8; have zc5 := m40; refine WW ?_; clear zc1 zc2 zc3 zc4 zc5)
    exact fin_ret [] rfl rfl e.symm rfl
  rw [if_neg w0]
  by_cases w1 : w % 5 = 1
  · rw [if_pos w1]
    generalize b % 5 = v5 at *
    generalize w % 5 = w5 at *
    (refine callSim_of tok Try.func16 rfl (fun args w => Try.call16 args w) rfl rfl rfl (fun F hF => ?_))
    (have zc1 := kW; have zc2 := mw; have zc3 := m5; refine WW ?_; clear zc1 zc2 zc3)
    exact fin_ret [] rfl rfl rfl rfl
  rw [if_neg w1]
  by_cases w2 : w % 5 = 2
  · rw [if_pos w2]
    have e : ctA ⟨c.li, c.gr, c.nx.set (b % c.nx.length).toNat (v2 - 2), c.wt⟩ = .agg [.sl false ((c.li.map liA).take (c.li.map liA).length), iA c.gr, .sl false (((c.nx.map iA).set (b % ((c.nx.map iA).length : Int)).toNat (iA (v2 - 2))).take (c.nx.map iA).length), iA c.wt] := by
      unfold ctA slA
      rw [List.take_length, List.take_of_length_le (by simp), List.map_set, hl2]
    generalize hx : b % ((c.nx.map iA).length : Int) = x at *
    have hy := map_atI iA c.nx x bN.1 (by omega)
    generalize w % 5 = w5 at *
    clear kW m5 mL hx
    (refine callSim_of tok Try.func16 rfl (fun args w => Try.call16 args w) rfl rfl rfl (fun F hF => ?_))
    (have zc1 := kO; have zc2 := mw; have zc3 := mN; have zc4 := m2; refine WW ?_; clear zc1 zc2 zc3 zc4)
    exact fin_ret [] rfl rfl e.symm rfl
  rw [if_neg w2]
  by_cases w3 : w % 5 = 3
  · rw [if_pos w3]
    generalize b % 5 = v5 at *
    generalize w % 5 = w5 at *
    (refine callSim_of tok Try.func16 rfl (fun args w => Try.call16 args w) rfl rfl rfl (fun F hF => ?_))
    (have zc1 := kW; have zc2 := mw; have zc3 := m5; refine WW ?_; clear zc1 zc2 zc3)
    exact fin_ret [] rfl rfl rfl rfl
  rw [if_neg w3]
  generalize w % 5 = w5 at *
  (refine callSim_of tok Try.func16 rfl (fun args w => Try.call16 args w) rfl rfl rfl (fun F hF => ?_))
  (have zc1 := kW; have zc2 := mw; refine WW ?_; clear zc1 zc2)
  exact fin_ret [] rfl rfl rfl rfl
theorem light_c (c : Ct) (h1 : c.li.length ≤ 9223372036854775807) (h2 : c.nx.length ≤ 9223372036854775807) : CallSim Try.prog 11 [ctA c] [] (bA (decide (c.li.length ≤ 20 ∧ c.nx.length ≤ 20))) [] := by
  have hl := map_len liA c.li
  have hl2 := map_len iA c.nx
  by_cases a : c.li.length ≤ 20
  · by_cases b : c.nx.length ≤ 20
    · rw [decide_eq_true ⟨a, b⟩]
      (refine callSim_of tok Try.func11 rfl (fun args w => Try.call11 args w) rfl rfl rfl (fun F hF => ?_))
      (refine WW ?_)
      exact fin_ret [] rfl rfl rfl rfl
    · rw [decide_eq_false (fun h => b h.2)]
      (refine callSim_of tok Try.func11 rfl (fun args w => Try.call11 args w) rfl rfl rfl (fun F hF => ?_))
      (refine WW ?_)
      exact fin_ret [] rfl rfl rfl rfl
  · rw [decide_eq_false (fun h => a h.1)]
    (refine callSim_of tok Try.func11 rfl (fun args w => Try.call11 args w) rfl rfl rfl (fun F hF => ?_))
    (refine WW ?_)
    exact fin_ret [] rfl rfl rfl rfl
instance : Inhabited Ct := ⟨⟨[], 0, [], 0⟩⟩
theorem valid_c (raw : Ct) (hr : raw.li.length ≤ 9223372036854775807 ∧ raw.nx.length ≤ 9223372036854775807) (l : List Int) (hl : l.length ≤ 9223372036854775807) (m : List Int) (hm : m.length ≤ 9223372036854775807) (w b : Int) (hb : InR .i64 b) : CallSim Try.prog 3 [ctA raw, slA iA l, slA iA m, iA w, iA b] [] (bA true) [] := by
  have aw := awake09_c
  have cl := light_c raw hr.1 hr.2
  cases hlg : decide (raw.li.length ≤ 20 ∧ raw.nx.length ≤ 20) with
  | false =>
    rw [hlg] at cl
    (refine callSim_of tok Try.func3 rfl (fun args w => Try.call3 args w) rfl rfl rfl (fun F hF => ?_))
    (have zc1 := cl; have zc2 := aw; refine WL ?_; clear zc1 zc2)
    exact fin_ret [] rfl rfl rfl rfl
  | true =>
  rw [hlg] at cl
  rw [decide_eq_true_eq] at hlg
  have hn := new_c l hl
  have hn2 := new_c m hm
  generalize (⟨l, 0, Nat.zero_le _, hl⟩ : Dk) = d0 at *
  generalize (⟨m, 0, Nat.zero_le _, hm⟩ : Dk) = e0 at *
  have cj := junction_c d0
  have J := jv_jnF d0
  generalize jnF d0 = j at *
  generalize jnD d0 = d1 at *
  have hjn := J.n
  have hjc := J.c
  have cc := control_c j J e0
  have CC := ctF_v J e0
  generalize ctF j e0 = c0 at *
  generalize ctD j e0 = e1 at *
  have C0n := CC.n
  have C0m := CC.m
  have cb := bent_c c0 (by omega) (by omega) w b hb
  have hbl := bnF_li c0 w b
  generalize bnF c0 w b = c1 at *
  have hlp := map_len phA j.ph
  have i1 := init_c j (by omega)
  have i2 := rinit_c j (by omega)
  have CI := cv_in J
  have is := csame_c (inF j) (by have := CI.n; omega) (by have := CI.m; omega)
  have vv := vring_c j J.b c0
  rw [vcF_CV J CC] at vv
  (refine callSim_of tok Try.func3 rfl (fun args w => Try.call3 args w) rfl rfl rfl (fun F hF => ?_))
  (repeat' (first | (refine is_ops ?_; first | refine x_auto tok rfl rfl ?_ | (refine is_call ?_; (first | (refine is_fn 11 ?_; first | refine x_q (stp_call (cl) rfl rfl rfl rfl rfl) rfl ?_ | refine x_w (stp_call (cl) rfl rfl rfl rfl rfl) rfl rfl rfl ?_ | refine x_d (stp_call (cl) rfl rfl rfl rfl rfl) rfl rfl rfl ?_) | (refine is_fn 12 ?_; first | refine x_q (stp_call (aw) rfl rfl rfl rfl rfl) rfl ?_ | refine x_w (stp_call (aw) rfl rfl rfl rfl rfl) rfl rfl rfl ?_ | refine x_d (stp_call (aw) rfl rfl rfl rfl rfl) rfl rfl rfl ?_) | (refine is_fn 13 ?_; first | refine x_q (stp_call (hn) rfl rfl rfl rfl rfl) rfl ?_ | refine x_w (stp_call (hn) rfl rfl rfl rfl rfl) rfl rfl rfl ?_ | refine x_d (stp_call (hn) rfl rfl rfl rfl rfl) rfl rfl rfl ?_) | (refine is_fn 14 ?_; first | refine x_q (stp_call (cj) rfl rfl rfl rfl rfl) rfl ?_ | refine x_w (stp_call (cj) rfl rfl rfl rfl rfl) rfl rfl rfl ?_ | refine x_d (stp_call (cj) rfl rfl rfl rfl rfl) rfl rfl rfl ?_))) | (refine is_grd ?_; first | refine x_on rfl rfl ?_ | refine x_off rfl rfl rfl rfl ?_ | (refine x_gsplit rfl rfl (fun hc => ?_) (fun hc => ?_) <;> (try simp only [cmpB, decide_eq_true_eq, decide_eq_false_iff_not, beq_iff_eq, bne_iff_ne, ne_eq, Bool.not_eq_true, beq_eq_false_iff_ne, bne_eq_false_iff_eq, Int.not_lt, Int.not_le, Decidable.not_not] at hc))) | (refine is_bin ?_; first | refine x_q (stp_cmp_t rfl rfl rfl (by unfold cmpP; omega)) rfl ?_ | refine x_q (stp_cmp_f rfl rfl rfl (by unfold cmpP; omega)) rfl ?_ | refine x_q (stp_cmp rfl rfl rfl) rfl ?_ | refine x_q (stp_add rfl rfl ⟨by omega, by omega⟩) rfl ?_ | refine x_q (stp_sub rfl rfl ⟨by omega, by omega⟩) rfl ?_ | refine x_q (stp_mul rfl rfl ⟨by omega, by omega⟩) rfl ?_ | refine x_q (stp_quo rfl rfl (by assumption) (by omega)) rfl ?_ | refine x_q (stp_rem rfl rfl (by omega)) rfl ?_ | refine x_q (stp_xor rfl rfl) rfl ?_ | refine x_q (stp_shlI rfl rfl (by omega)) rfl ?_ | refine x_q (stp_shrI rfl rfl (by omega)) rfl ?_ | refine x_q (stp_shift (.inl ⟨rfl, rfl⟩) rfl rfl (by omega)) rfl ?_ | refine x_q (stp_shift (.inr ⟨rfl, rfl⟩) rfl rfl (by omega)) rfl ?_ | refine x_q (stp_bool2 tok rfl rfl rfl rfl (.inl ⟨rfl, rfl⟩)) rfl ?_ | refine x_q (stp_bool2 tok rfl rfl rfl rfl (.inr ⟨rfl, rfl⟩)) rfl ?_ | refine x_q (stp_eqlNil tok (.inl ⟨rfl, rfl⟩) rfl rfl rfl) rfl ?_ | refine x_q (stp_eqlNil_not tok (.inl ⟨rfl, rfl⟩) rfl rfl rfl rfl) rfl ?_ | refine x_q (stp_andI rfl rfl) rfl ?_ | refine x_q (stp_orI rfl rfl) rfl ?_ | refine x_q (stp_bicI rfl rfl) rfl ?_ | refine x_q (stp_strEqV rfl rfl (by assumption)) rfl ?_ | refine x_q (stp_strEq rfl rfl) rfl ?_ | refine x_q (stp_strNeV rfl rfl (by assumption)) rfl ?_ | refine x_q (stp_strNe rfl rfl) rfl ?_) | (refine is_idx ?_; first | refine x_q (stp_indexAddr_sl tok rfl rfl rfl rfl rfl (by omega) (by first | rfl | assumption) rfl rfl) rfl ?_ | refine x_q (stp_indexAddr_r0 tok rfl rfl rfl rfl rfl rfl (by omega) (by omega) rfl) rfl ?_ | refine x_q (stp_indexAddr_box tok rfl rfl rfl rfl rfl rfl (by omega) (by omega)) rfl ?_) | (refine is_load ?_; first | refine x_q (stp_load_fp1 tok rfl rfl rfl (by first | rfl | assumption) rfl) rfl ?_ | refine x_q (stp_load_fpa tok rfl rfl rfl (by first | rfl | assumption) rfl) rfl ?_ | refine x_q (stp_load_arr1 tok rfl rfl rfl rfl (by first | rfl | assumption) rfl) rfl ?_ | refine x_q (stp_load_arra tok rfl rfl rfl rfl (by first | rfl | assumption) rfl) rfl ?_) | (refine is_fad ?_; first | refine x_q (stp_fieldAddr_arr tok rfl rfl rfl rfl rfl rfl rfl rfl) rfl ?_ | refine x_q (stp_fieldAddr_fp tok rfl (by first | rfl | assumption) rfl rfl rfl rfl rfl rfl) rfl ?_) | (refine is_app ?_; first | refine x_appref0 tok rfl rfl rfl rfl rfl rfl rfl (by first | (intro y hy; cases hy; rfl) | exact map_hd _ _ (fun _ => rfl)) rfl rfl rfl (by first | omega | (simp; done) | (simp; omega)) rfl ?_ | refine x_appref tok rfl rfl rfl rfl rfl rfl rfl rfl rfl rfl rfl (by first | (intro y hy; cases hy; rfl) | exact map_hd _ _ (fun _ => rfl)) (by first | omega | (simp; done) | (simp; omega)) rfl ?_) | (refine is_un ?_; first | refine x_q (stp_neg rfl ⟨by omega, by omega⟩) rfl ?_) | (refine is_conv ?_; first | refine x_q (stp_conv_in tok rfl rfl rfl rfl ⟨by omega, by omega⟩) rfl ?_ | refine x_q (stp_conv tok rfl rfl rfl rfl) rfl ?_ | refine x_q (stp_convStr tok rfl rfl rfl rfl rfl rfl rfl (by first | rfl | assumption)) rfl ?_) | (refine is_slc ?_; first | refine x_slcL tok rfl rfl rfl rfl rfl (by first | (intro y hy; cases hy; rfl) | exact map_hd _ _ (fun _ => rfl) | (simp; done)) (by omega) (by simp; omega) (by first | exact List.map_drop.symm | rfl) rfl ?_ | refine x_slcH tok rfl rfl rfl rfl rfl (by first | (intro y hy; cases hy; rfl) | exact map_hd _ _ (fun _ => rfl) | (simp; done)) (by omega) (by simp; omega) (by first | exact List.map_take.symm | rfl) rfl ?_) | fail | refine x_autow tok rfl rfl rfl rfl ?_ | (refine is_sto ?_; first | refine x_autos tok rfl rfl rfl ?_ | refine x_stoa tok rfl rfl rfl (by first | rfl | assumption) rfl rfl rfl rfl rfl rfl ?_ | refine x_sto1 tok rfl rfl rfl (by first | rfl | assumption) rfl rfl rfl rfl rfl rfl rfl rfl ?_) | refine x_nil ?_ | refine x_nilD (by kernel_rfl) ?_) | (first | refine sim_seq ?_ | refine x_region ?_ | refine sim_cond_true rfl ?_ | refine sim_cond_false rfl ?_ | refine sim_skip ?_ | refine sim_ret ?_ | refine sim_exit ?_)))
  refine sim_restr (st' := ⟨[(2, slA iA m), (3, iA w), (4, iA b), (5, .ptr 5 0 0), (10, bA false), (11, .ptr 11 0 0)], [(5, .box [slA liA raw.li, iA raw.gr, slA iA raw.nx, iA raw.wt]), (11, .box [slA phA j.ph, slA iA j.cf, iA j.st])]⟩) [5, 11] [2, 3, 4, 5, 10, 11] rfl rfl ?_
  clear cj hn cl
  have hl3 : ([AV.agg [AV.sl false (raw.li.map liA), AV.s (.int .i64 raw.gr), AV.sl false (raw.nx.map iA), AV.s (.int .i64 raw.wt)], AV.agg [AV.sl false (c0.li.map liA), AV.s (.int .i64 c0.gr), AV.sl false (c0.nx.map iA), AV.s (.int .i64 c0.wt)], AV.agg [slA liA c1.li, iA c1.gr, slA iA c1.nx, iA c1.wt]] : List AV).length = 3 := rfl
  obtain ⟨N3, hN3⟩ : ∃ n : Nat, n = 3 := ⟨3, rfl⟩
  (have zc1 := hn2; have zc2 := cc; have zc3 := cb; refine WL ?_; clear zc1 zc2 zc3)
  (refine sim_cnt (N3) [11, 12] [11, 12] [11, 12, 32, 33] [34, 11, 12, 32, 33] rfl (fun i T U => ⟨(34, iA i) :: T, U⟩) ?_; (conv => whnf); refine ⟨by rfl, ?_, ?_⟩)
  · intro k hk
    have hy := map_at ctA [raw, c0, c1] k (by simp; omega)
    change ([AV.agg [AV.sl false (raw.li.map liA), AV.s (.int .i64 raw.gr), AV.sl false (raw.nx.map iA), AV.s (.int .i64 raw.wt)], AV.agg [AV.sl false (c0.li.map liA), AV.s (.int .i64 c0.gr), AV.sl false (c0.nx.map iA), AV.s (.int .i64 c0.wt)], AV.agg [slA liA c1.li, iA c1.gr, slA iA c1.nx, iA c1.wt]] : List AV)[k]? = _ at hy
    have hx : ([raw, c0, c1].getD k default).li.length ≤ 20 := by
      have : k = 0 ∨ k = 1 ∨ k = 2 := by omega
      rcases this with rfl | rfl | rfl
      · exact hlg.1
      · show c0.li.length ≤ 20; omega
      · show c1.li.length ≤ 20; omega
    generalize [raw, c0, c1].getD k default = x at *
    have v1 := vring_c j J.b x
    have v2 := rvalid_c j J x
    have s1 := set_c x (by omega)
    have s2 := rset_c x (by omega)
    generalize vcF j x = v at *
    generalize seF x = se at *
    clear aw hn2 cc cb i1 i2 is vv CC CI hlg
    cases v with
    | false =>
      (have zc1 := v1; have zc2 := v2; have zc3 := s1; have zc4 := s2; refine WW ?_; clear zc1 zc2 zc3 zc4)
      rfl
    | true =>
      (have zc1 := v1; have zc2 := v2; have zc3 := s1; have zc4 := s2; refine WW ?_; clear zc1 zc2 zc3 zc4)
      rfl
  · clear hn2 cc cb CC CI
    generalize inF j = i0 at *
    (have zc1 := i1; have zc2 := i2; have zc3 := is; have zc4 := vv; have zc5 := aw; refine WL ?_; clear zc1 zc2 zc3 zc4 zc5)
    exact fin_ret [] rfl rfl rfl rfl
theorem wf_in {b : Int} (h : (Lit.int .i64 b).wf = true) : InR .i64 b := by
  unfold Lit.wf at h
  rw [Bool.and_eq_true, decide_eq_true_eq, decide_eq_true_eq] at h
  have e1 : IntKind.i64.min = -9223372036854775808 := by decide
  have e2 : IntKind.i64.max = 9223372036854775807 := by decide
  unfold InR
  omega
theorem valid_w (raw : Ct) (hr : raw.li.length ≤ 9223372036854775807 ∧ raw.nx.length ≤ 9223372036854775807) (l : List Int) (hl : l.length ≤ 9223372036854775807) (m : List Int) (hm : m.length ≤ 9223372036854775807) (w b : Int) (hb : (Lit.int .i64 b).wf = true) : CallSim Try.prog 3 [ctA raw, slA iA l, slA iA m, iA w, iA b] [] (bA true) [] := valid_c raw hr l hl m hm w b (wf_in hb)
/-! ### Controls that a law is handed -/
section
variable {H : Type} {eh : TypeId × Value → H} {w : World}
def liE (l : Li) : List AV := [iA l.lamp, iA l.tk]
def ctE0 (c : Ct) : List AV := [slA liA c.li, iA c.gr, slA iA c.nx, iA c.wt]
theorem reads_li : Reads eh Try.prog w 45 liE (fun _ => True) :=
  (reads_struct Try.underlying45 (by kernel_rfl) (.cons 1 (reads_int Try.underlying3) rfl (by kernel_rfl) (fun _ => rfl) (.cons 1 (reads_int Try.underlying3) rfl (by kernel_rfl) (fun _ => rfl) (.nil 2)))).map (fun p => ⟨p.1, p.2.1⟩) (fun _ => rfl) (fun _ _ => trivial)
theorem reads_lis : Reads eh Try.prog w 22 (fun l : List Li => [slA liA l]) (fun l => l.length ≤ 9223372036854775807) :=
  (reads_slice (sz := 2) Try.underlying22 true reads_li (by kernel_rfl) rfl (fun x h => by cases h)).map id (fun _ => rfl) (fun _ h => h.1)
theorem reads_ct : Reads eh Try.prog w 25 ctE0 (fun c => c.li.length ≤ 9223372036854775807 ∧ c.nx.length ≤ 9223372036854775807) :=
  (reads_struct Try.underlying25 (by kernel_rfl) (.cons 1 reads_lis rfl (by kernel_rfl) (fun _ => rfl) (.cons 1 (reads_int Try.underlying3) rfl (by kernel_rfl) (fun _ => rfl)
    (.cons 1 (reads_slice (sz := 1) Try.underlying23 false (reads_int Try.underlying3) (by kernel_rfl) rfl (fun x _ => ⟨_, rfl, rfl⟩)) rfl (by kernel_rfl) (fun _ => rfl) (.cons 1 (reads_int Try.underlying3) rfl (by kernel_rfl) (fun _ => rfl) (.nil 4)))))).map
    (fun p => ⟨p.1, p.2.1, p.2.2.1, p.2.2.2.1⟩) (fun _ => rfl) (fun _ h => ⟨h.1, h.2.2.1.1⟩)
end
end Av
end Go.Proofs.Ythmnhefaeknppaa
