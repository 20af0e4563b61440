
/- law17: vehicles, registered and removed: the program's and the reference's. -/
import Derived.Test.YtjbldhhgooihfaaGreatRgQ
import Derived.Test.YtjbldhhgooihfaaGreatAvad
namespace Go.Proofs.YtjbldhhgooihfaaGreat
namespace Av
set_option linter.unusedSimpArgs false
set_option linter.unusedVariables false
set_option maxRecDepth 4000
set_option maxHeartbeats 2000000
theorem vplace_c (l : List Vh) (id : Int) (hn : l.length ≤ 1000000) (k : Nat) (k1 : k ≤ l.length) (k2 : ∀ i, i < k → (l.getD i default).id < id) (k3 : k < l.length → ¬ (l.getD k default).id < id) : CallSim Tryz.prog 67 [slA vhA l, iA id] [] (iA k) [] := by
  have hll := map_len vhA l
  (refine callSim_of tok Tryz.func67 rfl (fun args w => Tryz.call67 args w) rfl rfl rfl (fun F hF => ?_))
  (refine WW ?_)
  (refine sim_cntP (l.length + 1) [] [] [0, 1] [5, 0, 1] rfl (fun i T U zs => (i ≤ k) ∧ zs = ⟨(5, iA i) :: T, U⟩) ?_; (conv => whnf); refine ⟨?_, ?_, ?_⟩)
  · exact ⟨Nat.zero_le _, rfl⟩
  · rintro i st hi ⟨hik, rfl⟩
    by_cases hlt : i < k
    · have hy := map_at vhA l i (by omega)
      have hh := k2 i hlt
      generalize l.getD i default = x at *
      (refine WW ?_)
      exact ⟨by omega, rfl⟩
    · obtain rfl : i = k := by omega
      by_cases hkl : i < l.length
      · have hy := map_at vhA l i hkl
        have hh := k3 hkl
        generalize l.getD i default = x at *
        (refine WW ?_)
        exact fin_ret [] rfl rfl rfl rfl
      · (refine WW ?_)
        exact fin_ret [] rfl rfl rfl rfl
  · rintro st ⟨hik, rfl⟩
    exfalso; omega
theorem vcount_c (l : List Vh) (c : Int) (hn : l.length ≤ 1000000) : CallSim Tryz.prog 99 [slA vhA l, iA c] [] (iA (countV l c)) [] := by
  have hl := map_len vhA l
  (refine callSim_of tok Tryz.func99 rfl (fun args w => Tryz.call99 args w) rfl rfl rfl (fun F hF => ?_))
  (refine WW ?_)
  (refine sim_rng (l) [] [] [1, 8, 9] [5, 10, 1, 8, 9] rfl (fun i pre T U => ⟨(5, iA (countV pre c)) :: (10, iA i) :: T, U⟩) ?_; (conv => whnf); refine ⟨by rfl, ?_, ?_⟩)
  · intro i pre x post hx hi
    have hy := rng_at vhA hx hi
    have hlt := rng_lt hx hi
    have hle : countV pre c ≤ i := by rw [← hi]; exact List.length_filter_le _ _
    have e : countV (pre ++ [x]) c = countV pre c + (if x.cls = c then 1 else 0) := by
      unfold countV
      rw [List.filter_append, List.length_append]
      by_cases h : x.cls = c
      · simp [h]
      · simp [h]
    clear hx
    by_cases h : x.cls = c
    · rw [if_pos h] at e
      rw [e]
      generalize countV pre c = m at *
      (refine WW ?_)
      rfl
    · rw [if_neg h, Nat.add_zero] at e
      rw [e]
      generalize countV pre c = m at *
      (refine WW ?_)
      rfl
  · (refine WW ?_)
    exact fin_ret [] rfl rfl rfl rfl
theorem vlimit_c (a : Ag) (c : Int) (h0 : 0 ≤ c) (h1 : c < a.lim.length) : CallSim Tryz.prog 100 [agA a, iA c] [] (iA (a.lim.getD c.toNat default)) [] := by
  have hla := map_len iA a.lim
  have hy := map_atI iA a.lim c h0 h1
  (refine callSim_of tok Tryz.func100 rfl (fun args w => Tryz.call100 args w) rfl rfl rfl (fun F hF => ?_))
  (refine WW ?_)
  exact fin_ret [] rfl rfl rfl rfl
def agC (a : Ag) (c : Int) : Ag := ⟨a.sec, a.rights, c, a.lim, a.req, a.ses, a.rate, a.burst⟩
theorem vv_lt {l : List Vh} (hv : vvF l = true) : ∀ j, j < l.length → ∀ i, i < j → (l.getD i default).id < (l.getD j default).id
  | 0, _, i, hi => absurd hi (Nat.not_lt_zero _)
  | j + 1, hj, i, hi => by
    have h1 := ((vv_at.1 hv).2 (j + 1) hj).2 (by omega)
    rw [Nat.add_sub_cancel] at h1
    by_cases h : i = j
    · subst h; exact h1
    · have := vv_lt hv j (by omega) i (by omega)
      omega
theorem has_place {l : List Vh} {id : Int} (hv : vvF l = true) {k : Nat} (k1 : k ≤ l.length) (k2 : ∀ i, i < k → (l.getD i default).id < id) (k3 : k < l.length → ¬ (l.getD k default).id < id) : hasV l id = true ↔ k < l.length ∧ (l.getD k default).id = id := by
  constructor
  · intro h
    obtain ⟨x, hx, he⟩ := List.any_eq_true.1 h
    obtain ⟨i, hi, rfl⟩ := List.getElem_of_mem hx
    rw [beq_iff_eq] at he
    have hg : l.getD i default = l[i] := by simp [List.getD, hi]
    rw [← hg] at he
    by_cases h1 : i < k
    · have := k2 i h1; omega
    · have hk : k < l.length := by omega
      by_cases h2 : i = k
      · subst h2; exact ⟨hk, he⟩
      · have h3 := vv_lt hv i hi k (by omega)
        have h4 := k3 hk
        omega
  · rintro ⟨hk, he⟩
    exact List.any_eq_true.2 ⟨l.getD k default, by simp [List.getD, hk], by rw [beq_iff_eq]; exact he⟩
theorem vregister_c (l : List Vh) (hn : l.length ≤ 1000000) (a : Ag) (hlim : (a.lim.length : Int) = 4) (hc3 : a.cls ≤ 3) (v : Vh) (hv : vvF l = true) (h1 : 0 ≤ v.id) (h2 : v.id ≤ 4294967295) (h3 : 0 ≤ v.cls) (h4 : v.cls ≤ a.cls) (htw : hasV l v.id = false) (h5 : (countV l v.cls : Int) < a.lim.getD v.cls.toNat default) (h6 : l.length < 8)
    (k : Nat) (k1 : k ≤ l.length) (k2 : ∀ i, i < k → (l.getD i default).id < v.id) (k3 : k < l.length → ¬ (l.getD k default).id < v.id) : CallSim Tryz.prog 66 [slA vhA l, agA a, vhA v] [] (.tup [slA vhA (l.take k ++ v :: l.drop k), iA 0]) [] := by
  have hll := map_len vhA l
  have hla := map_len iA a.lim
  have c2 := vvalid_x l hn
  have c3 := vplace_c l v.id hn k k1 k2 k3
  have c4 := vcount_c l v.cls hn
  have c5 := vlimit_c a v.cls h3 (by omega)
  have hne : k < l.length → (l.getD k default).id ≠ v.id := fun hk e => by
    rw [(has_place hv k1 k2 k3).2 ⟨hk, e⟩] at htw
    cases htw
  rw [hv] at c2
  clear hv htw k2 k3
  have hcn : (countV l v.cls : Int) ≤ 1000000 := by
    have : countV l v.cls ≤ l.length := List.length_filter_le _ _
    omega
  generalize (countV l v.cls : Int) = cn at *
  generalize a.lim.getD v.cls.toNat default = lim at *
  have hlK : ((l.take (k : Int).toNat).map vhA).length = k := by simp; omega
  have hlD : ((l.drop (k : Int).toNat).map vhA).length = l.length - k := by simp
  obtain ⟨N, hN⟩ : ∃ N, N = l.length + 1 := ⟨_, rfl⟩
  have hnx : ((l.map vhA).length : Int) + 1 = (N : Int) := by omega
  obtain ⟨z1, hz1, hz1l⟩ : ∃ z1, z1 = (l.take k).map vhA ++ List.replicate (l.length + 1 - k) (AV.agg [.s (.int .i64 0), .s (.int .i64 0)]) ∧ z1.length = l.length + 1 := ⟨_, rfl, by simp; omega⟩
  have hcp1 : (List.replicate N (AV.agg [.s (.int .i64 0), .s (.int .i64 0)])).take 0 ++ (l.take (k : Int).toNat).map vhA ++ (List.replicate N (AV.agg [.s (.int .i64 0), .s (.int .i64 0)])).drop (0 + ((l.take (k : Int).toNat).map vhA).length) = z1 := by
    rw [hz1, hlK, hN]; simp
  have hat : z1[(k : Int).toNat]? = some (AV.agg [.s (.int .i64 0), .s (.int .i64 0)]) := by
    rw [hz1, List.getElem?_append_right (by simp; omega)]
    rw [List.getElem?_replicate, if_pos (by simp; omega)]
  have hcp2 : (z1.set (k : Int).toNat (.agg [iA v.id, iA v.cls])).take ((k : Int) + 1).toNat ++ (l.drop (k : Int).toNat).map vhA ++ (z1.set (k : Int).toNat (.agg [iA v.id, iA v.cls])).drop (((k : Int) + 1).toNat + ((l.drop (k : Int).toNat).map vhA).length) = (l.take k ++ v :: l.drop k).map vhA := by
    have e1 : z1.set (k : Int).toNat (.agg [iA v.id, iA v.cls]) = (l.take k ++ [v]).map vhA ++ List.replicate (l.length - k) (AV.agg [.s (.int .i64 0), .s (.int .i64 0)]) := by
      rw [hz1, List.set_append_right _ _ (by simp; omega), show l.length + 1 - k = (l.length - k) + 1 by omega, List.replicate_succ]
      rw [show (k : Int).toNat - ((l.take k).map vhA).length = 0 by simp; omega]
      simp [vhA]
    have hl1 : ((l.take k ++ [v]).map vhA).length = k + 1 := by simp; omega
    have e2 : ((l.take k ++ [v]).map vhA ++ List.replicate (l.length - k) (AV.agg [.s (.int .i64 0), .s (.int .i64 0)])).drop (k + 1 + (l.length - k)) = [] := List.drop_of_length_le (by rw [List.length_append, hl1, List.length_replicate]; exact Nat.le_refl _)
    rw [e1, hlD, show ((k : Int) + 1).toNat = k + 1 by omega, List.take_append_of_le_length (by omega), List.take_of_length_le (by omega), e2]
    simp
  clear hz1
  obtain ⟨z3, hz3⟩ : ∃ z3, z3 = (l.take k ++ v :: l.drop k).map vhA := ⟨_, rfl⟩
  have hz3l : z3.length = l.length + 1 := by rw [hz3]; simp; omega
  rw [← hz3] at hcp2
  rw [show slA vhA (l.take k ++ v :: l.drop k) = .sl false z3 by rw [hz3]; rfl]
  clear hz3
  rw [show vhA v = .agg [iA v.id, iA v.cls] from rfl] at *
  by_cases hk : k < l.length
  · have hy := map_at vhA l k hk
    have hne := hne hk
    generalize l.getD k default = x at *
    (refine callSim_of tok Tryz.func66 rfl (fun args w => Tryz.call66 args w) rfl rfl rfl (fun F hF => ?_))
    (repeat' (first | (refine is_ops ?_; first | refine x_auto tok rfl rfl ?_ | (refine is_call ?_; (first | (refine is_fn 51 ?_; first | refine x_q (stp_call (c2) rfl rfl rfl rfl rfl) rfl ?_ | refine x_w (stp_call (c2) rfl rfl rfl rfl rfl) rfl rfl rfl ?_ | refine x_d (stp_call (c2) rfl rfl rfl rfl rfl) rfl rfl rfl ?_) | (refine is_fn 67 ?_; first | refine x_q (stp_call (c3) rfl rfl rfl rfl rfl) rfl ?_ | refine x_w (stp_call (c3) rfl rfl rfl rfl rfl) rfl rfl rfl ?_ | refine x_d (stp_call (c3) rfl rfl rfl rfl rfl) rfl rfl rfl ?_) | (refine is_fn 99 ?_; first | refine x_q (stp_call (c4) rfl rfl rfl rfl rfl) rfl ?_ | refine x_w (stp_call (c4) rfl rfl rfl rfl rfl) rfl rfl rfl ?_ | refine x_d (stp_call (c4) rfl rfl rfl rfl rfl) rfl rfl rfl ?_) | (refine is_fn 100 ?_; first | refine x_q (stp_call (c5) rfl rfl rfl rfl rfl) rfl ?_ | refine x_w (stp_call (c5) rfl rfl rfl rfl rfl) rfl rfl rfl ?_ | refine x_d (stp_call (c5) rfl rfl rfl rfl rfl) rfl rfl rfl ?_))) | (refine is_grd ?_; first | refine x_on rfl rfl ?_ | refine x_off rfl rfl rfl rfl ?_ | (refine x_gsplit rfl rfl (fun hc => ?_) (fun hc => ?_) <;> (try simp only [cmpB, decide_eq_true_eq, decide_eq_false_iff_not, beq_iff_eq, bne_iff_ne, ne_eq, Bool.not_eq_true, beq_eq_false_iff_ne, bne_eq_false_iff_eq, Int.not_lt, Int.not_le, Decidable.not_not] at hc))) | (refine is_bin ?_; first | refine x_q (stp_cmp_t rfl rfl rfl (by unfold cmpP; omega)) rfl ?_ | refine x_q (stp_cmp_f rfl rfl rfl (by unfold cmpP; omega)) rfl ?_ | refine x_q (stp_cmp rfl rfl rfl) rfl ?_ | refine x_q (stp_add rfl rfl ⟨by omega, by omega⟩) rfl ?_ | refine x_q (stp_sub rfl rfl ⟨by omega, by omega⟩) rfl ?_ | refine x_q (stp_mul rfl rfl ⟨by omega, by omega⟩) rfl ?_ | refine x_q (stp_quo rfl rfl (by assumption) (by omega)) rfl ?_ | refine x_q (stp_rem rfl rfl (by omega)) rfl ?_ | refine x_q (stp_xor rfl rfl) rfl ?_ | refine x_q (stp_shlI rfl rfl (by omega)) rfl ?_ | refine x_q (stp_shrI rfl rfl (by omega)) rfl ?_ | refine x_q (stp_shift (.inl ⟨rfl, rfl⟩) rfl rfl (by omega)) rfl ?_ | refine x_q (stp_shift (.inr ⟨rfl, rfl⟩) rfl rfl (by omega)) rfl ?_ | refine x_q (stp_bool2 tok rfl rfl rfl rfl (.inl ⟨rfl, rfl⟩)) rfl ?_ | refine x_q (stp_bool2 tok rfl rfl rfl rfl (.inr ⟨rfl, rfl⟩)) rfl ?_ | refine x_q (stp_eqlNil tok (.inl ⟨rfl, rfl⟩) rfl rfl rfl) rfl ?_ | refine x_q (stp_eqlNil_not tok (.inl ⟨rfl, rfl⟩) rfl rfl rfl rfl) rfl ?_ | refine x_q (stp_andI rfl rfl) rfl ?_ | refine x_q (stp_orI rfl rfl) rfl ?_ | refine x_q (stp_bicI rfl rfl) rfl ?_ | refine x_q (stp_strEqV rfl rfl (by assumption)) rfl ?_ | refine x_q (stp_strEq rfl rfl) rfl ?_ | refine x_q (stp_strNeV rfl rfl (by assumption)) rfl ?_ | refine x_q (stp_strNe rfl rfl) rfl ?_) | (refine is_idx ?_; first | refine x_q (stp_indexAddr_sl tok rfl rfl rfl rfl rfl (by omega) (by first | rfl | assumption) rfl rfl) rfl ?_ | refine x_q (stp_indexAddr_r0 tok rfl rfl rfl rfl rfl rfl (by omega) (by omega) rfl) rfl ?_ | refine x_q (stp_indexAddr_box tok rfl rfl rfl rfl rfl rfl (by omega) (by omega)) rfl ?_) | (refine is_load ?_; first | refine x_q (stp_load_fp1 tok rfl rfl rfl (by first | rfl | assumption) rfl) rfl ?_ | refine x_q (stp_load_fpa tok rfl rfl rfl (by first | rfl | assumption) rfl) rfl ?_ | refine x_q (stp_load_arr1 tok rfl rfl rfl rfl (by first | rfl | assumption) rfl) rfl ?_ | refine x_q (stp_load_arra tok rfl rfl rfl rfl (by first | rfl | assumption) rfl) rfl ?_) | (refine is_fad ?_; first | refine x_q (stp_fieldAddr_arr tok rfl rfl rfl rfl rfl rfl rfl rfl) rfl ?_ | refine x_q (stp_fieldAddr_fp tok rfl (by first | rfl | assumption) rfl rfl rfl rfl rfl rfl) rfl ?_) | (refine is_app ?_; first | refine x_appref0 tok rfl rfl rfl rfl rfl rfl rfl (by first | (intro y hy; cases hy; rfl) | exact map_hd _ _ (fun _ => rfl)) rfl rfl rfl (by first | omega | (simp; done) | (simp; omega)) rfl ?_ | refine x_appref tok rfl rfl rfl rfl rfl rfl rfl rfl rfl rfl rfl (by first | (intro y hy; cases hy; rfl) | exact map_hd _ _ (fun _ => rfl)) (by first | omega | (simp; done) | (simp; omega)) rfl ?_) | (refine is_un ?_; first | refine x_q (stp_neg rfl ⟨by omega, by omega⟩) rfl ?_) | (refine is_conv ?_; first | refine x_q (stp_conv_in tok rfl rfl rfl rfl ⟨by omega, by omega⟩) rfl ?_ | refine x_q (stp_conv tok rfl rfl rfl rfl) rfl ?_ | refine x_q (stp_convStr tok rfl rfl rfl rfl rfl rfl rfl (by first | rfl | assumption)) rfl ?_) | (refine is_slc ?_; first | refine x_slcL tok rfl rfl rfl rfl rfl (by first | (intro y hy; cases hy; rfl) | exact map_hd _ _ (fun _ => rfl) | (simp; done)) (by omega) (by simp; omega) (by first | exact List.map_drop.symm | rfl) rfl ?_ | refine x_slcH tok rfl rfl rfl rfl rfl (by first | (intro y hy; cases hy; rfl) | exact map_hd _ _ (fun _ => rfl) | (simp; done)) (by omega) (by simp; omega) (by first | exact List.map_take.symm | rfl) rfl ?_) | (refine is_mks ?_; refine x_mks tok rfl rfl rfl rfl rfl rfl rfl rfl rfl rfl rfl rfl hnx (by omega) (by omega) rfl rfl rfl ?_) | (refine x_cpy tok rfl rfl rfl rfl rfl rfl rfl (map_hd _ _ (fun _ => rfl)) rfl (by omega) (by first | exact hcp1 | exact hcp2) rfl ?_) | (refine is_slc ?_; refine x_slcRL tok rfl rfl rfl rfl rfl rfl rfl (by omega) (by omega) rfl ?_) | refine x_autow tok rfl rfl rfl rfl ?_ | (refine is_sto ?_; first | refine x_autos tok rfl rfl rfl ?_ | refine x_stoa tok rfl rfl rfl (by first | rfl | assumption) rfl rfl rfl rfl rfl rfl ?_ | refine x_sto1 tok rfl rfl rfl (by first | rfl | assumption) rfl rfl rfl rfl rfl rfl rfl rfl ?_) | refine x_nil ?_ | refine x_nilD (by kernel_rfl) ?_) | (first | refine sim_seq ?_ | refine x_region ?_ | refine x_draw rfl ?_ | refine sim_cond_true rfl ?_ | refine sim_cond_false rfl ?_ | (refine sim_cond rfl (fun hc => ?_) (fun hc => ?_) <;> (try simp only [cmpB, decide_eq_true_eq, decide_eq_false_iff_not, beq_iff_eq, bne_iff_ne, ne_eq, Bool.not_eq_true, beq_eq_false_iff_ne, bne_eq_false_iff_eq, Int.not_lt, Int.not_le, Decidable.not_not] at hc)) | refine sim_skip ?_ | refine sim_ret ?_ | refine sim_exit ?_ | refine sim_block ?_)))
    exact fin_ret [] rfl rfl (congrArg (fun z => AV.tup [AV.sl false z, iA 0]) (by rw [hN, List.drop_zero, ← hz3l, List.take_length])) rfl
  · clear hne
    (refine callSim_of tok Tryz.func66 rfl (fun args w => Tryz.call66 args w) rfl rfl rfl (fun F hF => ?_))
    (repeat' (first | (refine is_ops ?_; first | refine x_auto tok rfl rfl ?_ | (refine is_call ?_; (first | (refine is_fn 51 ?_; first | refine x_q (stp_call (c2) rfl rfl rfl rfl rfl) rfl ?_ | refine x_w (stp_call (c2) rfl rfl rfl rfl rfl) rfl rfl rfl ?_ | refine x_d (stp_call (c2) rfl rfl rfl rfl rfl) rfl rfl rfl ?_) | (refine is_fn 67 ?_; first | refine x_q (stp_call (c3) rfl rfl rfl rfl rfl) rfl ?_ | refine x_w (stp_call (c3) rfl rfl rfl rfl rfl) rfl rfl rfl ?_ | refine x_d (stp_call (c3) rfl rfl rfl rfl rfl) rfl rfl rfl ?_) | (refine is_fn 99 ?_; first | refine x_q (stp_call (c4) rfl rfl rfl rfl rfl) rfl ?_ | refine x_w (stp_call (c4) rfl rfl rfl rfl rfl) rfl rfl rfl ?_ | refine x_d (stp_call (c4) rfl rfl rfl rfl rfl) rfl rfl rfl ?_) | (refine is_fn 100 ?_; first | refine x_q (stp_call (c5) rfl rfl rfl rfl rfl) rfl ?_ | refine x_w (stp_call (c5) rfl rfl rfl rfl rfl) rfl rfl rfl ?_ | refine x_d (stp_call (c5) rfl rfl rfl rfl rfl) rfl rfl rfl ?_))) | (refine is_grd ?_; first | refine x_on rfl rfl ?_ | refine x_off rfl rfl rfl rfl ?_ | (refine x_gsplit rfl rfl (fun hc => ?_) (fun hc => ?_) <;> (try simp only [cmpB, decide_eq_true_eq, decide_eq_false_iff_not, beq_iff_eq, bne_iff_ne, ne_eq, Bool.not_eq_true, beq_eq_false_iff_ne, bne_eq_false_iff_eq, Int.not_lt, Int.not_le, Decidable.not_not] at hc))) | (refine is_bin ?_; first | refine x_q (stp_cmp_t rfl rfl rfl (by unfold cmpP; omega)) rfl ?_ | refine x_q (stp_cmp_f rfl rfl rfl (by unfold cmpP; omega)) rfl ?_ | refine x_q (stp_cmp rfl rfl rfl) rfl ?_ | refine x_q (stp_add rfl rfl ⟨by omega, by omega⟩) rfl ?_ | refine x_q (stp_sub rfl rfl ⟨by omega, by omega⟩) rfl ?_ | refine x_q (stp_mul rfl rfl ⟨by omega, by omega⟩) rfl ?_ | refine x_q (stp_quo rfl rfl (by assumption) (by omega)) rfl ?_ | refine x_q (stp_rem rfl rfl (by omega)) rfl ?_ | refine x_q (stp_xor rfl rfl) rfl ?_ | refine x_q (stp_shlI rfl rfl (by omega)) rfl ?_ | refine x_q (stp_shrI rfl rfl (by omega)) rfl ?_ | refine x_q (stp_shift (.inl ⟨rfl, rfl⟩) rfl rfl (by omega)) rfl ?_ | refine x_q (stp_shift (.inr ⟨rfl, rfl⟩) rfl rfl (by omega)) rfl ?_ | refine x_q (stp_bool2 tok rfl rfl rfl rfl (.inl ⟨rfl, rfl⟩)) rfl ?_ | refine x_q (stp_bool2 tok rfl rfl rfl rfl (.inr ⟨rfl, rfl⟩)) rfl ?_ | refine x_q (stp_eqlNil tok (.inl ⟨rfl, rfl⟩) rfl rfl rfl) rfl ?_ | refine x_q (stp_eqlNil_not tok (.inl ⟨rfl, rfl⟩) rfl rfl rfl rfl) rfl ?_ | refine x_q (stp_andI rfl rfl) rfl ?_ | refine x_q (stp_orI rfl rfl) rfl ?_ | refine x_q (stp_bicI rfl rfl) rfl ?_ | refine x_q (stp_strEqV rfl rfl (by assumption)) rfl ?_ | refine x_q (stp_strEq rfl rfl) rfl ?_ | refine x_q (stp_strNeV rfl rfl (by assumption)) rfl ?_ | refine x_q (stp_strNe rfl rfl) rfl ?_) | (refine is_idx ?_; first | refine x_q (stp_indexAddr_sl tok rfl rfl rfl rfl rfl (by omega) (by first | rfl | assumption) rfl rfl) rfl ?_ | refine x_q (stp_indexAddr_r0 tok rfl rfl rfl rfl rfl rfl (by omega) (by omega) rfl) rfl ?_ | refine x_q (stp_indexAddr_box tok rfl rfl rfl rfl rfl rfl (by omega) (by omega)) rfl ?_) | (refine is_load ?_; first | refine x_q (stp_load_fp1 tok rfl rfl rfl (by first | rfl | assumption) rfl) rfl ?_ | refine x_q (stp_load_fpa tok rfl rfl rfl (by first | rfl | assumption) rfl) rfl ?_ | refine x_q (stp_load_arr1 tok rfl rfl rfl rfl (by first | rfl | assumption) rfl) rfl ?_ | refine x_q (stp_load_arra tok rfl rfl rfl rfl (by first | rfl | assumption) rfl) rfl ?_) | (refine is_fad ?_; first | refine x_q (stp_fieldAddr_arr tok rfl rfl rfl rfl rfl rfl rfl rfl) rfl ?_ | refine x_q (stp_fieldAddr_fp tok rfl (by first | rfl | assumption) rfl rfl rfl rfl rfl rfl) rfl ?_) | (refine is_app ?_; first | refine x_appref0 tok rfl rfl rfl rfl rfl rfl rfl (by first | (intro y hy; cases hy; rfl) | exact map_hd _ _ (fun _ => rfl)) rfl rfl rfl (by first | omega | (simp; done) | (simp; omega)) rfl ?_ | refine x_appref tok rfl rfl rfl rfl rfl rfl rfl rfl rfl rfl rfl (by first | (intro y hy; cases hy; rfl) | exact map_hd _ _ (fun _ => rfl)) (by first | omega | (simp; done) | (simp; omega)) rfl ?_) | (refine is_un ?_; first | refine x_q (stp_neg rfl ⟨by omega, by omega⟩) rfl ?_) | (refine is_conv ?_; first | refine x_q (stp_conv_in tok rfl rfl rfl rfl ⟨by omega, by omega⟩) rfl ?_ | refine x_q (stp_conv tok rfl rfl rfl rfl) rfl ?_ | refine x_q (stp_convStr tok rfl rfl rfl rfl rfl rfl rfl (by first | rfl | assumption)) rfl ?_) | (refine is_slc ?_; first | refine x_slcL tok rfl rfl rfl rfl rfl (by first | (intro y hy; cases hy; rfl) | exact map_hd _ _ (fun _ => rfl) | (simp; done)) (by omega) (by simp; omega) (by first | exact List.map_drop.symm | rfl) rfl ?_ | refine x_slcH tok rfl rfl rfl rfl rfl (by first | (intro y hy; cases hy; rfl) | exact map_hd _ _ (fun _ => rfl) | (simp; done)) (by omega) (by simp; omega) (by first | exact List.map_take.symm | rfl) rfl ?_) | (refine is_mks ?_; refine x_mks tok rfl rfl rfl rfl rfl rfl rfl rfl rfl rfl rfl rfl hnx (by omega) (by omega) rfl rfl rfl ?_) | (refine x_cpy tok rfl rfl rfl rfl rfl rfl rfl (map_hd _ _ (fun _ => rfl)) rfl (by omega) (by first | exact hcp1 | exact hcp2) rfl ?_) | (refine is_slc ?_; refine x_slcRL tok rfl rfl rfl rfl rfl rfl rfl (by omega) (by omega) rfl ?_) | refine x_autow tok rfl rfl rfl rfl ?_ | (refine is_sto ?_; first | refine x_autos tok rfl rfl rfl ?_ | refine x_stoa tok rfl rfl rfl (by first | rfl | assumption) rfl rfl rfl rfl rfl rfl ?_ | refine x_sto1 tok rfl rfl rfl (by first | rfl | assumption) rfl rfl rfl rfl rfl rfl rfl rfl ?_) | refine x_nil ?_ | refine x_nilD (by kernel_rfl) ?_) | (first | refine sim_seq ?_ | refine x_region ?_ | refine x_draw rfl ?_ | refine sim_cond_true rfl ?_ | refine sim_cond_false rfl ?_ | (refine sim_cond rfl (fun hc => ?_) (fun hc => ?_) <;> (try simp only [cmpB, decide_eq_true_eq, decide_eq_false_iff_not, beq_iff_eq, bne_iff_ne, ne_eq, Bool.not_eq_true, beq_eq_false_iff_ne, bne_eq_false_iff_eq, Int.not_lt, Int.not_le, Decidable.not_not] at hc)) | refine sim_skip ?_ | refine sim_ret ?_ | refine sim_exit ?_ | refine sim_block ?_)))
    exact fin_ret [] rfl rfl (congrArg (fun z => AV.tup [AV.sl false z, iA 0]) (by rw [hN, List.drop_zero, ← hz3l, List.take_length])) rfl
theorem register_both (l : List Vh) (hn : l.length ≤ 1000000) (a : Ag) (most : Int) (hlim : (a.lim.length : Int) = 4) (hc3 : a.cls ≤ 3) (v : Vh) : ∃ (l' : List Vh) (e : Int), (e ≠ 0 → l' = []) ∧ l'.length ≤ l.length + 1 ∧ CallSim Tryz.prog 66 [slA vhA l, agA (agC a (min a.cls most)), vhA v] [] (.tup [slA vhA l', iA e]) [] ∧ CallSim Tryz.prog 39 [slA vhA l, agA a, vhA v, iA most] [] (.tup [slA vhA l', iA e]) [] := by
  have hll := map_len vhA l
  have hla := map_len iA a.lim
  have p2 := vvalid_x l hn
  have c1 := find2_c l v.id hn
  have c2 := vvalid2_c l hn
  have c3 := count3_c l v.cls hn
  have p4 := vcount_c l v.cls hn
  have hcm : min a.cls most ≤ 3 := by omega
  have hcl : min a.cls most ≤ a.cls := by omega
  obtain ⟨k, k1, k2, k3⟩ := place_ex l v.id
  have hpl := fun hv => has_place (l := l) (id := v.id) hv k1 k2 k3
  have p3 := vplace_c l v.id hn k k1 k2 k3
  have hreg := fun hv h1 h2 h3 h4 htw h5 h6 => vregister_c l hn (agC a (min a.cls most)) hlim hcm v hv h1 h2 h3 h4 htw h5 h6 k k1 k2 k3
  have hcn : countV l v.cls ≤ 1000000 := by
    have : countV l v.cls ≤ l.length := List.length_filter_le _ _
    omega
  have p5 := fun h3 h4 => vlimit_c (agC a (min a.cls most)) v.cls h3 h4
  rw [show (agC a (min a.cls most)).lim = a.lim from rfl] at hreg p5
  rw [show (agC a (min a.cls most)).cls = min a.cls most from rfl] at hreg
  have hAG : agA (agC a (min a.cls most)) = .agg [slA yA a.sec, iA a.rights, iA (min a.cls most), slA iA a.lim, iA a.req, iA a.ses, iA a.rate, iA a.burst] := rfl
  rw [hAG] at *
  generalize hf : findV l v.id = fv at *
  generalize htw : hasV l v.id = tw at *
  generalize hok : vvF l = ok at *
  generalize countV l v.cls = cn at *
  cases ok
  · refine ⟨[], 1, fun _ => rfl, by simp, ?_, ?_⟩
    · clear hpl hreg p5
      (refine callSim_of tok Tryz.func66 rfl (fun args w => Tryz.call66 args w) rfl rfl rfl (fun F hF => ?_))
      (have zc1 := p2; refine WW ?_; clear zc1)
      exact fin_ret [] rfl rfl rfl rfl
    · clear hpl hreg p5
      (refine callSim_of tok Tryz.func39 rfl (fun args w => Tryz.call39 args w) rfl rfl rfl (fun F hF => ?_))
      (have zc1 := c1; have zc2 := c2; refine WL ?_; clear zc1 zc2)
      exact fin_ret [] rfl rfl rfl rfl
  by_cases h1 : 0 ≤ v.id ∧ v.id ≤ 4294967295
  case neg =>
    refine ⟨[], 8, fun _ => rfl, by simp, ?_, ?_⟩
    · clear hpl hreg p5
      by_cases g1 : 0 ≤ v.id <;> ((refine callSim_of tok Tryz.func66 rfl (fun args w => Tryz.call66 args w) rfl rfl rfl (fun F hF => ?_)); ((have zc1 := p2; refine WW ?_; clear zc1)); exact fin_ret [] rfl rfl rfl rfl)
    · clear hpl hreg p5
      by_cases g1 : 0 ≤ v.id <;> ((refine callSim_of tok Tryz.func39 rfl (fun args w => Tryz.call39 args w) rfl rfl rfl (fun F hF => ?_)); ((have zc1 := c1; have zc2 := c2; refine WL ?_; clear zc1 zc2)); exact fin_ret [] rfl rfl rfl rfl)
  obtain ⟨h1, h2⟩ := h1
  generalize hmm : min a.cls most = mm at *
  by_cases h3 : 0 ≤ v.cls ∧ v.cls ≤ mm
  case neg =>
    refine ⟨[], 17, fun _ => rfl, by simp, ?_, ?_⟩
    · clear hpl hreg p5
      by_cases g1 : 0 ≤ v.cls <;> ((refine callSim_of tok Tryz.func66 rfl (fun args w => Tryz.call66 args w) rfl rfl rfl (fun F hF => ?_)); ((have zc1 := p2; refine WW ?_; clear zc1)); exact fin_ret [] rfl rfl rfl rfl)
    · clear hpl hreg p5
      subst hmm
      by_cases g1 : 0 ≤ v.cls <;> ((refine callSim_of tok Tryz.func39 rfl (fun args w => Tryz.call39 args w) rfl rfl rfl (fun F hF => ?_)); ((have zc1 := c1; have zc2 := c2; refine WL ?_; clear zc1 zc2)); exact fin_ret [] rfl rfl rfl rfl)
  obtain ⟨h3, h4⟩ := h3
  have hpl := hpl rfl
  have hp5 := p5 h3 (by omega)
  clear p5
  cases tw
  case true =>
    obtain ⟨hk, hid⟩ := hpl.1 rfl
    have hy := map_at vhA l k hk
    refine ⟨[], 11, fun _ => rfl, by simp, ?_, ?_⟩
    · clear hreg hpl k2 k3
      generalize l.getD k default = x at *
      (refine callSim_of tok Tryz.func66 rfl (fun args w => Tryz.call66 args w) rfl rfl rfl (fun F hF => ?_))
      (have zc1 := p2; have zc2 := p3; refine WW ?_; clear zc1 zc2)
      exact fin_ret [] rfl rfl rfl rfl
    · clear hpl hreg
      subst hmm
      (refine callSim_of tok Tryz.func39 rfl (fun args w => Tryz.call39 args w) rfl rfl rfl (fun F hF => ?_))
      (have zc1 := c1; have zc2 := c2; refine WL ?_; clear zc1 zc2)
      exact fin_ret [] rfl rfl rfl rfl
  have hne : ∀ hk : k < l.length, (l.getD k default).id ≠ v.id := fun hk e => by
    have := hpl.2 ⟨hk, e⟩
    cases this
  clear hpl
  have hyl := map_atI iA a.lim v.cls h3 (by omega)
  have hreg := hreg rfl h1 h2 h3 h4 rfl
  generalize a.lim.getD v.cls.toNat default = lim at *
  by_cases h5 : lim ≤ cn
  · refine ⟨[], 14, fun _ => rfl, by simp, ?_, ?_⟩
    · clear hreg k2 k3
      by_cases hk : k < l.length
      · have hy := map_at vhA l k hk
        have hne := hne hk
        generalize l.getD k default = x at *
        (refine callSim_of tok Tryz.func66 rfl (fun args w => Tryz.call66 args w) rfl rfl rfl (fun F hF => ?_))
        (have zc1 := p2; have zc2 := p3; have zc3 := p4; have zc4 := hp5; refine WW ?_; clear zc1 zc2 zc3 zc4)
        exact fin_ret [] rfl rfl rfl rfl
      · clear hne
        (refine callSim_of tok Tryz.func66 rfl (fun args w => Tryz.call66 args w) rfl rfl rfl (fun F hF => ?_))
        (have zc1 := p2; have zc2 := p3; have zc3 := p4; have zc4 := hp5; refine WW ?_; clear zc1 zc2 zc3 zc4)
        exact fin_ret [] rfl rfl rfl rfl
    · clear hreg hne k2 k3
      subst hmm
      (refine callSim_of tok Tryz.func39 rfl (fun args w => Tryz.call39 args w) rfl rfl rfl (fun F hF => ?_))
      (have zc1 := c1; have zc2 := c2; have zc3 := c3; refine WL ?_; clear zc1 zc2 zc3)
      exact fin_ret [] rfl rfl rfl rfl
  by_cases h6 : l.length < 8
  case neg =>
    refine ⟨[], 10, fun _ => rfl, by simp, ?_, ?_⟩
    · clear hreg k2 k3
      by_cases hk : k < l.length
      · have hy := map_at vhA l k hk
        have hne := hne hk
        generalize l.getD k default = x at *
        (refine callSim_of tok Tryz.func66 rfl (fun args w => Tryz.call66 args w) rfl rfl rfl (fun F hF => ?_))
        (have zc1 := p2; have zc2 := p3; have zc3 := p4; have zc4 := hp5; refine WW ?_; clear zc1 zc2 zc3 zc4)
        exact fin_ret [] rfl rfl rfl rfl
      · clear hne
        (refine callSim_of tok Tryz.func66 rfl (fun args w => Tryz.call66 args w) rfl rfl rfl (fun F hF => ?_))
        (have zc1 := p2; have zc2 := p3; have zc3 := p4; have zc4 := hp5; refine WW ?_; clear zc1 zc2 zc3 zc4)
        exact fin_ret [] rfl rfl rfl rfl
    · clear hreg hne k2 k3
      subst hmm
      (refine callSim_of tok Tryz.func39 rfl (fun args w => Tryz.call39 args w) rfl rfl rfl (fun F hF => ?_))
      (have zc1 := c1; have zc2 := c2; have zc3 := c3; refine WL ?_; clear zc1 zc2 zc3)
      exact fin_ret [] rfl rfl rfl rfl
  refine ⟨l.take k ++ v :: l.drop k, 0, fun h => absurd rfl h, by simp; omega, hreg (by omega) h6, ?_⟩
  clear hok htw hreg hne p2 p3 p4 hp5
  subst hmm
  (refine callSim_of tok Tryz.func39 rfl (fun args w => Tryz.call39 args w) rfl rfl rfl (fun F hF => ?_))
  (have zc1 := c1; have zc2 := c2; have zc3 := c3; refine WL ?_; clear zc1 zc2 zc3)
  (refine sim_cntP (l.length + 1) [6] [6] [0, 6] [12, 0, 6] rfl (fun i T U zs => (i ≤ k) ∧ zs = ⟨(12, iA i) :: T, U⟩) ?_; (conv => whnf); refine ⟨?_, ?_, ?_⟩)
  · exact ⟨Nat.zero_le _, rfl⟩
  · rintro i st hi ⟨hik, rfl⟩
    by_cases hlt : i < k
    · have hy := map_at vhA l i (by omega)
      have hh := k2 i hlt
      generalize l.getD i default = x at *
      (refine WW ?_)
      exact ⟨by omega, rfl⟩
    · obtain rfl : i = k := by omega
      by_cases hkl : i < l.length
      · have hy := map_at vhA l i hkl
        have hh := k3 hkl
        generalize l.getD i default = x at *
        (repeat' (first | (refine is_ops ?_; first | refine x_auto tok rfl rfl ?_ | (refine is_call ?_; fail) | (refine is_grd ?_; first | refine x_on rfl rfl ?_ | refine x_off rfl rfl rfl rfl ?_ | (refine x_gsplit rfl rfl (fun hc => ?_) (fun hc => ?_) <;> (try simp only [cmpB, decide_eq_true_eq, decide_eq_false_iff_not, beq_iff_eq, bne_iff_ne, ne_eq, Bool.not_eq_true, beq_eq_false_iff_ne, bne_eq_false_iff_eq, Int.not_lt, Int.not_le, Decidable.not_not] at hc))) | (refine is_bin ?_; first | refine x_q (stp_cmp_t rfl rfl rfl (by unfold cmpP; omega)) rfl ?_ | refine x_q (stp_cmp_f rfl rfl rfl (by unfold cmpP; omega)) rfl ?_ | refine x_q (stp_cmp rfl rfl rfl) rfl ?_ | refine x_q (stp_add rfl rfl ⟨by omega, by omega⟩) rfl ?_ | refine x_q (stp_sub rfl rfl ⟨by omega, by omega⟩) rfl ?_ | refine x_q (stp_mul rfl rfl ⟨by omega, by omega⟩) rfl ?_ | refine x_q (stp_quo rfl rfl (by assumption) (by omega)) rfl ?_ | refine x_q (stp_rem rfl rfl (by omega)) rfl ?_ | refine x_q (stp_xor rfl rfl) rfl ?_ | refine x_q (stp_shlI rfl rfl (by omega)) rfl ?_ | refine x_q (stp_shrI rfl rfl (by omega)) rfl ?_ | refine x_q (stp_shift (.inl ⟨rfl, rfl⟩) rfl rfl (by omega)) rfl ?_ | refine x_q (stp_shift (.inr ⟨rfl, rfl⟩) rfl rfl (by omega)) rfl ?_ | refine x_q (stp_bool2 tok rfl rfl rfl rfl (.inl ⟨rfl, rfl⟩)) rfl ?_ | refine x_q (stp_bool2 tok rfl rfl rfl rfl (.inr ⟨rfl, rfl⟩)) rfl ?_ | refine x_q (stp_eqlNil tok (.inl ⟨rfl, rfl⟩) rfl rfl rfl) rfl ?_ | refine x_q (stp_eqlNil_not tok (.inl ⟨rfl, rfl⟩) rfl rfl rfl rfl) rfl ?_ | refine x_q (stp_andI rfl rfl) rfl ?_ | refine x_q (stp_orI rfl rfl) rfl ?_ | refine x_q (stp_bicI rfl rfl) rfl ?_ | refine x_q (stp_strEqV rfl rfl (by assumption)) rfl ?_ | refine x_q (stp_strEq rfl rfl) rfl ?_ | refine x_q (stp_strNeV rfl rfl (by assumption)) rfl ?_ | refine x_q (stp_strNe rfl rfl) rfl ?_) | (refine is_idx ?_; first | refine x_q (stp_indexAddr_sl tok rfl rfl rfl rfl rfl (by omega) (by first | rfl | assumption) rfl rfl) rfl ?_ | refine x_q (stp_indexAddr_r0 tok rfl rfl rfl rfl rfl rfl (by omega) (by omega) rfl) rfl ?_ | refine x_q (stp_indexAddr_box tok rfl rfl rfl rfl rfl rfl (by omega) (by omega)) rfl ?_) | (refine is_load ?_; first | refine x_q (stp_load_fp1 tok rfl rfl rfl (by first | rfl | assumption) rfl) rfl ?_ | refine x_q (stp_load_fpa tok rfl rfl rfl (by first | rfl | assumption) rfl) rfl ?_ | refine x_q (stp_load_arr1 tok rfl rfl rfl rfl (by first | rfl | assumption) rfl) rfl ?_ | refine x_q (stp_load_arra tok rfl rfl rfl rfl (by first | rfl | assumption) rfl) rfl ?_) | (refine is_fad ?_; first | refine x_q (stp_fieldAddr_arr tok rfl rfl rfl rfl rfl rfl rfl rfl) rfl ?_ | refine x_q (stp_fieldAddr_fp tok rfl (by first | rfl | assumption) rfl rfl rfl rfl rfl rfl) rfl ?_) | (refine is_app ?_; first | refine x_appref0 tok rfl rfl rfl rfl rfl rfl rfl (by first | (intro y hy; cases hy; rfl) | exact map_hd _ _ (fun _ => rfl)) rfl rfl rfl (by first | omega | (simp; done) | (simp; omega)) rfl ?_ | refine x_appref tok rfl rfl rfl rfl rfl rfl rfl rfl rfl rfl rfl (by first | (intro y hy; cases hy; rfl) | exact map_hd _ _ (fun _ => rfl)) (by first | omega | (simp; done) | (simp; omega)) rfl ?_) | (refine is_un ?_; first | refine x_q (stp_neg rfl ⟨by omega, by omega⟩) rfl ?_) | (refine is_conv ?_; first | refine x_q (stp_conv_in tok rfl rfl rfl rfl ⟨by omega, by omega⟩) rfl ?_ | refine x_q (stp_conv tok rfl rfl rfl rfl) rfl ?_ | refine x_q (stp_convStr tok rfl rfl rfl rfl rfl rfl rfl (by first | rfl | assumption)) rfl ?_) | (refine is_slc ?_; first | refine x_slcL tok rfl rfl rfl rfl rfl (by first | (intro y hy; cases hy; rfl) | exact map_hd _ _ (fun _ => rfl) | (simp; done)) (by omega) (by simp; omega) (by first | exact List.map_drop.symm | rfl) rfl ?_ | refine x_slcH tok rfl rfl rfl rfl rfl (by first | (intro y hy; cases hy; rfl) | exact map_hd _ _ (fun _ => rfl) | (simp; done)) (by omega) (by simp; omega) (by first | exact List.map_take.symm | rfl) rfl ?_) | (refine is_app ?_; refine x_appnilK 1001 tok rfl rfl rfl rfl rfl rfl (map_hd _ _ (fun _ => rfl)) rfl rfl rfl (by simp; omega) rfl rfl rfl ?_) | (refine is_bsl ?_; refine x_lit tok rfl rfl ?_) | refine x_autow tok rfl rfl rfl rfl ?_ | (refine is_sto ?_; first | refine x_autos tok rfl rfl rfl ?_ | refine x_stoa tok rfl rfl rfl (by first | rfl | assumption) rfl rfl rfl rfl rfl rfl ?_ | refine x_sto1 tok rfl rfl rfl (by first | rfl | assumption) rfl rfl rfl rfl rfl rfl rfl rfl ?_) | refine x_nil ?_ | refine x_nilD (by kernel_rfl) ?_) | (first | refine sim_seq ?_ | refine x_region ?_ | refine x_draw rfl ?_ | refine sim_cond_true rfl ?_ | refine sim_cond_false rfl ?_ | (refine sim_cond rfl (fun hc => ?_) (fun hc => ?_) <;> (try simp only [cmpB, decide_eq_true_eq, decide_eq_false_iff_not, beq_iff_eq, bne_iff_ne, ne_eq, Bool.not_eq_true, beq_eq_false_iff_ne, bne_eq_false_iff_eq, Int.not_lt, Int.not_le, Decidable.not_not] at hc)) | refine sim_skip ?_ | refine sim_ret ?_ | refine sim_exit ?_ | refine sim_block ?_)))
        exact fin_ret [] rfl rfl (congrArg (fun z => AV.tup [AV.sl false z, iA 0]) (by rw [List.drop_zero, List.take_length]; simp [List.map_take, List.map_drop, vhA, iA])) rfl
      · (repeat' (first | (refine is_ops ?_; first | refine x_auto tok rfl rfl ?_ | (refine is_call ?_; fail) | (refine is_grd ?_; first | refine x_on rfl rfl ?_ | refine x_off rfl rfl rfl rfl ?_ | (refine x_gsplit rfl rfl (fun hc => ?_) (fun hc => ?_) <;> (try simp only [cmpB, decide_eq_true_eq, decide_eq_false_iff_not, beq_iff_eq, bne_iff_ne, ne_eq, Bool.not_eq_true, beq_eq_false_iff_ne, bne_eq_false_iff_eq, Int.not_lt, Int.not_le, Decidable.not_not] at hc))) | (refine is_bin ?_; first | refine x_q (stp_cmp_t rfl rfl rfl (by unfold cmpP; omega)) rfl ?_ | refine x_q (stp_cmp_f rfl rfl rfl (by unfold cmpP; omega)) rfl ?_ | refine x_q (stp_cmp rfl rfl rfl) rfl ?_ | refine x_q (stp_add rfl rfl ⟨by omega, by omega⟩) rfl ?_ | refine x_q (stp_sub rfl rfl ⟨by omega, by omega⟩) rfl ?_ | refine x_q (stp_mul rfl rfl ⟨by omega, by omega⟩) rfl ?_ | refine x_q (stp_quo rfl rfl (by assumption) (by omega)) rfl ?_ | refine x_q (stp_rem rfl rfl (by omega)) rfl ?_ | refine x_q (stp_xor rfl rfl) rfl ?_ | refine x_q (stp_shlI rfl rfl (by omega)) rfl ?_ | refine x_q (stp_shrI rfl rfl (by omega)) rfl ?_ | refine x_q (stp_shift (.inl ⟨rfl, rfl⟩) rfl rfl (by omega)) rfl ?_ | refine x_q (stp_shift (.inr ⟨rfl, rfl⟩) rfl rfl (by omega)) rfl ?_ | refine x_q (stp_bool2 tok rfl rfl rfl rfl (.inl ⟨rfl, rfl⟩)) rfl ?_ | refine x_q (stp_bool2 tok rfl rfl rfl rfl (.inr ⟨rfl, rfl⟩)) rfl ?_ | refine x_q (stp_eqlNil tok (.inl ⟨rfl, rfl⟩) rfl rfl rfl) rfl ?_ | refine x_q (stp_eqlNil_not tok (.inl ⟨rfl, rfl⟩) rfl rfl rfl rfl) rfl ?_ | refine x_q (stp_andI rfl rfl) rfl ?_ | refine x_q (stp_orI rfl rfl) rfl ?_ | refine x_q (stp_bicI rfl rfl) rfl ?_ | refine x_q (stp_strEqV rfl rfl (by assumption)) rfl ?_ | refine x_q (stp_strEq rfl rfl) rfl ?_ | refine x_q (stp_strNeV rfl rfl (by assumption)) rfl ?_ | refine x_q (stp_strNe rfl rfl) rfl ?_) | (refine is_idx ?_; first | refine x_q (stp_indexAddr_sl tok rfl rfl rfl rfl rfl (by omega) (by first | rfl | assumption) rfl rfl) rfl ?_ | refine x_q (stp_indexAddr_r0 tok rfl rfl rfl rfl rfl rfl (by omega) (by omega) rfl) rfl ?_ | refine x_q (stp_indexAddr_box tok rfl rfl rfl rfl rfl rfl (by omega) (by omega)) rfl ?_) | (refine is_load ?_; first | refine x_q (stp_load_fp1 tok rfl rfl rfl (by first | rfl | assumption) rfl) rfl ?_ | refine x_q (stp_load_fpa tok rfl rfl rfl (by first | rfl | assumption) rfl) rfl ?_ | refine x_q (stp_load_arr1 tok rfl rfl rfl rfl (by first | rfl | assumption) rfl) rfl ?_ | refine x_q (stp_load_arra tok rfl rfl rfl rfl (by first | rfl | assumption) rfl) rfl ?_) | (refine is_fad ?_; first | refine x_q (stp_fieldAddr_arr tok rfl rfl rfl rfl rfl rfl rfl rfl) rfl ?_ | refine x_q (stp_fieldAddr_fp tok rfl (by first | rfl | assumption) rfl rfl rfl rfl rfl rfl) rfl ?_) | (refine is_app ?_; first | refine x_appref0 tok rfl rfl rfl rfl rfl rfl rfl (by first | (intro y hy; cases hy; rfl) | exact map_hd _ _ (fun _ => rfl)) rfl rfl rfl (by first | omega | (simp; done) | (simp; omega)) rfl ?_ | refine x_appref tok rfl rfl rfl rfl rfl rfl rfl rfl rfl rfl rfl (by first | (intro y hy; cases hy; rfl) | exact map_hd _ _ (fun _ => rfl)) (by first | omega | (simp; done) | (simp; omega)) rfl ?_) | (refine is_un ?_; first | refine x_q (stp_neg rfl ⟨by omega, by omega⟩) rfl ?_) | (refine is_conv ?_; first | refine x_q (stp_conv_in tok rfl rfl rfl rfl ⟨by omega, by omega⟩) rfl ?_ | refine x_q (stp_conv tok rfl rfl rfl rfl) rfl ?_ | refine x_q (stp_convStr tok rfl rfl rfl rfl rfl rfl rfl (by first | rfl | assumption)) rfl ?_) | (refine is_slc ?_; first | refine x_slcL tok rfl rfl rfl rfl rfl (by first | (intro y hy; cases hy; rfl) | exact map_hd _ _ (fun _ => rfl) | (simp; done)) (by omega) (by simp; omega) (by first | exact List.map_drop.symm | rfl) rfl ?_ | refine x_slcH tok rfl rfl rfl rfl rfl (by first | (intro y hy; cases hy; rfl) | exact map_hd _ _ (fun _ => rfl) | (simp; done)) (by omega) (by simp; omega) (by first | exact List.map_take.symm | rfl) rfl ?_) | (refine is_app ?_; refine x_appnilK 1001 tok rfl rfl rfl rfl rfl rfl (map_hd _ _ (fun _ => rfl)) rfl rfl rfl (by simp; omega) rfl rfl rfl ?_) | (refine is_bsl ?_; refine x_lit tok rfl rfl ?_) | refine x_autow tok rfl rfl rfl rfl ?_ | (refine is_sto ?_; first | refine x_autos tok rfl rfl rfl ?_ | refine x_stoa tok rfl rfl rfl (by first | rfl | assumption) rfl rfl rfl rfl rfl rfl ?_ | refine x_sto1 tok rfl rfl rfl (by first | rfl | assumption) rfl rfl rfl rfl rfl rfl rfl rfl ?_) | refine x_nil ?_ | refine x_nilD (by kernel_rfl) ?_) | (first | refine sim_seq ?_ | refine x_region ?_ | refine x_draw rfl ?_ | refine sim_cond_true rfl ?_ | refine sim_cond_false rfl ?_ | (refine sim_cond rfl (fun hc => ?_) (fun hc => ?_) <;> (try simp only [cmpB, decide_eq_true_eq, decide_eq_false_iff_not, beq_iff_eq, bne_iff_ne, ne_eq, Bool.not_eq_true, beq_eq_false_iff_ne, bne_eq_false_iff_eq, Int.not_lt, Int.not_le, Decidable.not_not] at hc)) | refine sim_skip ?_ | refine sim_ret ?_ | refine sim_exit ?_ | refine sim_block ?_)))
        exact fin_ret [] rfl rfl (congrArg (fun z => AV.tup [AV.sl false z, iA 0]) (by rw [List.drop_zero, List.take_length]; simp [List.map_take, List.map_drop, vhA, iA])) rfl
  · rintro st ⟨hik, rfl⟩
    exfalso; omega
end Av
end Go.Proofs.YtjbldhhgooihfaaGreat
