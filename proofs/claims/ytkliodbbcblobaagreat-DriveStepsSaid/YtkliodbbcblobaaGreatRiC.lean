
/- Rings: enter, begin. -/
import Derived.Test.YtkliodbbcblobaaGreatRiB
namespace Go.Proofs.YtkliodbbcblobaaGreat
namespace Av
set_option linter.unusedSimpArgs false
set_option linter.unusedVariables false
set_option maxRecDepth 4000
set_option maxHeartbeats 1000000
/-- A function that ends without a return. -/
theorem fin_own0 {TT : List TI} {rs : List ResultVar} {h0 : List (Nat × Ent)} {r : AV} {h1 : List (Nat × Ent)} {st : St} {vs : List AV} (K : List Nat) (h : retv TT st rs = some vs) (hK : (keys h0).all (K.contains ·) = true) (hr : frzV K (lookE st.h) (ret1 vs) = r) (hh : restrH K (lookE st.h) = h1) :
    Fin TT rs h0 r h1 .normal st := ⟨.inl rfl, vs, K, h, hK, .inl hr.symm, by rw [hh]⟩
def enN (f0 f1 : Int) : Nat → List AV
  | 0 => [iA 0, iA 0]
  | 1 => [iA f0, iA 0]
  | _ + 2 => [iA f0, iA f1]
theorem enter_c (j : Jn) (hn : j.ph.length ≤ 1000) (g gr wt : Int) (L N : List AV) (nL nN : Nat) : CallSim Tryz.prog 95 [jnA j, .ptr 3000 0 0, iA g] [(3000, .box [.ref 1001 0 nL, iA gr, .ref 1002 0 nN, iA wt]), (1001, .arr 2 L false), (1002, .arr 1 N false)] (.tup [])
    [(3000, .box [.ref 1001 0 nL, iA g, .ref 2001 0 2, iA wt]), (1001, .arr 2 L false), (1002, .arr 1 N false), (2001, .arr 1 [iA (flF j 0 g 0), iA (flF j 1 g 0)] false)] := by
  have c0 := foll_c j hn 0 g 0
  have c1 := foll_c j hn 1 g 0
  generalize flF j 0 g 0 = f0 at *
  generalize flF j 1 g 0 = f1 at *
  obtain ⟨N2, hN2⟩ : ∃ n : Nat, n = 2 := ⟨2, rfl⟩
  (refine callSim_of tok Tryz.func95 rfl (fun args w => Tryz.call95 args w) rfl rfl rfl (fun F hF => ?_))
  (repeat' (first | (refine is_ops ?_; first | refine x_auto tok rfl rfl ?_ | (refine is_call ?_; fail) | (refine is_grd ?_; first | refine x_on rfl rfl ?_ | refine x_off rfl rfl rfl rfl ?_ | (refine x_gsplit rfl rfl (fun hc => ?_) (fun hc => ?_) <;> (try simp only [cmpB, decide_eq_true_eq, decide_eq_false_iff_not, beq_iff_eq, bne_iff_ne, ne_eq, Bool.not_eq_true, beq_eq_false_iff_ne, bne_eq_false_iff_eq, Int.not_lt, Int.not_le, Decidable.not_not] at hc))) | (refine is_bin ?_; first | refine x_q (stp_cmp_t rfl rfl rfl (by unfold cmpP; omega)) rfl ?_ | refine x_q (stp_cmp_f rfl rfl rfl (by unfold cmpP; omega)) rfl ?_ | refine x_q (stp_cmp rfl rfl rfl) rfl ?_ | refine x_q (stp_add rfl rfl ⟨by omega, by omega⟩) rfl ?_ | refine x_q (stp_sub rfl rfl ⟨by omega, by omega⟩) rfl ?_ | refine x_q (stp_mul rfl rfl ⟨by omega, by omega⟩) rfl ?_ | refine x_q (stp_quo rfl rfl (by assumption) (by omega)) rfl ?_ | refine x_q (stp_rem rfl rfl (by omega)) rfl ?_ | refine x_q (stp_xor rfl rfl) rfl ?_ | refine x_q (stp_shlI rfl rfl (by omega)) rfl ?_ | refine x_q (stp_shrI rfl rfl (by omega)) rfl ?_ | refine x_q (stp_shift (.inl ⟨rfl, rfl⟩) rfl rfl (by omega)) rfl ?_ | refine x_q (stp_shift (.inr ⟨rfl, rfl⟩) rfl rfl (by omega)) rfl ?_ | refine x_q (stp_bool2 tok rfl rfl rfl rfl (.inl ⟨rfl, rfl⟩)) rfl ?_ | refine x_q (stp_bool2 tok rfl rfl rfl rfl (.inr ⟨rfl, rfl⟩)) rfl ?_ | refine x_q (stp_eqlNil tok (.inl ⟨rfl, rfl⟩) rfl rfl rfl) rfl ?_ | refine x_q (stp_eqlNil_not tok (.inl ⟨rfl, rfl⟩) rfl rfl rfl rfl) rfl ?_ | refine x_q (stp_andI rfl rfl) rfl ?_ | refine x_q (stp_orI rfl rfl) rfl ?_ | refine x_q (stp_bicI rfl rfl) rfl ?_ | refine x_q (stp_strEqV rfl rfl (by assumption)) rfl ?_ | refine x_q (stp_strEq rfl rfl) rfl ?_ | refine x_q (stp_strNeV rfl rfl (by assumption)) rfl ?_ | refine x_q (stp_strNe rfl rfl) rfl ?_) | (refine is_idx ?_; first | refine x_q (stp_indexAddr_sl tok rfl rfl rfl rfl rfl (by omega) (by first | rfl | assumption) rfl rfl) rfl ?_ | refine x_q (stp_indexAddr_r0 tok rfl rfl rfl rfl rfl rfl (by omega) (by omega) rfl) rfl ?_ | refine x_q (stp_indexAddr_box tok rfl rfl rfl rfl rfl rfl (by omega) (by omega)) rfl ?_) | (refine is_load ?_; first | refine x_q (stp_load_fp1 tok rfl rfl rfl (by first | rfl | assumption) rfl) rfl ?_ | refine x_q (stp_load_fpa tok rfl rfl rfl (by first | rfl | assumption) rfl) rfl ?_ | refine x_q (stp_load_arr1 tok rfl rfl rfl rfl (by first | rfl | assumption) rfl) rfl ?_ | refine x_q (stp_load_arra tok rfl rfl rfl rfl (by first | rfl | assumption) rfl) rfl ?_) | (refine is_fad ?_; first | refine x_q (stp_fieldAddr_arr tok rfl rfl rfl rfl rfl rfl rfl rfl) rfl ?_ | refine x_q (stp_fieldAddr_fp tok rfl (by first | rfl | assumption) rfl rfl rfl rfl rfl rfl) rfl ?_) | (refine is_app ?_; first | refine x_appref0 tok rfl rfl rfl rfl rfl rfl rfl (by first | (intro y hy; cases hy; rfl) | exact map_hd _ _ (fun _ => rfl)) rfl rfl rfl (by first | omega | (simp; done) | (simp; omega)) rfl ?_ | refine x_appref tok rfl rfl rfl rfl rfl rfl rfl rfl rfl rfl rfl (by first | (intro y hy; cases hy; rfl) | exact map_hd _ _ (fun _ => rfl)) (by first | omega | (simp; done) | (simp; omega)) rfl ?_) | (refine is_un ?_; first | refine x_q (stp_neg rfl ⟨by omega, by omega⟩) rfl ?_) | (refine is_conv ?_; first | refine x_q (stp_conv_in tok rfl rfl rfl rfl ⟨by omega, by omega⟩) rfl ?_ | refine x_q (stp_conv tok rfl rfl rfl rfl) rfl ?_ | refine x_q (stp_convStr tok rfl rfl rfl rfl rfl rfl rfl (by first | rfl | assumption)) rfl ?_) | (refine is_slc ?_; first | refine x_slcL tok rfl rfl rfl rfl rfl (by first | (intro y hy; cases hy; rfl) | exact map_hd _ _ (fun _ => rfl) | (simp; done)) (by omega) (by simp; omega) (by first | exact List.map_drop.symm | rfl) rfl ?_ | refine x_slcH tok rfl rfl rfl rfl rfl (by first | (intro y hy; cases hy; rfl) | exact map_hd _ _ (fun _ => rfl) | (simp; done)) (by omega) (by simp; omega) (by first | exact List.map_take.symm | rfl) rfl ?_) | (refine is_mks ?_; refine x_mksK 2001 tok rfl rfl rfl rfl rfl rfl rfl rfl rfl rfl rfl rfl rfl (by omega) (by omega) rfl rfl rfl ?_) | refine x_autow tok rfl rfl rfl rfl ?_ | (refine is_sto ?_; first | refine x_autos tok rfl rfl rfl ?_ | refine x_stoa tok rfl rfl rfl (by first | rfl | assumption) rfl rfl rfl rfl rfl rfl ?_ | refine x_sto1 tok rfl rfl rfl (by first | rfl | assumption) rfl rfl rfl rfl rfl rfl rfl rfl ?_) | refine x_nil ?_ | refine x_nilD (by kernel_rfl) ?_) | (first | refine sim_seq ?_ | refine x_region ?_ | refine x_draw rfl ?_ | refine sim_cond_true rfl ?_ | refine sim_cond_false rfl ?_ | (refine sim_cond rfl (fun hc => ?_) (fun hc => ?_) <;> (try simp only [cmpB, decide_eq_true_eq, decide_eq_false_iff_not, beq_iff_eq, bne_iff_ne, ne_eq, Bool.not_eq_true, beq_eq_false_iff_ne, bne_eq_false_iff_eq, Int.not_lt, Int.not_le, Decidable.not_not] at hc)) | refine sim_skip ?_ | refine sim_ret ?_ | refine sim_exit ?_ | refine sim_block ?_)))
  (refine sim_cnt (N2) [3000, 2001, 3, 1001, 1002] [3, 1001, 1002] [1, 2, 3] [20, 19, 1, 2, 3] rfl (fun i T U => ⟨(20, iA i) :: (19, iA N2) :: T, (3000, .box [.ref 1001 0 nL, iA g, .ref 2001 0 N2, iA wt]) :: (2001, .arr 1 (enN f0 f1 i) false) :: U⟩) ?_; (conv => whnf); refine ⟨by (rw [hN2]; rfl), ?_, ?_⟩)
  · intro i hi
    have : i = 0 ∨ i = 1 := by omega
    rcases this with rfl | rfl
    · have hy : (enN f0 f1 0)[((0 : Nat) : Int).toNat]? = some (iA 0) := rfl
      have hl : (enN f0 f1 0).length = 2 := rfl
      (have zc1 := c0; refine WW ?_; clear zc1)
      rfl
    · have hy : (enN f0 f1 1)[((1 : Nat) : Int).toNat]? = some (iA 0) := rfl
      have hl : (enN f0 f1 1).length = 2 := rfl
      (have zc1 := c1; refine WW ?_; clear zc1)
      rfl
  · have e2 : enN f0 f1 N2 = [iA f0, iA f1] := by rw [hN2]; rfl
    rw [e2]
    (refine WW ?_)
    subst hN2
    exact fin_own0 [3000, 1001, 1002, 2001] rfl rfl rfl rfl
/-- A control in memory, its candidates under the key kn. -/
def ctH (c : Ct) (kn : Nat) : List (Nat × Ent) := [(3000, .box [.ref 1001 0 (c.li.map liA).length, iA c.gr, .ref kn 0 (c.nx.map iA).length, iA c.wt]), (1001, .arr 2 (c.li.map liA) false), (kn, .arr 1 (c.nx.map iA) false)]
/-- The same, entered: the candidates before lie there still. -/
def ctE (c : Ct) (o : List Int) : List (Nat × Ent) := [(3000, .box [.ref 1001 0 (c.li.map liA).length, iA c.gr, .ref 2001 0 (c.nx.map iA).length, iA c.wt]), (1001, .arr 2 (c.li.map liA) false), (1002, .arr 1 (o.map iA) false), (2001, .arr 1 (c.nx.map iA) false)]
theorem begin_c (j : Jn) (hn : j.ph.length ≤ 1000) (hcf : j.cf.length ≤ 40) (c : Ct) (hc : c.li.length = j.ph.length) (hm : c.nx.length = 2) (p : Nat) (hp : p < j.ph.length) (hr : 0 ≤ (phO j p).ring ∧ (phO j p).ring ≤ 1) (hg : kpF j c p = true ∨ c.gr = (phO j p).group) :
    CallSim Tryz.prog 94 [jnA j, .ptr 3000 0 0, iA (p : Int)] (ctH c 1002) (.tup []) (ctH (bgF j c p) 1002) := by
  have hlp := map_len phA j.ph
  have hll := map_len liA c.li
  have hln := map_len iA c.nx
  have hyp := map_at phA j.ph p hp
  change (j.ph.map phA)[p]? = some (phA (phO j p)) at hyp
  have cf := foll_c j hn (phO j p).ring (phO j p).group (p + 1)
  unfold bgF
  by_cases hk : kpF j c p = true
  case pos =>
    rw [if_pos hk]
    unfold kpF at hk
    rw [List.any_eq_true] at hk
    obtain ⟨q0, hq0, hk⟩ := hk
    rw [List.mem_range] at hq0
    unfold ctH
    (refine callSim_of tok Tryz.func94 rfl (fun args w => Tryz.call94 args w) rfl rfl rfl (fun F hF => ?_))
    (refine WW ?_)
    (refine sim_cntP (c.li.length) [3, 3000, 1001, 1002] [3, 3000, 1001, 1002] [1, 2, 3, 12, 13] [14, 1, 2, 3, 12, 13] rfl (fun i T U zs => (i ≤ q0) ∧ zs = ⟨(14, iA i) :: T, U⟩) ?_; (conv => whnf); refine ⟨?_, ?_, ?_⟩)
    · exact ⟨Nat.zero_le _, rfl⟩
    · rintro i st hi ⟨hiq, rfl⟩
      have hy := map_at liA c.li i hi
      change (c.li.map liA)[i]? = some (liA (liO c i)) at hy
      have ck := conf_c j.cf hcf p i
      by_cases hb : ((liO c i).lamp != 0 && cfP j.cf p i) = true
      · rw [Bool.and_eq_true] at hb
        have h1 : (liO c i).lamp ≠ 0 := by simpa using hb.1
        rw [hb.2] at ck
        generalize liO c i = t at *
        clear hb cf hk
        (have zc1 := ck; refine WW ?_; clear zc1)
        exact fin_own [3000, 1001, 1002] rfl rfl rfl rfl
      · have hne : i < q0 := by
          rcases Nat.lt_or_ge i q0 with h | h
          · exact h
          · rw [show i = q0 by omega] at hb
            exact absurd hk hb
        rw [Bool.and_eq_true] at hb
        by_cases h1 : (liO c i).lamp = 0
        · generalize liO c i = t at *
          clear hb hk
          (refine WW ?_)
          exact ⟨by omega, rfl⟩
        · have hq : cfP j.cf p i = false := by
            cases hq : cfP j.cf p i with
            | false => rfl
            | true => exact absurd ⟨by simpa using h1, hq⟩ hb
          rw [hq] at ck
          generalize liO c i = t at *
          clear hb hk
          (have zc1 := ck; refine WW ?_; clear zc1)
          exact ⟨by omega, rfl⟩
    · rintro st ⟨hiq, rfl⟩
      exfalso; omega
  have hkf : kpF j c p = false := by simpa using hk
  have hg2 : c.gr = (phO j p).group := by
    rcases hg with hg | hg
    · exact absurd hg hk
    · exact hg
  rw [if_neg hk]
  have eb : b2F j c p = b1F c p := by unfold b2F; rw [if_pos hg2]
  rw [eb]
  unfold kpF at hkf
  rw [List.any_eq_false] at hkf
  have h0 : ∀ q, q < c.li.length → ((liO c q).lamp != 0 && cfP j.cf p q) = false := fun q hq => by simpa using hkf q (List.mem_range.2 hq)
  unfold b1F ctH
  dsimp only
  rw [List.map_set, List.map_set, List.length_set, List.length_set]
  clear hkf hk eb hg
  generalize flF j (phO j p).ring (phO j p).group (p + 1) = fo at *
  obtain ⟨rn, hrn⟩ : ∃ n : Nat, (phO j p).ring = n := ⟨(phO j p).ring.toNat, by omega⟩
  have hyl := map_at liA c.li p (by omega)
  have hyr := map_at iA c.nx rn (by omega)
  generalize hx1 : liO c p = l0 at *
  change (c.li.map liA)[p]? = some (liA (liO c p)) at hyl
  rw [hx1] at hyl
  generalize c.nx.getD rn default = n0 at *
  (refine callSim_of tok Tryz.func94 rfl (fun args w => Tryz.call94 args w) rfl rfl rfl (fun F hF => ?_))
  (refine WW ?_)
  (refine sim_cnt (c.li.length) [3, 3000, 1001, 1002] [3, 3000, 1001, 1002] [1, 2, 3, 12, 13] [14, 1, 2, 3, 12, 13] rfl (fun i T U => ⟨(14, iA i) :: T, U⟩) ?_; (conv => whnf); refine ⟨by rfl, ?_, ?_⟩)
  · intro i hi
    have hy := map_at liA c.li i hi
    change (c.li.map liA)[i]? = some (liA (liO c i)) at hy
    have ck := conf_c j.cf hcf p i
    have hb := h0 i hi
    clear h0 hyl hyr cf
    by_cases h1 : (liO c i).lamp = 0
    · generalize liO c i = t at *
      clear hb
      (refine WW ?_)
      rfl
    · have hq : cfP j.cf p i = false := by
        cases hq : cfP j.cf p i with
        | false => rfl
        | true =>
          rw [hq, Bool.and_true] at hb
          exact absurd (by simpa using hb) h1
      rw [hq] at ck
      generalize liO c i = t at *
      clear hb
      (have zc1 := ck; refine WW ?_; clear zc1)
      rfl
  · clear h0
    generalize phO j p = t at *
    rw [hrn, Int.toNat_natCast]
    have et : phA t = .agg [iA rn, iA t.group, iA t.ming, iA t.maxg, iA t.yel, iA t.red, iA t.walk, iA t.clear] := by rw [← hrn]; rfl
    rw [et] at hyp
    rw [hrn] at cf
    (have zc1 := cf; refine WW ?_; clear zc1)
    exact fin_own0 [3000, 1001, 1002] rfl rfl rfl rfl
theorem begin_d (j : Jn) (hn : j.ph.length ≤ 1000) (hcf : j.cf.length ≤ 40) (c : Ct) (hc : c.li.length = j.ph.length) (hm : c.nx.length = 2) (p : Nat) (hp : p < j.ph.length) (hr : 0 ≤ (phO j p).ring ∧ (phO j p).ring ≤ 1) (hg : kpF j c p = true ∨ c.gr = (phO j p).group) :
    CallSim Tryz.prog 94 [jnA j, .ptr 3000 0 0, iA (p : Int)] (ctH c 2001) (.tup []) (ctH (bgF j c p) 2001) := by
  have hlp := map_len phA j.ph
  have hll := map_len liA c.li
  have hln := map_len iA c.nx
  have hyp := map_at phA j.ph p hp
  change (j.ph.map phA)[p]? = some (phA (phO j p)) at hyp
  have cf := foll_c j hn (phO j p).ring (phO j p).group (p + 1)
  unfold bgF
  by_cases hk : kpF j c p = true
  case pos =>
    rw [if_pos hk]
    unfold kpF at hk
    rw [List.any_eq_true] at hk
    obtain ⟨q0, hq0, hk⟩ := hk
    rw [List.mem_range] at hq0
    unfold ctH
    (refine callSim_of tok Tryz.func94 rfl (fun args w => Tryz.call94 args w) rfl rfl rfl (fun F hF => ?_))
    (refine WW ?_)
    (refine sim_cntP (c.li.length) [3, 3000, 1001, 2001] [3, 3000, 1001, 2001] [1, 2, 3, 12, 13] [14, 1, 2, 3, 12, 13] rfl (fun i T U zs => (i ≤ q0) ∧ zs = ⟨(14, iA i) :: T, U⟩) ?_; (conv => whnf); refine ⟨?_, ?_, ?_⟩)
    · exact ⟨Nat.zero_le _, rfl⟩
    · rintro i st hi ⟨hiq, rfl⟩
      have hy := map_at liA c.li i hi
      change (c.li.map liA)[i]? = some (liA (liO c i)) at hy
      have ck := conf_c j.cf hcf p i
      by_cases hb : ((liO c i).lamp != 0 && cfP j.cf p i) = true
      · rw [Bool.and_eq_true] at hb
        have h1 : (liO c i).lamp ≠ 0 := by simpa using hb.1
        rw [hb.2] at ck
        generalize liO c i = t at *
        clear hb cf hk
        (have zc1 := ck; refine WW ?_; clear zc1)
        exact fin_own [3000, 1001, 2001] rfl rfl rfl rfl
      · have hne : i < q0 := by
          rcases Nat.lt_or_ge i q0 with h | h
          · exact h
          · rw [show i = q0 by omega] at hb
            exact absurd hk hb
        rw [Bool.and_eq_true] at hb
        by_cases h1 : (liO c i).lamp = 0
        · generalize liO c i = t at *
          clear hb hk
          (refine WW ?_)
          exact ⟨by omega, rfl⟩
        · have hq : cfP j.cf p i = false := by
            cases hq : cfP j.cf p i with
            | false => rfl
            | true => exact absurd ⟨by simpa using h1, hq⟩ hb
          rw [hq] at ck
          generalize liO c i = t at *
          clear hb hk
          (have zc1 := ck; refine WW ?_; clear zc1)
          exact ⟨by omega, rfl⟩
    · rintro st ⟨hiq, rfl⟩
      exfalso; omega
  have hkf : kpF j c p = false := by simpa using hk
  have hg2 : c.gr = (phO j p).group := by
    rcases hg with hg | hg
    · exact absurd hg hk
    · exact hg
  rw [if_neg hk]
  have eb : b2F j c p = b1F c p := by unfold b2F; rw [if_pos hg2]
  rw [eb]
  unfold kpF at hkf
  rw [List.any_eq_false] at hkf
  have h0 : ∀ q, q < c.li.length → ((liO c q).lamp != 0 && cfP j.cf p q) = false := fun q hq => by simpa using hkf q (List.mem_range.2 hq)
  unfold b1F ctH
  dsimp only
  rw [List.map_set, List.map_set, List.length_set, List.length_set]
  clear hkf hk eb hg
  generalize flF j (phO j p).ring (phO j p).group (p + 1) = fo at *
  obtain ⟨rn, hrn⟩ : ∃ n : Nat, (phO j p).ring = n := ⟨(phO j p).ring.toNat, by omega⟩
  have hyl := map_at liA c.li p (by omega)
  have hyr := map_at iA c.nx rn (by omega)
  generalize hx1 : liO c p = l0 at *
  change (c.li.map liA)[p]? = some (liA (liO c p)) at hyl
  rw [hx1] at hyl
  generalize c.nx.getD rn default = n0 at *
  (refine callSim_of tok Tryz.func94 rfl (fun args w => Tryz.call94 args w) rfl rfl rfl (fun F hF => ?_))
  (refine WW ?_)
  (refine sim_cnt (c.li.length) [3, 3000, 1001, 2001] [3, 3000, 1001, 2001] [1, 2, 3, 12, 13] [14, 1, 2, 3, 12, 13] rfl (fun i T U => ⟨(14, iA i) :: T, U⟩) ?_; (conv => whnf); refine ⟨by rfl, ?_, ?_⟩)
  · intro i hi
    have hy := map_at liA c.li i hi
    change (c.li.map liA)[i]? = some (liA (liO c i)) at hy
    have ck := conf_c j.cf hcf p i
    have hb := h0 i hi
    clear h0 hyl hyr cf
    by_cases h1 : (liO c i).lamp = 0
    · generalize liO c i = t at *
      clear hb
      (refine WW ?_)
      rfl
    · have hq : cfP j.cf p i = false := by
        cases hq : cfP j.cf p i with
        | false => rfl
        | true =>
          rw [hq, Bool.and_true] at hb
          exact absurd (by simpa using hb) h1
      rw [hq] at ck
      generalize liO c i = t at *
      clear hb
      (have zc1 := ck; refine WW ?_; clear zc1)
      rfl
  · clear h0
    generalize phO j p = t at *
    rw [hrn, Int.toNat_natCast]
    have et : phA t = .agg [iA rn, iA t.group, iA t.ming, iA t.maxg, iA t.yel, iA t.red, iA t.walk, iA t.clear] := by rw [← hrn]; rfl
    rw [et] at hyp
    rw [hrn] at cf
    (have zc1 := cf; refine WW ?_; clear zc1)
    exact fin_own0 [3000, 1001, 2001] rfl rfl rfl rfl
theorem begin_e (j : Jn) (hn : j.ph.length ≤ 1000) (hcf : j.cf.length ≤ 40) (c : Ct) (hc : c.li.length = j.ph.length) (hm : c.nx.length = 2) (p : Nat) (hp : p < j.ph.length) (hr : 0 ≤ (phO j p).ring ∧ (phO j p).ring ≤ 1) (hkf : kpF j c p = false) (hg2 : c.gr ≠ (phO j p).group) :
    CallSim Tryz.prog 94 [jnA j, .ptr 3000 0 0, iA (p : Int)] (ctH c 1002) (.tup []) (ctE (bgF j c p) c.nx) := by
  have hlp := map_len phA j.ph
  have hll := map_len liA c.li
  have hln := map_len iA c.nx
  have hyp := map_at phA j.ph p hp
  change (j.ph.map phA)[p]? = some (phA (phO j p)) at hyp
  have cf := foll_c j hn (phO j p).ring (phO j p).group (p + 1)
  unfold bgF
  rw [if_neg (by rw [hkf]; decide)]
  have eb : b2F j c p = etF j (b1F c p) (phO j p).group := by unfold b2F; rw [if_neg hg2]
  rw [eb]
  unfold kpF at hkf
  rw [List.any_eq_false] at hkf
  have h0 : ∀ q, q < c.li.length → ((liO c q).lamp != 0 && cfP j.cf p q) = false := fun q hq => by simpa using hkf q (List.mem_range.2 hq)
  have ce := enter_c j hn (phO j p).group c.gr c.wt ((c.li.map liA).set p (liA ⟨1, 0⟩)) (c.nx.map iA) (c.li.map liA).length (c.nx.map iA).length
  unfold etF b1F ctH ctE
  dsimp only
  rw [List.map_set, List.map_set, List.length_set, List.length_set]
  rw [show ([flF j 0 (phO j p).group 0, flF j 1 (phO j p).group 0].map iA) = [iA (flF j 0 (phO j p).group 0), iA (flF j 1 (phO j p).group 0)] from rfl]
  have hfx : (([iA (flF j 0 (phO j p).group 0), iA (flF j 1 (phO j p).group 0)] : List AV)).length = 2 := rfl
  rw [hfx]
  have hyf : ∃ v, ([iA (flF j 0 (phO j p).group 0), iA (flF j 1 (phO j p).group 0)] : List AV)[(phO j p).ring.toNat]? = some (iA v) := by
    have : (phO j p).ring = 0 ∨ (phO j p).ring = 1 := by omega
    rcases this with h | h <;> rw [h]
    · exact ⟨_, rfl⟩
    · exact ⟨_, rfl⟩
  obtain ⟨v0, hyf⟩ := hyf
  generalize ([iA (flF j 0 (phO j p).group 0), iA (flF j 1 (phO j p).group 0)] : List AV) = fx at *
  clear hkf eb
  generalize flF j (phO j p).ring (phO j p).group (p + 1) = fo at *
  obtain ⟨rn, hrn⟩ : ∃ n : Nat, (phO j p).ring = n := ⟨(phO j p).ring.toNat, by omega⟩
  have hyl := map_at liA c.li p (by omega)
  rw [hrn, Int.toNat_natCast] at hyf
  generalize hx1 : liO c p = l0 at *
  change (c.li.map liA)[p]? = some (liA (liO c p)) at hyl
  rw [hx1] at hyl
  (refine callSim_of tok Tryz.func94 rfl (fun args w => Tryz.call94 args w) rfl rfl rfl (fun F hF => ?_))
  (refine WW ?_)
  (refine sim_cnt (c.li.length) [3, 3000, 1001, 1002] [3, 3000, 1001, 1002] [1, 2, 3, 12, 13] [14, 1, 2, 3, 12, 13] rfl (fun i T U => ⟨(14, iA i) :: T, U⟩) ?_; (conv => whnf); refine ⟨by rfl, ?_, ?_⟩)
  · intro i hi
    have hy := map_at liA c.li i hi
    change (c.li.map liA)[i]? = some (liA (liO c i)) at hy
    have ck := conf_c j.cf hcf p i
    have hb := h0 i hi
    clear h0 hyl cf ce
    by_cases h1 : (liO c i).lamp = 0
    · generalize liO c i = t at *
      clear hb
      (refine WW ?_)
      rfl
    · have hq : cfP j.cf p i = false := by
        cases hq : cfP j.cf p i with
        | false => rfl
        | true =>
          rw [hq, Bool.and_true] at hb
          exact absurd (by simpa using hb) h1
      rw [hq] at ck
      generalize liO c i = t at *
      clear hb
      (have zc1 := ck; refine WW ?_; clear zc1)
      rfl
  · clear h0
    generalize phO j p = t at *
    rw [hrn, Int.toNat_natCast]
    have et : phA t = .agg [iA rn, iA t.group, iA t.ming, iA t.maxg, iA t.yel, iA t.red, iA t.walk, iA t.clear] := by rw [← hrn]; rfl
    rw [et] at hyp
    rw [hrn] at cf
    (have zc1 := ce; have zc2 := cf; refine WW ?_; clear zc1 zc2)
    exact fin_own0 [3000, 1001, 1002, 2001] rfl rfl rfl rfl
end Av
end Go.Proofs.YtkliodbbcblobaaGreat
