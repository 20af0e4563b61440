
/- Rings: cycle. -/
import Derived.Test.YtkliodbbcblobaaGreatRiH
namespace Go.Proofs.YtkliodbbcblobaaGreat
namespace Av
set_option linter.unusedSimpArgs false
set_option linter.unusedVariables false
set_option maxRecDepth 4000
set_option maxHeartbeats 1000000
theorem allred_t (c : Ct) (hn : c.li.length ≤ 1000) : CallSim Tryz.prog 90 [ctT c] [] (bA (arF c)) [] := by rw [ctT_eq]; exact allred_c c hn
def ovN (c : Ct) (i : Nat) : Bool := arF c && (c.nx.take i).all fun p => p == -1
theorem ovN_succ (c : Ct) (i : Nat) (hi : i < c.nx.length) : ovN c (i + 1) = (ovN c i && (c.nx.getD i default == -1)) := by
  unfold ovN
  rw [← List.take_append_getElem hi, List.all_append]
  simp [List.getD, hi, Bool.and_assoc]
def cySt (j : Jn) (e : Bool) (i : Int) (c : Ct) (o : List Int) : St := ⟨[(36, iA i), (1, .ptr 3000 0 0), (2, .ptr 2 0 0)], ctX e c o ++ [(2, .box [slA phA j.ph, slA iA j.cf, iA j.st])]⟩
theorem cycle_c (j : Jn) (J : JV j) (c : Ct) (C : CV j c) (h0 : c.wt = 0) : CallSim Tryz.prog 63 [jnA j, .ptr 3000 0 0] (ctH c 1002) (.tup []) (ctX (cyO c) (cyF j c) c.nx) := by
  have hn := J.n
  have hn8 : j.ph.length ≤ 1000 := by omega
  have hjc := J.c
  have hlp := map_len phA j.ph
  have hll := map_len liA c.li
  have hln := map_len iA c.nx
  have hcn := C.n
  have hcm := C.m
  have ca := allred_t c (by omega)
  have cg := groups_c j hn8 J.gp
  have hgp := grF_pos J
  have hgl : grF j ≤ 4 := by
    have : ∀ n, n ≤ j.ph.length → grN j.ph n ≤ 4 := fun n => by
      induction n with
      | zero => intro _; show (0 : Int) ≤ 4; omega
      | succ n ih =>
        intro h
        have h1 := ih (by omega)
        have h2 := J.gp n (by omega)
        unfold phO at h2
        unfold grN
        omega
    exact this _ (Nat.le_refl _)
  have hcg := C.g
  have htm : (c.gr + 1).tmod (grF j) = (c.gr + 1) % grF j := Int.tmod_eq_emod_of_nonneg (by omega)
  have hO : ovN c c.nx.length = cyO c := by unfold ovN cyO; rw [List.take_length]
  refine callSim_of tok Tryz.func63 rfl (fun args w => Tryz.call63 args w) rfl rfl (ctX_nd _ _ _) (fun F hF => ?_)
  unfold ctH
  have ho0 : ovN c 0 = arF c := by unfold ovN; simp
  rw [← ho0] at ca
  (have zc1 := ca; refine WW ?_; clear zc1)
  (refine sim_cnt (c.nx.length) [2, 3000, 1001, 1002] [2, 3000, 1001, 1002] [1, 2, 15, 16] [4, 17, 1, 2, 15, 16] rfl (fun i T U => ⟨(4, bA (ovN c i)) :: (17, iA i) :: T, U⟩) ?_; (conv => whnf); refine ⟨by rfl, ?_, ?_⟩)
  · intro i hi
    have hy := map_at iA c.nx i hi
    have es := ovN_succ c i hi
    rw [es]
    generalize ovN c i = o at *
    generalize c.nx.getD i default = x at *
    by_cases hx : x = -1
    · rw [show (x == -1) = true by rw [beq_iff_eq]; exact hx, Bool.and_true]
      clear ca cg
      (refine WW ?_)
      rfl
    · rw [show (x == -1) = false by rw [beq_eq_false_iff_ne]; exact hx, Bool.and_false]
      clear ca cg
      (refine WW ?_)
      rfl
  · rw [hO]
    clear hO ho0 ca
    cases hco : cyO c with
    | true =>
      have hcy : cyF j c = cyS j (cyS j (etF j c ((c.gr + 1) % grF j)) 0) 1 := by unfold cyF; rw [if_pos hco]
      rw [hcy]
      have hgm : 0 ≤ (c.gr + 1) % grF j ∧ (c.gr + 1) % grF j < grF j := ⟨Int.emod_nonneg _ (by omega), Int.emod_lt_of_pos _ (by omega)⟩
      have C_c0 := cv_et C hgm
      have hw0 : (etF j c ((c.gr + 1) % grF j)).wt = 0 := h0
      have ce := enter_c j hn8 ((c.gr + 1) % grF j) c.gr c.wt (c.li.map liA) (c.nx.map iA) (c.li.map liA).length (c.nx.map iA).length
      rw [show ([(3000, .box [.ref 1001 0 (c.li.map liA).length, iA ((c.gr + 1) % grF j), .ref 2001 0 2, iA c.wt]), (1001, .arr 2 (c.li.map liA) false), (1002, .arr 1 (c.nx.map iA) false), (2001, .arr 1 [iA (flF j 0 ((c.gr + 1) % grF j) 0), iA (flF j 1 ((c.gr + 1) % grF j) 0)] false)] : List (Nat × Ent)) = ctE (etF j c ((c.gr + 1) % grF j)) c.nx from rfl] at ce
      rw [← htm] at ce
      rw [htm] at ce
      generalize hc0 : etF j c ((c.gr + 1) % grF j) = c0 at *
      rw [← htm] at ce
      have hne : ¬ grF j = 0 := by omega
      generalize grF j = gm at *
      have hc_c0 := C_c0.n
      have hm_c0 := C_c0.m
      obtain ⟨C_c1, h01⟩ := cv_cy1 J C_c0 hw0 (r := 0) (by omega)
      have hc_c1 := C_c1.n
      have hm_c1 := C_c1.m
      change CV j (cyS j c0 0) at C_c1
      change (cyS j c0 0).li.length = j.ph.length at hc_c1
      change (cyS j c0 0).nx.length = 2 at hm_c1
      clear hcy hc0 C
      unfold ctE at ce
      (have zc1 := cg; have zc2 := ce; refine WW ?_; clear zc1 zc2)

      refine sim_two [3000, 1001, 1002, 2001, 2] [36, 1, 2] (cySt j true 0 c0 c.nx) (cySt j true 1 (cyS j c0 0) c.nx) (cySt j true 2 (cyS j (cyS j c0 0) 1) c.nx) rfl rfl ?_ ?_ ?_
      · unfold cySt
        rw [show ctX true c0 c.nx = ctE c0 c.nx from rfl]
        unfold ctE
        have cd := dark_t j hn8 c0 hc_c0 0
        have hyn := map_at iA c0.nx 0 (by omega)
        have hv := C_c0.v 0 (by omega)
        have hnl : (c0.nx.map iA).length = 2 := by rw [List.length_map]; exact hm_c0
        cases hd : dkF j c0 0 with
        | false =>
          rw [hd] at cd
          rw [show cyS j c0 0 = c0 by unfold cyS; rw [if_neg (by rw [hd]; simp)]]
          clear hd
          (have zc1 := cd; refine WW ?_; clear zc1)
          rfl
        | true =>
        rw [hd] at cd
        have hsv : cyS j c0 0 = if c0.nx.getD 0 default = -1 then c0 else bgF j c0 (c0.nx.getD 0 default).toNat := by
          unfold cyS
          rw [hd]
          show (if true = true ∧ c0.nx.getD 0 default ≠ -1 then bgF j c0 (c0.nx.getD 0 default).toNat else c0) = _
          by_cases h : c0.nx.getD 0 default = -1
          · rw [if_pos h, if_neg (fun k => k.2 h)]
          · rw [if_neg h, if_pos ⟨rfl, h⟩]
        clear hd
        by_cases hm1 : c0.nx.getD 0 default = -1
        · rw [if_pos hm1] at hsv
          rw [hsv]
          clear hsv hv
          generalize c0.nx.getD 0 default = x at *
          (have zc1 := cd; refine WW ?_; clear zc1)
          rfl
        · rw [if_neg hm1] at hsv
          have hin : InO j (0 : Nat) c0.gr (c0.nx.getD 0 default) := by
            rcases hv with h | h
            · exact absurd h hm1
            · exact h
          obtain ⟨i1, i2, i3, i4⟩ := hin
          obtain ⟨p, hpe⟩ : ∃ p : Nat, c0.nx.getD 0 default = p := ⟨(c0.nx.getD 0 default).toNat, by omega⟩
          rw [hpe] at hsv hyn hm1 i2 i4
          rw [Int.toNat_natCast] at hsv i4
          have hp : p < j.ph.length := by omega
          have cb := begin_d j hn8 (by omega) c0 hc_c0 hm_c0 p hp (J.rg p hp) (.inr i4.symm)
          rw [hsv]
          clear hsv hv i1 i2 i3 i4 hpe
          generalize bgF j c0 p = b at *
          unfold ctH at cb
          (have zc1 := cd; have zc2 := cb; refine WW ?_; clear zc1 zc2)
          rfl
      · generalize cyS j c0 0 = c1 at *
        unfold cySt
        rw [show ctX true c1 c.nx = ctE c1 c.nx from rfl]
        unfold ctE
        have cd := dark_t j hn8 c1 hc_c1 1
        have hyn := map_at iA c1.nx 1 (by omega)
        have hv := C_c1.v 1 (by omega)
        have hnl : (c1.nx.map iA).length = 2 := by rw [List.length_map]; exact hm_c1
        cases hd : dkF j c1 1 with
        | false =>
          rw [hd] at cd
          rw [show cyS j c1 1 = c1 by unfold cyS; rw [if_neg (by rw [hd]; simp)]]
          clear hd
          (have zc1 := cd; refine WW ?_; clear zc1)
          rfl
        | true =>
        rw [hd] at cd
        have hsv : cyS j c1 1 = if c1.nx.getD 1 default = -1 then c1 else bgF j c1 (c1.nx.getD 1 default).toNat := by
          unfold cyS
          rw [hd]
          show (if true = true ∧ c1.nx.getD 1 default ≠ -1 then bgF j c1 (c1.nx.getD 1 default).toNat else c1) = _
          by_cases h : c1.nx.getD 1 default = -1
          · rw [if_pos h, if_neg (fun k => k.2 h)]
          · rw [if_neg h, if_pos ⟨rfl, h⟩]
        clear hd
        by_cases hm1 : c1.nx.getD 1 default = -1
        · rw [if_pos hm1] at hsv
          rw [hsv]
          clear hsv hv
          generalize c1.nx.getD 1 default = x at *
          (have zc1 := cd; refine WW ?_; clear zc1)
          rfl
        · rw [if_neg hm1] at hsv
          have hin : InO j (1 : Nat) c1.gr (c1.nx.getD 1 default) := by
            rcases hv with h | h
            · exact absurd h hm1
            · exact h
          obtain ⟨i1, i2, i3, i4⟩ := hin
          obtain ⟨p, hpe⟩ : ∃ p : Nat, c1.nx.getD 1 default = p := ⟨(c1.nx.getD 1 default).toNat, by omega⟩
          rw [hpe] at hsv hyn hm1 i2 i4
          rw [Int.toNat_natCast] at hsv i4
          have hp : p < j.ph.length := by omega
          have cb := begin_d j hn8 (by omega) c1 hc_c1 hm_c1 p hp (J.rg p hp) (.inr i4.symm)
          rw [hsv]
          clear hsv hv i1 i2 i3 i4 hpe
          generalize bgF j c1 p = b at *
          unfold ctH at cb
          (have zc1 := cd; have zc2 := cb; refine WW ?_; clear zc1 zc2)
          rfl
      · generalize cyS j (cyS j c0 0) 1 = c2 at *
        unfold cySt
        (refine WW ?_)
        exact fin_own0 [3000, 1001, 1002, 2001] rfl rfl rfl rfl
    | false =>
      have hcy : cyF j c = cyS j (cyS j c 0) 1 := by unfold cyF; rw [if_neg (by rw [hco]; decide)]
      rw [hcy]
      clear cg htm hcy hgp hgl hcg
      have C_c := C
      have hc_c := hcn
      have hm_c := hcm
      obtain ⟨C_c1, h01⟩ := cv_cy1 J C h0 (r := 0) (by omega)
      have hc_c1 := C_c1.n
      have hm_c1 := C_c1.m
      change CV j (cyS j c 0) at C_c1
      change (cyS j c 0).li.length = j.ph.length at hc_c1
      change (cyS j c 0).nx.length = 2 at hm_c1
      (refine WW ?_)
      clear hco

      refine sim_two [3000, 1001, 1002, 2001, 2] [36, 1, 2] (cySt j false 0 c c.nx) (cySt j false 1 (cyS j c 0) c.nx) (cySt j false 2 (cyS j (cyS j c 0) 1) c.nx) rfl rfl ?_ ?_ ?_
      · unfold cySt
        rw [show ctX false c c.nx = ctH c 1002 from rfl]
        unfold ctH
        have cd := dark_t j hn8 c hc_c 0
        have hyn := map_at iA c.nx 0 (by omega)
        have hv := C_c.v 0 (by omega)
        have hnl : (c.nx.map iA).length = 2 := by rw [List.length_map]; exact hm_c
        cases hd : dkF j c 0 with
        | false =>
          rw [hd] at cd
          rw [show cyS j c 0 = c by unfold cyS; rw [if_neg (by rw [hd]; simp)]]
          clear hd
          (have zc1 := cd; refine WW ?_; clear zc1)
          rfl
        | true =>
        rw [hd] at cd
        have hsv : cyS j c 0 = if c.nx.getD 0 default = -1 then c else bgF j c (c.nx.getD 0 default).toNat := by
          unfold cyS
          rw [hd]
          show (if true = true ∧ c.nx.getD 0 default ≠ -1 then bgF j c (c.nx.getD 0 default).toNat else c) = _
          by_cases h : c.nx.getD 0 default = -1
          · rw [if_pos h, if_neg (fun k => k.2 h)]
          · rw [if_neg h, if_pos ⟨rfl, h⟩]
        clear hd
        by_cases hm1 : c.nx.getD 0 default = -1
        · rw [if_pos hm1] at hsv
          rw [hsv]
          clear hsv hv
          generalize c.nx.getD 0 default = x at *
          (have zc1 := cd; refine WW ?_; clear zc1)
          rfl
        · rw [if_neg hm1] at hsv
          have hin : InO j (0 : Nat) c.gr (c.nx.getD 0 default) := by
            rcases hv with h | h
            · exact absurd h hm1
            · exact h
          obtain ⟨i1, i2, i3, i4⟩ := hin
          obtain ⟨p, hpe⟩ : ∃ p : Nat, c.nx.getD 0 default = p := ⟨(c.nx.getD 0 default).toNat, by omega⟩
          rw [hpe] at hsv hyn hm1 i2 i4
          rw [Int.toNat_natCast] at hsv i4
          have hp : p < j.ph.length := by omega
          have cb := begin_c j hn8 (by omega) c hc_c hm_c p hp (J.rg p hp) (.inr i4.symm)
          rw [hsv]
          clear hsv hv i1 i2 i3 i4 hpe
          generalize bgF j c p = b at *
          unfold ctH at cb
          (have zc1 := cd; have zc2 := cb; refine WW ?_; clear zc1 zc2)
          rfl
      · generalize cyS j c 0 = c1 at *
        unfold cySt
        rw [show ctX false c1 c.nx = ctH c1 1002 from rfl]
        unfold ctH
        have cd := dark_t j hn8 c1 hc_c1 1
        have hyn := map_at iA c1.nx 1 (by omega)
        have hv := C_c1.v 1 (by omega)
        have hnl : (c1.nx.map iA).length = 2 := by rw [List.length_map]; exact hm_c1
        cases hd : dkF j c1 1 with
        | false =>
          rw [hd] at cd
          rw [show cyS j c1 1 = c1 by unfold cyS; rw [if_neg (by rw [hd]; simp)]]
          clear hd
          (have zc1 := cd; refine WW ?_; clear zc1)
          rfl
        | true =>
        rw [hd] at cd
        have hsv : cyS j c1 1 = if c1.nx.getD 1 default = -1 then c1 else bgF j c1 (c1.nx.getD 1 default).toNat := by
          unfold cyS
          rw [hd]
          show (if true = true ∧ c1.nx.getD 1 default ≠ -1 then bgF j c1 (c1.nx.getD 1 default).toNat else c1) = _
          by_cases h : c1.nx.getD 1 default = -1
          · rw [if_pos h, if_neg (fun k => k.2 h)]
          · rw [if_neg h, if_pos ⟨rfl, h⟩]
        clear hd
        by_cases hm1 : c1.nx.getD 1 default = -1
        · rw [if_pos hm1] at hsv
          rw [hsv]
          clear hsv hv
          generalize c1.nx.getD 1 default = x at *
          (have zc1 := cd; refine WW ?_; clear zc1)
          rfl
        · rw [if_neg hm1] at hsv
          have hin : InO j (1 : Nat) c1.gr (c1.nx.getD 1 default) := by
            rcases hv with h | h
            · exact absurd h hm1
            · exact h
          obtain ⟨i1, i2, i3, i4⟩ := hin
          obtain ⟨p, hpe⟩ : ∃ p : Nat, c1.nx.getD 1 default = p := ⟨(c1.nx.getD 1 default).toNat, by omega⟩
          rw [hpe] at hsv hyn hm1 i2 i4
          rw [Int.toNat_natCast] at hsv i4
          have hp : p < j.ph.length := by omega
          have cb := begin_c j hn8 (by omega) c1 hc_c1 hm_c1 p hp (J.rg p hp) (.inr i4.symm)
          rw [hsv]
          clear hsv hv i1 i2 i3 i4 hpe
          generalize bgF j c1 p = b at *
          unfold ctH at cb
          (have zc1 := cd; have zc2 := cb; refine WW ?_; clear zc1 zc2)
          rfl
      · generalize cyS j (cyS j c 0) 1 = c2 at *
        unfold cySt
        (refine WW ?_)
        exact fin_own0 [3000, 1001, 1002] rfl rfl rfl rfl
end Av
end Go.Proofs.YtkliodbbcblobaaGreat
