
/- Rings: sets, clashes, groups, valid controls. -/
import Derived.Test.YtkliodbbcblobaaGreatRiA
import Derived.Test.YtkliodbbcblobaaGreatBits
namespace Go.Proofs.YtkliodbbcblobaaGreat
namespace Av
set_option linter.unusedSimpArgs false
set_option linter.unusedVariables false
set_option maxRecDepth 4000
set_option maxHeartbeats 1000000
def inS (s p : Int) : Bool := andI (shrI s p) 1 == 1
theorem in_fin : ∀ (s : _root_.Fin 256) (p : _root_.Fin 8), cmpB BinOp.eql (IntKind.u64.wrap ((BitVec.ofInt IntKind.u64.bits (Int.fdiv (s.val : Int) (2 ^ min (p.val : Int).toNat IntKind.u64.bits)) &&& BitVec.ofInt IntKind.u64.bits 1).toNat : Int)) 1 = inS s.val p.val := by decide +kernel
theorem min_c (s p : Int) (hs : 0 ≤ s ∧ s < 256) (hp : 0 ≤ p ∧ p < 8) : CallSim Tryz.prog 100 [iA s, iA p] [] (bA (inS s p)) [] := by
  have hf := in_fin ⟨s.toNat, by omega⟩ ⟨p.toNat, by omega⟩
  rw [show ((s.toNat : Nat) : Int) = s by omega, show ((p.toNat : Nat) : Int) = p by omega] at hf
  generalize inS s p = q at *
  subst hf
  (refine callSim_of tok Tryz.func100 rfl (fun args w => Tryz.call100 args w) rfl rfl rfl (fun F hF => ?_))
  (repeat' (first | (refine is_ops ?_; first | refine x_auto tok rfl rfl ?_ | (refine is_call ?_; fail) | (refine is_grd ?_; first | refine x_on rfl rfl ?_ | refine x_off rfl rfl rfl rfl ?_ | (refine x_gsplit rfl rfl (fun hc => ?_) (fun hc => ?_) <;> (try simp only [cmpB, decide_eq_true_eq, decide_eq_false_iff_not, beq_iff_eq, bne_iff_ne, ne_eq, Bool.not_eq_true, beq_eq_false_iff_ne, bne_eq_false_iff_eq, Int.not_lt, Int.not_le, Decidable.not_not] at hc))) | (refine is_bin ?_; first | refine x_q (stp_cmp_t rfl rfl rfl (by unfold cmpP; omega)) rfl ?_ | refine x_q (stp_cmp_f rfl rfl rfl (by unfold cmpP; omega)) rfl ?_ | refine x_q (stp_cmp rfl rfl rfl) rfl ?_ | refine x_q (stp_add rfl rfl ⟨by omega, by omega⟩) rfl ?_ | refine x_q (stp_sub rfl rfl ⟨by omega, by omega⟩) rfl ?_ | refine x_q (stp_mul rfl rfl ⟨by omega, by omega⟩) rfl ?_ | refine x_q (stp_quo rfl rfl (by assumption) (by omega)) rfl ?_ | refine x_q (stp_rem rfl rfl (by omega)) rfl ?_ | refine x_q (stp_xor rfl rfl) rfl ?_ | refine x_q (stp_shlI rfl rfl (by omega)) rfl ?_ | refine x_q (stp_shrI rfl rfl (by omega)) rfl ?_ | refine x_q (stp_shift (.inl ⟨rfl, rfl⟩) rfl rfl (by omega)) rfl ?_ | refine x_q (stp_shift (.inr ⟨rfl, rfl⟩) rfl rfl (by omega)) rfl ?_ | refine x_q (stp_bool2 tok rfl rfl rfl rfl (.inl ⟨rfl, rfl⟩)) rfl ?_ | refine x_q (stp_bool2 tok rfl rfl rfl rfl (.inr ⟨rfl, rfl⟩)) rfl ?_ | refine x_q (stp_eqlNil tok (.inl ⟨rfl, rfl⟩) rfl rfl rfl) rfl ?_ | refine x_q (stp_eqlNil_not tok (.inl ⟨rfl, rfl⟩) rfl rfl rfl rfl) rfl ?_ | refine x_q (stp_andI rfl rfl) rfl ?_ | refine x_q (stp_orI rfl rfl) rfl ?_ | refine x_q (stp_bicI rfl rfl) rfl ?_ | refine x_q (stp_strEqV rfl rfl (by assumption)) rfl ?_ | refine x_q (stp_strEq rfl rfl) rfl ?_ | refine x_q (stp_strNeV rfl rfl (by assumption)) rfl ?_ | refine x_q (stp_strNe rfl rfl) rfl ?_) | (refine is_idx ?_; first | refine x_q (stp_indexAddr_sl tok rfl rfl rfl rfl rfl (by omega) (by first | rfl | assumption) rfl rfl) rfl ?_ | refine x_q (stp_indexAddr_r0 tok rfl rfl rfl rfl rfl rfl (by omega) (by omega) rfl) rfl ?_ | refine x_q (stp_indexAddr_box tok rfl rfl rfl rfl rfl rfl (by omega) (by omega)) rfl ?_) | (refine is_load ?_; first | refine x_q (stp_load_fp1 tok rfl rfl rfl (by first | rfl | assumption) rfl) rfl ?_ | refine x_q (stp_load_fpa tok rfl rfl rfl (by first | rfl | assumption) rfl) rfl ?_ | refine x_q (stp_load_arr1 tok rfl rfl rfl rfl (by first | rfl | assumption) rfl) rfl ?_ | refine x_q (stp_load_arra tok rfl rfl rfl rfl (by first | rfl | assumption) rfl) rfl ?_) | (refine is_fad ?_; first | refine x_q (stp_fieldAddr_arr tok rfl rfl rfl rfl rfl rfl rfl rfl) rfl ?_ | refine x_q (stp_fieldAddr_fp tok rfl (by first | rfl | assumption) rfl rfl rfl rfl rfl rfl) rfl ?_) | (refine is_app ?_; first | refine x_appref0 tok rfl rfl rfl rfl rfl rfl rfl (by first | (intro y hy; cases hy; rfl) | exact map_hd _ _ (fun _ => rfl)) rfl rfl rfl (by first | omega | (simp; done) | (simp; omega)) rfl ?_ | refine x_appref tok rfl rfl rfl rfl rfl rfl rfl rfl rfl rfl rfl (by first | (intro y hy; cases hy; rfl) | exact map_hd _ _ (fun _ => rfl)) (by first | omega | (simp; done) | (simp; omega)) rfl ?_) | (refine is_un ?_; first | refine x_q (stp_neg rfl ⟨by omega, by omega⟩) rfl ?_) | (refine is_conv ?_; first | refine x_q (stp_conv_in tok rfl rfl rfl rfl ⟨by omega, by omega⟩) rfl ?_ | refine x_q (stp_conv tok rfl rfl rfl rfl) rfl ?_ | refine x_q (stp_convStr tok rfl rfl rfl rfl rfl rfl rfl (by first | rfl | assumption)) rfl ?_) | (refine is_slc ?_; first | refine x_slcL tok rfl rfl rfl rfl rfl (by first | (intro y hy; cases hy; rfl) | exact map_hd _ _ (fun _ => rfl) | (simp; done)) (by omega) (by simp; omega) (by first | exact List.map_drop.symm | rfl) rfl ?_ | refine x_slcH tok rfl rfl rfl rfl rfl (by first | (intro y hy; cases hy; rfl) | exact map_hd _ _ (fun _ => rfl) | (simp; done)) (by omega) (by simp; omega) (by first | exact List.map_take.symm | rfl) rfl ?_) | (refine is_bin ?_; refine x_q (stp_and rfl rfl) rfl ?_) | refine x_autow tok rfl rfl rfl rfl ?_ | (refine is_sto ?_; first | refine x_autos tok rfl rfl rfl ?_ | refine x_stoa tok rfl rfl rfl (by first | rfl | assumption) rfl rfl rfl rfl rfl rfl ?_ | refine x_sto1 tok rfl rfl rfl (by first | rfl | assumption) rfl rfl rfl rfl rfl rfl rfl rfl ?_) | refine x_nil ?_ | refine x_nilD (by kernel_rfl) ?_) | (first | refine sim_seq ?_ | refine x_region ?_ | refine x_draw rfl ?_ | refine sim_cond_true rfl ?_ | refine sim_cond_false rfl ?_ | (refine sim_cond rfl (fun hc => ?_) (fun hc => ?_) <;> (try simp only [cmpB, decide_eq_true_eq, decide_eq_false_iff_not, beq_iff_eq, bne_iff_ne, ne_eq, Bool.not_eq_true, beq_eq_false_iff_ne, bne_eq_false_iff_eq, Int.not_lt, Int.not_le, Decidable.not_not] at hc)) | refine sim_skip ?_ | refine sim_ret ?_ | refine sim_exit ?_ | refine sim_block ?_)))
  exact fin_ret [] rfl rfl rfl rfl
theorem inS_bs (p : Nat → Bool) (i : Nat) (hi : i < 8) : inS (bsF p 8) i = p i := bits_at p i hi
/-- The set of the phases that are not red. -/
def stB (c : Ct) (p : Nat) : Bool := (liO c p).lamp != 0
def seF (c : Ct) : Int := bsF (stB c) c.li.length
theorem bsF_ext (p : Nat → Bool) : ∀ n m : Nat, n ≤ m → (∀ i, n ≤ i → i < m → p i = false) → bsF p m = bsF p n
  | n, 0, h, _ => by rw [Nat.le_zero.1 h]
  | n, m + 1, h, hp => by
    by_cases e : n = m + 1
    · rw [e]
    · rw [bsF, hp m (by omega) (by omega)]
      exact bsF_ext p n m (by omega) fun i h1 h2 => hp i h1 (by omega)
theorem bsF_or (p : Nat → Bool) (n : Nat) (hn : n ≤ 25) : orI (bsF p n) (p2 n) = bsF p n + p2 n := by
  have h1 := bsN_lt p n
  have h2 : (2 : Nat) ^ n ≤ 2 ^ 25 := Nat.pow_le_pow_right (by omega) hn
  rw [bsF_N, show p2 (n : Int) = ((2 ^ n : Nat) : Int) by unfold p2; simp, orI_nat _ _ (by omega) (by omega)]
  have h3 := Nat.two_pow_add_eq_or_of_lt h1 1
  rw [Nat.mul_one] at h3
  rw [Nat.or_comm, ← h3]
  omega
theorem set_c (c : Ct) (hn : c.li.length ≤ 25) : CallSim Tryz.prog 86 [ctA c] [] (iA (seF c)) [] := by
  have hl := map_len liA c.li
  unfold seF
  (refine callSim_of tok Tryz.func86 rfl (fun args w => Tryz.call86 args w) rfl rfl rfl (fun F hF => ?_))
  (refine WW ?_)
  (refine sim_cnt (c.li.length) [] [] [7, 8] [3, 9, 7, 8] rfl (fun i T U => ⟨(3, iA (bsF (stB c) i)) :: (9, iA i) :: T, U⟩) ?_; (conv => whnf); refine ⟨by rfl, ?_, ?_⟩)
  · intro i hi
    have hy := map_at liA c.li i hi
    change (c.li.map liA)[i]? = some (liA (liO c i)) at hy
    have ho := bsF_or (stB c) i (by omega)
    have e : bsF (stB c) (i + 1) = if stB c i = true then bsF (stB c) i + p2 i else bsF (stB c) i := rfl
    rw [← ho] at e
    have hsb : stB c i = ((liO c i).lamp != 0) := rfl
    rw [e, hsb]
    generalize bsF (stB c) i = b at *
    generalize liO c i = t at *
    by_cases h : t.lamp = 0
    · rw [if_neg (by simp [h])]
      (refine WW ?_)
      rfl
    · rw [if_pos (by simp [h])]
      (refine WW ?_)
      rfl
  · (refine WW ?_)
    exact fin_ret [] rfl rfl rfl rfl
theorem least {P : Nat → Prop} : ∀ n, P n → ∃ m, m ≤ n ∧ P m ∧ ∀ k, k < m → ¬ P k := by
  intro n
  induction n using Nat.strongRecOn with
  | _ n ih =>
    intro h
    by_cases hx : ∃ k, k < n ∧ P k
    · obtain ⟨k, h1, h2⟩ := hx
      obtain ⟨m, h3, h4, h5⟩ := ih k h1 h2
      exact ⟨m, by omega, h4, h5⟩
    · exact ⟨n, Nat.le_refl _, h, fun k h1 h2 => hx ⟨k, h1, h2⟩⟩
/-- Do p and q clash? -/
def ckB (rows : List Int) (s : Int) (p q : Nat) : Bool := inS s p && (decide (q ≠ p) && (inS s q && cfP rows p q))
theorem clash_ex (rows : List Int) (hn : rows.length ≤ 8) (s : Int) (hs : 0 ≤ s ∧ s < 256) : ∃ p q : Int, CallSim Tryz.prog 85 [slA iA rows, iA s] [] (.tup [iA p, iA q]) [] ∧ ((p = -1 ∧ ∀ a b : Nat, a < rows.length → b < rows.length → ckB rows s a b = false) ∨ (0 ≤ p ∧ ∃ a b : Nat, a < rows.length ∧ b < rows.length ∧ ckB rows s a b = true)) := by
  have hl := map_len iA rows
  by_cases hx : ∃ a, a < rows.length ∧ ∃ b, b < rows.length ∧ ckB rows s a b = true
  · obtain ⟨a, ha, hx⟩ := hx
    obtain ⟨p, _, ⟨hp, hx⟩, hpm⟩ := least (P := fun a => a < rows.length ∧ ∃ b, b < rows.length ∧ ckB rows s a b = true) a ⟨ha, hx⟩
    obtain ⟨b, hb⟩ := hx
    obtain ⟨q, _, ⟨hq, hc⟩, hqm⟩ := least (P := fun b => b < rows.length ∧ ckB rows s p b = true) b hb
    refine ⟨p, q, ?_, .inr ⟨by omega, p, q, hp, hq, hc⟩⟩
    have hsp : inS s p = true := by
      unfold ckB at hc
      rw [Bool.and_eq_true] at hc
      exact hc.1
    (refine callSim_of tok Tryz.func85 rfl (fun args w => Tryz.call85 args w) rfl rfl rfl (fun F hF => ?_))
    (refine WW ?_)
    (refine sim_cntP (rows.length) [] [] [0, 1, 9] [10, 0, 1, 9] rfl (fun i T U zs => (i ≤ p) ∧ zs = ⟨(10, iA i) :: T, U⟩) ?_; (conv => whnf); refine ⟨?_, ?_, ?_⟩)
    · exact ⟨Nat.zero_le _, rfl⟩
    · rintro u st hu ⟨hup, rfl⟩
      have ci := min_c s u hs (by omega)
      by_cases hup2 : u = p
      · subst hup2
        rw [hsp] at ci
        (have zc1 := ci; refine WW ?_; clear zc1)
        (refine sim_cntP (rows.length) [] [] [0, 1, 6, 9, 10, 18] [19, 0, 1, 6, 9, 10, 18] rfl (fun i T U zs => (i ≤ q) ∧ zs = ⟨(19, iA i) :: T, U⟩) ?_; (conv => whnf); refine ⟨?_, ?_, ?_⟩)
        · exact ⟨Nat.zero_le _, rfl⟩
        · rintro v st hv ⟨hvq, rfl⟩
          have cj := min_c s v hs (by omega)
          have ck := conf_c rows (by omega) u v
          by_cases hvq2 : v = q
          · subst hvq2
            unfold ckB at hc
            simp only [Bool.and_eq_true, decide_eq_true_eq] at hc
            rw [hc.2.2.1] at cj
            rw [hc.2.2.2] at ck
            have hne : (v : Int) ≠ u := by omega
            (have zc1 := cj; have zc2 := ck; refine WW ?_; clear zc1 zc2)
            exact fin_ret [] rfl rfl rfl rfl
          · have hno : ckB rows s u v = false := by
              cases hcc : ckB rows s u v with
              | false => rfl
              | true => exact absurd ⟨hv, hcc⟩ (hqm v (by omega))
            unfold ckB at hno
            rw [hsp, Bool.true_and] at hno
            by_cases h1 : v = u
            · have hne : (v : Int) = u := by omega
              (refine WW ?_)
              exact ⟨by omega, rfl⟩
            have hne : (v : Int) ≠ u := by omega
            rw [decide_eq_true h1, Bool.true_and] at hno
            cases h2 : inS s v with
            | false =>
              rw [h2] at cj
              (have zc1 := cj; refine WW ?_; clear zc1)
              exact ⟨by omega, rfl⟩
            | true =>
              rw [h2, Bool.true_and] at hno
              rw [h2] at cj
              rw [hno] at ck
              (have zc1 := cj; have zc2 := ck; refine WW ?_; clear zc1 zc2)
              exact ⟨by omega, rfl⟩
        · rintro st ⟨hvq, rfl⟩
          exfalso; omega
      · have hno : ∀ b, b < rows.length → ckB rows s u b = false := fun b hb => by
          cases hcc : ckB rows s u b with
          | false => rfl
          | true => exact absurd ⟨hu, b, hb, hcc⟩ (hpm u (by omega))
        cases h3 : inS s u with
        | false =>
          rw [h3] at ci
          (have zc1 := ci; refine WW ?_; clear zc1)
          exact ⟨by omega, rfl⟩
        | true =>
        rw [h3] at ci
        (have zc1 := ci; refine WW ?_; clear zc1)
        (refine sim_cnt (rows.length) [] [] [0, 1, 6, 9, 10, 18] [19, 0, 1, 6, 9, 10, 18] rfl (fun i T U => ⟨(19, iA i) :: T, U⟩) ?_; (conv => whnf); refine ⟨by rfl, ?_, ?_⟩)
        · intro v hv
          have cj := min_c s v hs (by omega)
          have ck := conf_c rows (by omega) u v
          have hno := hno v hv
          unfold ckB at hno
          rw [h3, Bool.true_and] at hno
          by_cases h1 : v = u
          · have hne : (v : Int) = u := by omega
            (refine WW ?_)
            rfl
          have hne : (v : Int) ≠ u := by omega
          rw [decide_eq_true h1, Bool.true_and] at hno
          cases h2 : inS s v with
          | false =>
            rw [h2] at cj
            (have zc1 := cj; refine WW ?_; clear zc1)
            rfl
          | true =>
            rw [h2, Bool.true_and] at hno
            rw [h2] at cj
            rw [hno] at ck
            (have zc1 := cj; have zc2 := ck; refine WW ?_; clear zc1 zc2)
            rfl
        · (refine WW ?_)
          exact ⟨by omega, rfl⟩
    · rintro st ⟨hup, rfl⟩
      exfalso; omega
  · have hno : ∀ a b, a < rows.length → b < rows.length → ckB rows s a b = false := fun a b ha hb => by
      cases hcc : ckB rows s a b with
      | false => rfl
      | true => exact absurd ⟨a, ha, b, hb, hcc⟩ hx
    refine ⟨-1, -1, ?_, .inl ⟨rfl, hno⟩⟩
    clear hx
    (refine callSim_of tok Tryz.func85 rfl (fun args w => Tryz.call85 args w) rfl rfl rfl (fun F hF => ?_))
    (refine WW ?_)
    (refine sim_cnt (rows.length) [] [] [0, 1, 9] [10, 0, 1, 9] rfl (fun i T U => ⟨(10, iA i) :: T, U⟩) ?_; (conv => whnf); refine ⟨by rfl, ?_, ?_⟩)
    · intro u hu
      have ci := min_c s u hs (by omega)
      cases h3 : inS s u with
      | false =>
        rw [h3] at ci
        (have zc1 := ci; refine WW ?_; clear zc1)
        rfl
      | true =>
      rw [h3] at ci
      (have zc1 := ci; refine WW ?_; clear zc1)
      (refine sim_cnt (rows.length) [] [] [0, 1, 6, 9, 10, 18] [19, 0, 1, 6, 9, 10, 18] rfl (fun i T U => ⟨(19, iA i) :: T, U⟩) ?_; (conv => whnf); refine ⟨by rfl, ?_, ?_⟩)
      · intro v hv
        have cj := min_c s v hs (by omega)
        have ck := conf_c rows (by omega) u v
        have hno := hno u v hu hv
        unfold ckB at hno
        rw [h3, Bool.true_and] at hno
        by_cases h1 : v = u
        · have hne : (v : Int) = u := by omega
          (refine WW ?_)
          rfl
        have hne : (v : Int) ≠ u := by omega
        rw [decide_eq_true h1, Bool.true_and] at hno
        cases h2 : inS s v with
        | false =>
          rw [h2] at cj
          (have zc1 := cj; refine WW ?_; clear zc1)
          rfl
        | true =>
          rw [h2, Bool.true_and] at hno
          rw [h2] at cj
          rw [hno] at ck
          (have zc1 := cj; have zc2 := ck; refine WW ?_; clear zc1 zc2)
          rfl
      · (refine WW ?_)
        rfl
    · (refine WW ?_)
      exact fin_ret [] rfl rfl rfl rfl
theorem groups_c (j : Jn) (hn : j.ph.length ≤ 1000) (hg : ∀ p : Nat, p < j.ph.length → 0 ≤ (phO j p).group ∧ (phO j p).group ≤ 3) : CallSim Tryz.prog 87 [jnA j] [] (iA (grF j)) [] := by
  have hl := map_len phA j.ph
  unfold grF
  (refine callSim_of tok Tryz.func87 rfl (fun args w => Tryz.call87 args w) rfl rfl rfl (fun F hF => ?_))
  (refine WW ?_)
  (refine sim_cnt (j.ph.length) [] [] [7, 8] [3, 9, 7, 8] rfl (fun i T U => ⟨(3, iA (grN j.ph i)) :: (9, iA i) :: T, U⟩) ?_; (conv => whnf); refine ⟨by rfl, ?_, ?_⟩)
  · intro i hi
    have hy := map_at phA j.ph i hi
    have hb := hg i hi
    unfold phO at hb
    have e : grN j.ph (i + 1) = max (grN j.ph i) ((j.ph.getD i default).group + 1) := rfl
    rw [e]
    generalize grN j.ph i = g at *
    generalize j.ph.getD i default = t at *
    (refine WW ?_)
    rfl
  · (refine WW ?_)
    exact fin_ret [] rfl rfl rfl rfl
def ofN (j : Jn) (r g : Int) (i : Nat) : List Nat := (List.range i).filter fun p => (phO j p).ring == r && (phO j p).group == g
theorem ofN_succ (j : Jn) (r g : Int) (i : Nat) : ofN j r g (i + 1) = if (phO j i).ring = r ∧ (phO j i).group = g then ofN j r g i ++ [i] else ofN j r g i := by
  unfold ofN
  rw [List.range_succ, List.filter_append]
  by_cases h : (phO j i).ring = r ∧ (phO j i).group = g
  · rw [if_pos h]; simp [h.1, h.2]
  · rw [if_neg h]
    have : ((phO j i).ring == r && (phO j i).group == g) = false := by
      rw [Bool.and_eq_false_iff]
      rcases Classical.not_and_iff_not_or_not.1 h with h | h
      · exact .inl (by simpa using h)
      · exact .inr (by simpa using h)
    simp [this]
theorem wk_take {α : Type} (f : α → AV) (l : List α) : AV.sl false ((l.map f).take (l.map f).length) = slA f l := by rw [List.take_length]; rfl
def nA (p : Nat) : AV := iA (p : Int)
theorem of_c (j : Jn) (hn : j.ph.length ≤ 1000) (r g : Int) : CallSim Tryz.prog 89 [jnA j, iA r, iA g] [] (slA nA (ofN j r g j.ph.length)) [] := by
  have hl := map_len phA j.ph
  (refine callSim_of tok Tryz.func89 rfl (fun args w => Tryz.call89 args w) rfl rfl rfl (fun F hF => ?_))
  (refine WW ?_)
  refine sim_virt 7 1001 1 rfl rfl rfl ?_
  (refine sim_cnt (j.ph.length) [1001] [] [1, 2, 11, 12] [7, 13, 1, 2, 11, 12] rfl (fun i T U => ⟨(7, .ref 1001 0 ((ofN j r g i).map nA).length) :: (13, iA i) :: T, (1001, .arr 1 ((ofN j r g i).map nA) true) :: U⟩) ?_; (conv => whnf); refine ⟨by rfl, ?_, ?_⟩)
  · intro i hi
    have hy := map_at phA j.ph i hi
    change (j.ph.map phA)[i]? = some (phA (phO j i)) at hy
    have es := ofN_succ j r g i
    have hlen : (ofN j r g i).length ≤ 1000 := by
      have : (ofN j r g i).length ≤ (List.range i).length := List.length_filter_le _ _
      rw [List.length_range] at this
      omega
    have hlm : ((ofN j r g i).map nA).length ≤ 1000 := by rw [List.length_map]; exact hlen
    rw [es]
    generalize ofN j r g i = o at *
    generalize phO j i = t at *
    by_cases h1 : t.ring = r
    · by_cases h2 : t.group = g
      · rw [if_pos ⟨h1, h2⟩, List.map_append]
        generalize o.map nA = xs at *
        (refine WW ?_)
        rfl
      · rw [if_neg (fun h => h2 h.2)]
        (refine WW ?_)
        rfl
    · rw [if_neg (fun h => h1 h.1)]
      (refine WW ?_)
      rfl
  · (refine WW ?_)
    exact fin_ret [] rfl rfl (wk_take _ _) rfl
def hasN (l : List Nat) (x : Int) : Bool := l.any fun p : Nat => (p : Int) == x
theorem index_ex (l : List Nat) (hn : l.length ≤ 1000) (x : Int) : ∃ k : Int, CallSim Tryz.prog 101 [slA nA l, iA x] [] (iA k) [] ∧ -1 ≤ k ∧ k < 1000 ∧ (hasN l x = decide (0 ≤ k)) := by
  have hl := map_len nA l
  by_cases hx : ∃ i, i < l.length ∧ ((l.getD i default : Nat) : Int) = x
  · obtain ⟨i0, h1, h2⟩ := hx
    obtain ⟨k, _, ⟨hk, hkx⟩, hkm⟩ := least (P := fun i => i < l.length ∧ ((l.getD i default : Nat) : Int) = x) i0 ⟨h1, h2⟩
    refine ⟨k, ?_, by omega, by omega, ?_⟩
    · (refine callSim_of tok Tryz.func101 rfl (fun args w => Tryz.call101 args w) rfl rfl rfl (fun F hF => ?_))
      (refine WW ?_)
      (refine sim_cntP (l.length) [] [] [0, 1, 7] [8, 0, 1, 7] rfl (fun i T U zs => (i ≤ k) ∧ zs = ⟨(8, iA i) :: T, U⟩) ?_; (conv => whnf); refine ⟨?_, ?_, ?_⟩)
      · exact ⟨Nat.zero_le _, rfl⟩
      · rintro u st hu ⟨huk, rfl⟩
        have hy := map_at nA l u hu
        by_cases e : u = k
        · subst e
          generalize l.getD u default = v at *
          unfold nA at hy
          (refine WW ?_)
          exact fin_ret [] rfl rfl rfl rfl
        · have hne : ¬ ((l.getD u default : Nat) : Int) = x := fun h => hkm u (by omega) ⟨hu, h⟩
          generalize l.getD u default = v at *
          unfold nA at hy
          (refine WW ?_)
          exact ⟨by omega, rfl⟩
      · rintro st ⟨huk, rfl⟩
        exfalso; omega
    · rw [decide_eq_true (by omega)]
      unfold hasN
      rw [List.any_eq_true]
      exact ⟨l.getD k default, by simp [List.getD, hk], by rw [beq_iff_eq]; exact hkx⟩
  · refine ⟨-1, ?_, by omega, by omega, ?_⟩
    · (refine callSim_of tok Tryz.func101 rfl (fun args w => Tryz.call101 args w) rfl rfl rfl (fun F hF => ?_))
      (refine WW ?_)
      (refine sim_cnt (l.length) [] [] [0, 1, 7] [8, 0, 1, 7] rfl (fun i T U => ⟨(8, iA i) :: T, U⟩) ?_; (conv => whnf); refine ⟨by rfl, ?_, ?_⟩)
      · intro u hu
        have hy := map_at nA l u hu
        have hne : ¬ ((l.getD u default : Nat) : Int) = x := fun h => hx ⟨u, hu, h⟩
        generalize l.getD u default = v at *
        unfold nA at hy
        clear hx
        (refine WW ?_)
        rfl
      · clear hx
        (refine WW ?_)
        exact fin_ret [] rfl rfl rfl rfl
    · rw [decide_eq_false (by omega)]
      unfold hasN
      rw [List.any_eq_false]
      intro p hp
      obtain ⟨i, hi, rfl⟩ := List.getElem_of_mem hp
      intro h
      rw [beq_iff_eq] at h
      exact hx ⟨i, hi, by simpa [List.getD, hi] using h⟩
theorem contains_c (l : List Nat) (hn : l.length ≤ 1000) (x : Int) : CallSim Tryz.prog 88 [slA nA l, iA x] [] (bA (hasN l x)) [] := by
  obtain ⟨k, c, h1, h2, h3⟩ := index_ex l hn x
  rw [h3]
  by_cases h : 0 ≤ k
  · rw [decide_eq_true h]
    (refine callSim_of tok Tryz.func88 rfl (fun args w => Tryz.call88 args w) rfl rfl rfl (fun F hF => ?_))
    (have zc1 := c; refine WW ?_; clear zc1)
    exact fin_ret [] rfl rfl rfl rfl
  · rw [decide_eq_false h]
    (refine callSim_of tok Tryz.func88 rfl (fun args w => Tryz.call88 args w) rfl rfl rfl (fun F hF => ?_))
    (have zc1 := c; refine WW ?_; clear zc1)
    exact fin_ret [] rfl rfl rfl rfl
theorem nred_c (l : Li) : CallSim Tryz.prog 103 [liA l] [] (bA (l.lamp != 0)) [] := by
  by_cases h : l.lamp = 0
  · rw [show (l.lamp != 0) = false by simp [h]]
    (refine callSim_of tok Tryz.func103 rfl (fun args w => Tryz.call103 args w) rfl rfl rfl (fun F hF => ?_))
    (refine WW ?_)
    exact fin_ret [] rfl rfl rfl rfl
  · rw [show (l.lamp != 0) = true by simp [h]]
    (refine callSim_of tok Tryz.func103 rfl (fun args w => Tryz.call103 args w) rfl rfl rfl (fun F hF => ?_))
    (refine WW ?_)
    exact fin_ret [] rfl rfl rfl rfl
theorem ixf_ex (c : Ct) (hn : c.li.length ≤ 1000) : ∃ k : Int, CallSim Tryz.prog 108 [slA liA c.li, .fn 103 []] [] (iA k) [] ∧ -1 ≤ k ∧ k < 1000 ∧ (arF c = !decide (0 ≤ k)) := by
  have hl := map_len liA c.li
  by_cases hx : ∃ i, i < c.li.length ∧ (liO c i).lamp ≠ 0
  · obtain ⟨i0, h1, h2⟩ := hx
    obtain ⟨k, _, ⟨hk, hkx⟩, hkm⟩ := least (P := fun i => i < c.li.length ∧ (liO c i).lamp ≠ 0) i0 ⟨h1, h2⟩
    refine ⟨k, ?_, by omega, by omega, ?_⟩
    · (refine callSim_of tok Tryz.func108 rfl (fun args w => Tryz.call108 args w) rfl rfl rfl (fun F hF => ?_))
      (refine WW ?_)
      (refine sim_cntP (c.li.length) [] [] [0, 1, 7] [8, 0, 1, 7] rfl (fun i T U zs => (i ≤ k) ∧ zs = ⟨(8, iA i) :: T, U⟩) ?_; (conv => whnf); refine ⟨?_, ?_, ?_⟩)
      · exact ⟨Nat.zero_le _, rfl⟩
      · rintro u st hu ⟨huk, rfl⟩
        have hy := map_at liA c.li u hu
        change (c.li.map liA)[u]? = some (liA (liO c u)) at hy
        have cn := nred_c (liO c u)
        by_cases e : u = k
        · subst e
          rw [show ((liO c u).lamp != 0) = true by simpa using hkx] at cn
          generalize liO c u = v at *
          (repeat' (first | (refine is_ops ?_; first | refine x_auto tok rfl rfl ?_ | (refine is_call ?_; (refine is_cv ?_; first | refine x_q (stp_call (cn) rfl rfl rfl rfl rfl) rfl ?_ | refine x_w (stp_call (cn) rfl rfl rfl rfl rfl) rfl rfl rfl ?_ | refine x_d (stp_call (cn) rfl rfl rfl rfl rfl) rfl rfl rfl ?_)) | (refine is_grd ?_; first | refine x_on rfl rfl ?_ | refine x_off rfl rfl rfl rfl ?_ | (refine x_gsplit rfl rfl (fun hc => ?_) (fun hc => ?_) <;> (try simp only [cmpB, decide_eq_true_eq, decide_eq_false_iff_not, beq_iff_eq, bne_iff_ne, ne_eq, Bool.not_eq_true, beq_eq_false_iff_ne, bne_eq_false_iff_eq, Int.not_lt, Int.not_le, Decidable.not_not] at hc))) | (refine is_bin ?_; first | refine x_q (stp_cmp_t rfl rfl rfl (by unfold cmpP; omega)) rfl ?_ | refine x_q (stp_cmp_f rfl rfl rfl (by unfold cmpP; omega)) rfl ?_ | refine x_q (stp_cmp rfl rfl rfl) rfl ?_ | refine x_q (stp_add rfl rfl ⟨by omega, by omega⟩) rfl ?_ | refine x_q (stp_sub rfl rfl ⟨by omega, by omega⟩) rfl ?_ | refine x_q (stp_mul rfl rfl ⟨by omega, by omega⟩) rfl ?_ | refine x_q (stp_quo rfl rfl (by assumption) (by omega)) rfl ?_ | refine x_q (stp_rem rfl rfl (by omega)) rfl ?_ | refine x_q (stp_xor rfl rfl) rfl ?_ | refine x_q (stp_shlI rfl rfl (by omega)) rfl ?_ | refine x_q (stp_shrI rfl rfl (by omega)) rfl ?_ | refine x_q (stp_shift (.inl ⟨rfl, rfl⟩) rfl rfl (by omega)) rfl ?_ | refine x_q (stp_shift (.inr ⟨rfl, rfl⟩) rfl rfl (by omega)) rfl ?_ | refine x_q (stp_bool2 tok rfl rfl rfl rfl (.inl ⟨rfl, rfl⟩)) rfl ?_ | refine x_q (stp_bool2 tok rfl rfl rfl rfl (.inr ⟨rfl, rfl⟩)) rfl ?_ | refine x_q (stp_eqlNil tok (.inl ⟨rfl, rfl⟩) rfl rfl rfl) rfl ?_ | refine x_q (stp_eqlNil_not tok (.inl ⟨rfl, rfl⟩) rfl rfl rfl rfl) rfl ?_ | refine x_q (stp_andI rfl rfl) rfl ?_ | refine x_q (stp_orI rfl rfl) rfl ?_ | refine x_q (stp_bicI rfl rfl) rfl ?_ | refine x_q (stp_strEqV rfl rfl (by assumption)) rfl ?_ | refine x_q (stp_strEq rfl rfl) rfl ?_ | refine x_q (stp_strNeV rfl rfl (by assumption)) rfl ?_ | refine x_q (stp_strNe rfl rfl) rfl ?_) | (refine is_idx ?_; first | refine x_q (stp_indexAddr_sl tok rfl rfl rfl rfl rfl (by omega) (by first | rfl | assumption) rfl rfl) rfl ?_ | refine x_q (stp_indexAddr_r0 tok rfl rfl rfl rfl rfl rfl (by omega) (by omega) rfl) rfl ?_ | refine x_q (stp_indexAddr_box tok rfl rfl rfl rfl rfl rfl (by omega) (by omega)) rfl ?_) | (refine is_load ?_; first | refine x_q (stp_load_fp1 tok rfl rfl rfl (by first | rfl | assumption) rfl) rfl ?_ | refine x_q (stp_load_fpa tok rfl rfl rfl (by first | rfl | assumption) rfl) rfl ?_ | refine x_q (stp_load_arr1 tok rfl rfl rfl rfl (by first | rfl | assumption) rfl) rfl ?_ | refine x_q (stp_load_arra tok rfl rfl rfl rfl (by first | rfl | assumption) rfl) rfl ?_) | (refine is_fad ?_; first | refine x_q (stp_fieldAddr_arr tok rfl rfl rfl rfl rfl rfl rfl rfl) rfl ?_ | refine x_q (stp_fieldAddr_fp tok rfl (by first | rfl | assumption) rfl rfl rfl rfl rfl rfl) rfl ?_) | (refine is_app ?_; first | refine x_appref0 tok rfl rfl rfl rfl rfl rfl rfl (by first | (intro y hy; cases hy; rfl) | exact map_hd _ _ (fun _ => rfl)) rfl rfl rfl (by first | omega | (simp; done) | (simp; omega)) rfl ?_ | refine x_appref tok rfl rfl rfl rfl rfl rfl rfl rfl rfl rfl rfl (by first | (intro y hy; cases hy; rfl) | exact map_hd _ _ (fun _ => rfl)) (by first | omega | (simp; done) | (simp; omega)) rfl ?_) | (refine is_un ?_; first | refine x_q (stp_neg rfl ⟨by omega, by omega⟩) rfl ?_) | (refine is_conv ?_; first | refine x_q (stp_conv_in tok rfl rfl rfl rfl ⟨by omega, by omega⟩) rfl ?_ | refine x_q (stp_conv tok rfl rfl rfl rfl) rfl ?_ | refine x_q (stp_convStr tok rfl rfl rfl rfl rfl rfl rfl (by first | rfl | assumption)) rfl ?_) | (refine is_slc ?_; first | refine x_slcL tok rfl rfl rfl rfl rfl (by first | (intro y hy; cases hy; rfl) | exact map_hd _ _ (fun _ => rfl) | (simp; done)) (by omega) (by simp; omega) (by first | exact List.map_drop.symm | rfl) rfl ?_ | refine x_slcH tok rfl rfl rfl rfl rfl (by first | (intro y hy; cases hy; rfl) | exact map_hd _ _ (fun _ => rfl) | (simp; done)) (by omega) (by simp; omega) (by first | exact List.map_take.symm | rfl) rfl ?_) | (refine is_mks ?_; refine x_mks tok rfl rfl rfl rfl rfl rfl rfl rfl rfl rfl rfl rfl rfl (by omega) (by omega) rfl rfl rfl ?_) | refine x_autow tok rfl rfl rfl rfl ?_ | (refine is_sto ?_; first | refine x_autos tok rfl rfl rfl ?_ | refine x_stoa tok rfl rfl rfl (by first | rfl | assumption) rfl rfl rfl rfl rfl rfl ?_ | refine x_sto1 tok rfl rfl rfl (by first | rfl | assumption) rfl rfl rfl rfl rfl rfl rfl rfl ?_) | refine x_nil ?_ | refine x_nilD (by kernel_rfl) ?_) | (first | refine sim_seq ?_ | refine x_region ?_ | refine x_draw rfl ?_ | refine sim_cond_true rfl ?_ | refine sim_cond_false rfl ?_ | (refine sim_cond rfl (fun hc => ?_) (fun hc => ?_) <;> (try simp only [cmpB, decide_eq_true_eq, decide_eq_false_iff_not, beq_iff_eq, bne_iff_ne, ne_eq, Bool.not_eq_true, beq_eq_false_iff_ne, bne_eq_false_iff_eq, Int.not_lt, Int.not_le, Decidable.not_not] at hc)) | refine sim_skip ?_ | refine sim_ret ?_ | refine sim_exit ?_ | refine sim_block ?_)))
          exact fin_ret [] rfl rfl rfl rfl
        · have hne : (liO c u).lamp = 0 := Classical.byContradiction fun h => hkm u (by omega) ⟨hu, h⟩
          rw [show ((liO c u).lamp != 0) = false by simpa using hne] at cn
          generalize liO c u = v at *
          (repeat' (first | (refine is_ops ?_; first | refine x_auto tok rfl rfl ?_ | (refine is_call ?_; (refine is_cv ?_; first | refine x_q (stp_call (cn) rfl rfl rfl rfl rfl) rfl ?_ | refine x_w (stp_call (cn) rfl rfl rfl rfl rfl) rfl rfl rfl ?_ | refine x_d (stp_call (cn) rfl rfl rfl rfl rfl) rfl rfl rfl ?_)) | (refine is_grd ?_; first | refine x_on rfl rfl ?_ | refine x_off rfl rfl rfl rfl ?_ | (refine x_gsplit rfl rfl (fun hc => ?_) (fun hc => ?_) <;> (try simp only [cmpB, decide_eq_true_eq, decide_eq_false_iff_not, beq_iff_eq, bne_iff_ne, ne_eq, Bool.not_eq_true, beq_eq_false_iff_ne, bne_eq_false_iff_eq, Int.not_lt, Int.not_le, Decidable.not_not] at hc))) | (refine is_bin ?_; first | refine x_q (stp_cmp_t rfl rfl rfl (by unfold cmpP; omega)) rfl ?_ | refine x_q (stp_cmp_f rfl rfl rfl (by unfold cmpP; omega)) rfl ?_ | refine x_q (stp_cmp rfl rfl rfl) rfl ?_ | refine x_q (stp_add rfl rfl ⟨by omega, by omega⟩) rfl ?_ | refine x_q (stp_sub rfl rfl ⟨by omega, by omega⟩) rfl ?_ | refine x_q (stp_mul rfl rfl ⟨by omega, by omega⟩) rfl ?_ | refine x_q (stp_quo rfl rfl (by assumption) (by omega)) rfl ?_ | refine x_q (stp_rem rfl rfl (by omega)) rfl ?_ | refine x_q (stp_xor rfl rfl) rfl ?_ | refine x_q (stp_shlI rfl rfl (by omega)) rfl ?_ | refine x_q (stp_shrI rfl rfl (by omega)) rfl ?_ | refine x_q (stp_shift (.inl ⟨rfl, rfl⟩) rfl rfl (by omega)) rfl ?_ | refine x_q (stp_shift (.inr ⟨rfl, rfl⟩) rfl rfl (by omega)) rfl ?_ | refine x_q (stp_bool2 tok rfl rfl rfl rfl (.inl ⟨rfl, rfl⟩)) rfl ?_ | refine x_q (stp_bool2 tok rfl rfl rfl rfl (.inr ⟨rfl, rfl⟩)) rfl ?_ | refine x_q (stp_eqlNil tok (.inl ⟨rfl, rfl⟩) rfl rfl rfl) rfl ?_ | refine x_q (stp_eqlNil_not tok (.inl ⟨rfl, rfl⟩) rfl rfl rfl rfl) rfl ?_ | refine x_q (stp_andI rfl rfl) rfl ?_ | refine x_q (stp_orI rfl rfl) rfl ?_ | refine x_q (stp_bicI rfl rfl) rfl ?_ | refine x_q (stp_strEqV rfl rfl (by assumption)) rfl ?_ | refine x_q (stp_strEq rfl rfl) rfl ?_ | refine x_q (stp_strNeV rfl rfl (by assumption)) rfl ?_ | refine x_q (stp_strNe rfl rfl) rfl ?_) | (refine is_idx ?_; first | refine x_q (stp_indexAddr_sl tok rfl rfl rfl rfl rfl (by omega) (by first | rfl | assumption) rfl rfl) rfl ?_ | refine x_q (stp_indexAddr_r0 tok rfl rfl rfl rfl rfl rfl (by omega) (by omega) rfl) rfl ?_ | refine x_q (stp_indexAddr_box tok rfl rfl rfl rfl rfl rfl (by omega) (by omega)) rfl ?_) | (refine is_load ?_; first | refine x_q (stp_load_fp1 tok rfl rfl rfl (by first | rfl | assumption) rfl) rfl ?_ | refine x_q (stp_load_fpa tok rfl rfl rfl (by first | rfl | assumption) rfl) rfl ?_ | refine x_q (stp_load_arr1 tok rfl rfl rfl rfl (by first | rfl | assumption) rfl) rfl ?_ | refine x_q (stp_load_arra tok rfl rfl rfl rfl (by first | rfl | assumption) rfl) rfl ?_) | (refine is_fad ?_; first | refine x_q (stp_fieldAddr_arr tok rfl rfl rfl rfl rfl rfl rfl rfl) rfl ?_ | refine x_q (stp_fieldAddr_fp tok rfl (by first | rfl | assumption) rfl rfl rfl rfl rfl rfl) rfl ?_) | (refine is_app ?_; first | refine x_appref0 tok rfl rfl rfl rfl rfl rfl rfl (by first | (intro y hy; cases hy; rfl) | exact map_hd _ _ (fun _ => rfl)) rfl rfl rfl (by first | omega | (simp; done) | (simp; omega)) rfl ?_ | refine x_appref tok rfl rfl rfl rfl rfl rfl rfl rfl rfl rfl rfl (by first | (intro y hy; cases hy; rfl) | exact map_hd _ _ (fun _ => rfl)) (by first | omega | (simp; done) | (simp; omega)) rfl ?_) | (refine is_un ?_; first | refine x_q (stp_neg rfl ⟨by omega, by omega⟩) rfl ?_) | (refine is_conv ?_; first | refine x_q (stp_conv_in tok rfl rfl rfl rfl ⟨by omega, by omega⟩) rfl ?_ | refine x_q (stp_conv tok rfl rfl rfl rfl) rfl ?_ | refine x_q (stp_convStr tok rfl rfl rfl rfl rfl rfl rfl (by first | rfl | assumption)) rfl ?_) | (refine is_slc ?_; first | refine x_slcL tok rfl rfl rfl rfl rfl (by first | (intro y hy; cases hy; rfl) | exact map_hd _ _ (fun _ => rfl) | (simp; done)) (by omega) (by simp; omega) (by first | exact List.map_drop.symm | rfl) rfl ?_ | refine x_slcH tok rfl rfl rfl rfl rfl (by first | (intro y hy; cases hy; rfl) | exact map_hd _ _ (fun _ => rfl) | (simp; done)) (by omega) (by simp; omega) (by first | exact List.map_take.symm | rfl) rfl ?_) | (refine is_mks ?_; refine x_mks tok rfl rfl rfl rfl rfl rfl rfl rfl rfl rfl rfl rfl rfl (by omega) (by omega) rfl rfl rfl ?_) | refine x_autow tok rfl rfl rfl rfl ?_ | (refine is_sto ?_; first | refine x_autos tok rfl rfl rfl ?_ | refine x_stoa tok rfl rfl rfl (by first | rfl | assumption) rfl rfl rfl rfl rfl rfl ?_ | refine x_sto1 tok rfl rfl rfl (by first | rfl | assumption) rfl rfl rfl rfl rfl rfl rfl rfl ?_) | refine x_nil ?_ | refine x_nilD (by kernel_rfl) ?_) | (first | refine sim_seq ?_ | refine x_region ?_ | refine x_draw rfl ?_ | refine sim_cond_true rfl ?_ | refine sim_cond_false rfl ?_ | (refine sim_cond rfl (fun hc => ?_) (fun hc => ?_) <;> (try simp only [cmpB, decide_eq_true_eq, decide_eq_false_iff_not, beq_iff_eq, bne_iff_ne, ne_eq, Bool.not_eq_true, beq_eq_false_iff_ne, bne_eq_false_iff_eq, Int.not_lt, Int.not_le, Decidable.not_not] at hc)) | refine sim_skip ?_ | refine sim_ret ?_ | refine sim_exit ?_ | refine sim_block ?_)))
          exact ⟨by omega, rfl⟩
      · rintro st ⟨huk, rfl⟩
        exfalso; omega
    · rw [decide_eq_true (by omega)]
      unfold arF
      exact List.all_eq_false.2 ⟨liO c k, by simp [liO, List.getD, hk], by simpa using hkx⟩
  · have h0 : ∀ i, i < c.li.length → (liO c i).lamp = 0 := fun i hi => Classical.byContradiction fun h => hx ⟨i, hi, h⟩
    refine ⟨-1, ?_, by omega, by omega, ?_⟩
    · clear hx
      (refine callSim_of tok Tryz.func108 rfl (fun args w => Tryz.call108 args w) rfl rfl rfl (fun F hF => ?_))
      (refine WW ?_)
      (refine sim_cnt (c.li.length) [] [] [0, 1, 7] [8, 0, 1, 7] rfl (fun i T U => ⟨(8, iA i) :: T, U⟩) ?_; (conv => whnf); refine ⟨by rfl, ?_, ?_⟩)
      · intro u hu
        have hy := map_at liA c.li u hu
        change (c.li.map liA)[u]? = some (liA (liO c u)) at hy
        have cn := nred_c (liO c u)
        have h0 := h0 u hu
        rw [show ((liO c u).lamp != 0) = false by simpa using h0] at cn
        generalize liO c u = v at *
        (repeat' (first | (refine is_ops ?_; first | refine x_auto tok rfl rfl ?_ | (refine is_call ?_; (refine is_cv ?_; first | refine x_q (stp_call (cn) rfl rfl rfl rfl rfl) rfl ?_ | refine x_w (stp_call (cn) rfl rfl rfl rfl rfl) rfl rfl rfl ?_ | refine x_d (stp_call (cn) rfl rfl rfl rfl rfl) rfl rfl rfl ?_)) | (refine is_grd ?_; first | refine x_on rfl rfl ?_ | refine x_off rfl rfl rfl rfl ?_ | (refine x_gsplit rfl rfl (fun hc => ?_) (fun hc => ?_) <;> (try simp only [cmpB, decide_eq_true_eq, decide_eq_false_iff_not, beq_iff_eq, bne_iff_ne, ne_eq, Bool.not_eq_true, beq_eq_false_iff_ne, bne_eq_false_iff_eq, Int.not_lt, Int.not_le, Decidable.not_not] at hc))) | (refine is_bin ?_; first | refine x_q (stp_cmp_t rfl rfl rfl (by unfold cmpP; omega)) rfl ?_ | refine x_q (stp_cmp_f rfl rfl rfl (by unfold cmpP; omega)) rfl ?_ | refine x_q (stp_cmp rfl rfl rfl) rfl ?_ | refine x_q (stp_add rfl rfl ⟨by omega, by omega⟩) rfl ?_ | refine x_q (stp_sub rfl rfl ⟨by omega, by omega⟩) rfl ?_ | refine x_q (stp_mul rfl rfl ⟨by omega, by omega⟩) rfl ?_ | refine x_q (stp_quo rfl rfl (by assumption) (by omega)) rfl ?_ | refine x_q (stp_rem rfl rfl (by omega)) rfl ?_ | refine x_q (stp_xor rfl rfl) rfl ?_ | refine x_q (stp_shlI rfl rfl (by omega)) rfl ?_ | refine x_q (stp_shrI rfl rfl (by omega)) rfl ?_ | refine x_q (stp_shift (.inl ⟨rfl, rfl⟩) rfl rfl (by omega)) rfl ?_ | refine x_q (stp_shift (.inr ⟨rfl, rfl⟩) rfl rfl (by omega)) rfl ?_ | refine x_q (stp_bool2 tok rfl rfl rfl rfl (.inl ⟨rfl, rfl⟩)) rfl ?_ | refine x_q (stp_bool2 tok rfl rfl rfl rfl (.inr ⟨rfl, rfl⟩)) rfl ?_ | refine x_q (stp_eqlNil tok (.inl ⟨rfl, rfl⟩) rfl rfl rfl) rfl ?_ | refine x_q (stp_eqlNil_not tok (.inl ⟨rfl, rfl⟩) rfl rfl rfl rfl) rfl ?_ | refine x_q (stp_andI rfl rfl) rfl ?_ | refine x_q (stp_orI rfl rfl) rfl ?_ | refine x_q (stp_bicI rfl rfl) rfl ?_ | refine x_q (stp_strEqV rfl rfl (by assumption)) rfl ?_ | refine x_q (stp_strEq rfl rfl) rfl ?_ | refine x_q (stp_strNeV rfl rfl (by assumption)) rfl ?_ | refine x_q (stp_strNe rfl rfl) rfl ?_) | (refine is_idx ?_; first | refine x_q (stp_indexAddr_sl tok rfl rfl rfl rfl rfl (by omega) (by first | rfl | assumption) rfl rfl) rfl ?_ | refine x_q (stp_indexAddr_r0 tok rfl rfl rfl rfl rfl rfl (by omega) (by omega) rfl) rfl ?_ | refine x_q (stp_indexAddr_box tok rfl rfl rfl rfl rfl rfl (by omega) (by omega)) rfl ?_) | (refine is_load ?_; first | refine x_q (stp_load_fp1 tok rfl rfl rfl (by first | rfl | assumption) rfl) rfl ?_ | refine x_q (stp_load_fpa tok rfl rfl rfl (by first | rfl | assumption) rfl) rfl ?_ | refine x_q (stp_load_arr1 tok rfl rfl rfl rfl (by first | rfl | assumption) rfl) rfl ?_ | refine x_q (stp_load_arra tok rfl rfl rfl rfl (by first | rfl | assumption) rfl) rfl ?_) | (refine is_fad ?_; first | refine x_q (stp_fieldAddr_arr tok rfl rfl rfl rfl rfl rfl rfl rfl) rfl ?_ | refine x_q (stp_fieldAddr_fp tok rfl (by first | rfl | assumption) rfl rfl rfl rfl rfl rfl) rfl ?_) | (refine is_app ?_; first | refine x_appref0 tok rfl rfl rfl rfl rfl rfl rfl (by first | (intro y hy; cases hy; rfl) | exact map_hd _ _ (fun _ => rfl)) rfl rfl rfl (by first | omega | (simp; done) | (simp; omega)) rfl ?_ | refine x_appref tok rfl rfl rfl rfl rfl rfl rfl rfl rfl rfl rfl (by first | (intro y hy; cases hy; rfl) | exact map_hd _ _ (fun _ => rfl)) (by first | omega | (simp; done) | (simp; omega)) rfl ?_) | (refine is_un ?_; first | refine x_q (stp_neg rfl ⟨by omega, by omega⟩) rfl ?_) | (refine is_conv ?_; first | refine x_q (stp_conv_in tok rfl rfl rfl rfl ⟨by omega, by omega⟩) rfl ?_ | refine x_q (stp_conv tok rfl rfl rfl rfl) rfl ?_ | refine x_q (stp_convStr tok rfl rfl rfl rfl rfl rfl rfl (by first | rfl | assumption)) rfl ?_) | (refine is_slc ?_; first | refine x_slcL tok rfl rfl rfl rfl rfl (by first | (intro y hy; cases hy; rfl) | exact map_hd _ _ (fun _ => rfl) | (simp; done)) (by omega) (by simp; omega) (by first | exact List.map_drop.symm | rfl) rfl ?_ | refine x_slcH tok rfl rfl rfl rfl rfl (by first | (intro y hy; cases hy; rfl) | exact map_hd _ _ (fun _ => rfl) | (simp; done)) (by omega) (by simp; omega) (by first | exact List.map_take.symm | rfl) rfl ?_) | (refine is_mks ?_; refine x_mks tok rfl rfl rfl rfl rfl rfl rfl rfl rfl rfl rfl rfl rfl (by omega) (by omega) rfl rfl rfl ?_) | refine x_autow tok rfl rfl rfl rfl ?_ | (refine is_sto ?_; first | refine x_autos tok rfl rfl rfl ?_ | refine x_stoa tok rfl rfl rfl (by first | rfl | assumption) rfl rfl rfl rfl rfl rfl ?_ | refine x_sto1 tok rfl rfl rfl (by first | rfl | assumption) rfl rfl rfl rfl rfl rfl rfl rfl ?_) | refine x_nil ?_ | refine x_nilD (by kernel_rfl) ?_) | (first | refine sim_seq ?_ | refine x_region ?_ | refine x_draw rfl ?_ | refine sim_cond_true rfl ?_ | refine sim_cond_false rfl ?_ | (refine sim_cond rfl (fun hc => ?_) (fun hc => ?_) <;> (try simp only [cmpB, decide_eq_true_eq, decide_eq_false_iff_not, beq_iff_eq, bne_iff_ne, ne_eq, Bool.not_eq_true, beq_eq_false_iff_ne, bne_eq_false_iff_eq, Int.not_lt, Int.not_le, Decidable.not_not] at hc)) | refine sim_skip ?_ | refine sim_ret ?_ | refine sim_exit ?_ | refine sim_block ?_)))
        rfl
      · (refine WW ?_)
        exact fin_ret [] rfl rfl rfl rfl
    · rw [decide_eq_false (by omega)]
      unfold arF
      rw [Bool.not_false, List.all_eq_true]
      intro l hl
      obtain ⟨i, hi, rfl⟩ := List.getElem_of_mem hl
      have := h0 i hi
      simpa [liO, List.getD, hi] using this
theorem allred_c (c : Ct) (hn : c.li.length ≤ 1000) : CallSim Tryz.prog 90 [ctA c] [] (bA (arF c)) [] := by
  obtain ⟨k, c1, h1, h2, h3⟩ := ixf_ex c hn
  have c2 : CallSim Tryz.prog 102 [slA liA c.li, .fn 103 []] [] (bA (decide (0 ≤ k))) [] := by
    by_cases h : 0 ≤ k
    · rw [decide_eq_true h]
      (refine callSim_of tok Tryz.func102 rfl (fun args w => Tryz.call102 args w) rfl rfl rfl (fun F hF => ?_))
      (have zc1 := c1; refine WW ?_; clear zc1)
      exact fin_ret [] rfl rfl rfl rfl
    · rw [decide_eq_false h]
      (refine callSim_of tok Tryz.func102 rfl (fun args w => Tryz.call102 args w) rfl rfl rfl (fun F hF => ?_))
      (have zc1 := c1; refine WW ?_; clear zc1)
      exact fin_ret [] rfl rfl rfl rfl
  rw [h3]
  cases hd : decide (0 ≤ k) <;> rw [hd] at c2
  · (refine callSim_of tok Tryz.func90 rfl (fun args w => Tryz.call90 args w) rfl rfl rfl (fun F hF => ?_))
    (have zc1 := c2; refine WW ?_; clear zc1)
    exact fin_ret [] rfl rfl rfl rfl
  · (refine callSim_of tok Tryz.func90 rfl (fun args w => Tryz.call90 args w) rfl rfl rfl (fun F hF => ?_))
    (have zc1 := c2; refine WW ?_; clear zc1)
    exact fin_ret [] rfl rfl rfl rfl
end Av
end Go.Proofs.YtkliodbbcblobaaGreat
