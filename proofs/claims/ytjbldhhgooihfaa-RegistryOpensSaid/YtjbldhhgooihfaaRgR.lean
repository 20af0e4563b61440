/- law17: the references' Check, Open, Expire, Tick. -/
import Derived.Test.YtjbldhhgooihfaaRgQ
import Derived.Test.YtjbldhhgooihfaaRgE
import Derived.Test.YtjbldhhgooihfaaRgF
import Derived.Test.YtjbldhhgooihfaaLibD
namespace Go.Proofs.Ytjbldhhgooihfaa
namespace Av
set_option linter.unusedSimpArgs false
set_option linter.unusedVariables false
set_option maxRecDepth 4000
set_option maxHeartbeats 1000000
theorem check2_c (l : List Tk) (hn : l.length ≤ 1000000) (g : Int) (b : List Int) (k now : Int) (hb : BY b) : CallSim Try.prog 53 [slA tkA l, iA g, slA yA b, iA k, iA now] [] (.tup [iA (if ckB l g b k now = true then b.getD 1 default else 0), iA (if ckB l g b k now = true then 0 else 9)]) [] := by
  have hll := map_len yA b
  have hlt := map_len tkA l
  by_cases h1 : (b.length : Int) = 10
  case neg =>
    have e : ckB l g b k now = false := by unfold ckB; rw [decide_eq_false (fun h => h1 h.1)]; rfl
    rw [e]
    (refine callSim_of tok Try.func53 rfl (fun args w => Try.call53 args w) rfl rfl rfl (fun F hF => ?_))
    (refine WW ?_)
    exact fin_ret [] rfl rfl rfl rfl
  have hy0 := map_atI yA b 0 (by omega) (by omega)
  have hy1 := map_atI yA b 1 (by omega) (by omega)
  have b0 : 0 ≤ b.getD 0 default ∧ b.getD 0 default < 256 := hb _ (by simp [List.getD]; rw [List.getElem?_eq_getElem (by omega)]; simp)
  have b1 : 0 ≤ b.getD 1 default ∧ b.getD 1 default < 256 := hb _ (by simp [List.getD]; rw [List.getElem?_eq_getElem (by omega)]; simp)
  change (b.map yA)[0]? = some (yA (b.getD 0 default)) at hy0
  change (b.map yA)[1]? = some (yA (b.getD 1 default)) at hy1
  unfold ckB tkOf
  generalize b.getD 0 default = x0 at *
  generalize b.getD 1 default = x1 at *
  by_cases h2 : x0 = g
  case neg =>
    rw [decide_eq_false (fun h => h2 h.2)]
    (refine callSim_of tok Try.func53 rfl (fun args w => Try.call53 args w) rfl rfl rfl (fun F hF => ?_))
    (refine WW ?_)
    exact fin_ret [] rfl rfl rfl rfl
  rw [decide_eq_true ⟨h1, h2⟩]
  by_cases h3 : x1 < l.length
  case neg =>
    have hu : usF l x1 = false := by unfold usF; rw [decide_eq_false (by omega)]; rfl
    rw [hu]
    (refine callSim_of tok Try.func53 rfl (fun args w => Try.call53 args w) rfl rfl rfl (fun F hF => ?_))
    (refine WW ?_)
    exact fin_ret [] rfl rfl rfl rfl
  have hu : usF l x1 = (l.getD x1.toNat default).used := by unfold usF; rw [decide_eq_true ⟨b1.1, h3⟩, Bool.true_and]
  rw [hu]
  have hyt := map_atI tkA l x1 b1.1 (by omega)
  generalize l.getD x1.toNat default = t at *
  cases hu : t.used
  · rw [show tkA t = tkU false t by unfold tkA tkU; rw [hu]] at hyt
    unfold tkU at hyt
    (refine callSim_of tok Try.func53 rfl (fun args w => Try.call53 args w) rfl rfl rfl (fun F hF => ?_))
    (refine WW ?_)
    exact fin_ret [] rfl rfl rfl rfl
  · rw [show tkA t = tkU true t by unfold tkA tkU; rw [hu]] at hyt
    unfold tkU at hyt
    have hds : (b.drop 2).map yA = (b.map yA).drop 2 := by rw [List.map_drop]
    rw [eqY_comm (b.drop 2) t.sec]
    have cp := permits2_c t.rights k
    generalize hq1 : eqY t.sec (b.drop 2) = q1 at *
    generalize peF t.rights k = q3 at *
    have hex : exF t now = decide (t.til ≠ 0 ∧ t.til < now) := rfl
    rw [hex]
    cases q1 with
    | false =>
      (refine callSim_of tok Try.func53 rfl (fun args w => Try.call53 args w) rfl rfl rfl (fun F hF => ?_))
      (refine WW ?_)
      exact fin_ret [] rfl rfl rfl rfl
    | true =>
    by_cases h4 : t.til = 0
    · rw [decide_eq_false (fun h => h.1 h4)]
      cases q3 <;> ((refine callSim_of tok Try.func53 rfl (fun args w => Try.call53 args w) rfl rfl rfl (fun F hF => ?_)); (have zc1 := cp; refine WW ?_; clear zc1); exact fin_ret [] rfl rfl rfl rfl)
    by_cases h5 : t.til < now
    · rw [decide_eq_true ⟨h4, h5⟩]
      (refine callSim_of tok Try.func53 rfl (fun args w => Try.call53 args w) rfl rfl rfl (fun F hF => ?_))
      (refine WW ?_)
      exact fin_ret [] rfl rfl rfl rfl
    · rw [decide_eq_false (fun h => h5 h.2)]
      cases q3 <;> ((refine callSim_of tok Try.func53 rfl (fun args w => Try.call53 args w) rfl rfl rfl (fun F hF => ?_)); (have zc1 := cp; refine WW ?_; clear zc1); exact fin_ret [] rfl rfl rfl rfl)
theorem open2_c (r : Rg) (m : Ms) (now : Int) (hr : RgB r) (hm : BY m.tok) (hl : r.bk.level ≤ 1000000) : CallSim Try.prog 24 [rgA r, msA m, iA now] [] (.tup [rgA (opR r m now), iA (opS r m now), iA (opE r m now)]) [] := by
  have c1 := check2_c r.tk hr.tk.n r.num m.tok m.kind now hm
  have c2 := copyG_c r hr
  have c3 := btake2_c r.bk (by omega)
  unfold opR opS opE
  cases hc1 : ckB r.tk r.num m.tok m.kind now <;> rw [hc1] at c1
  · (refine callSim_of tok Try.func24 rfl (fun args w => Try.call24 args w) rfl rfl rfl (fun F hF => ?_))
    (have zc1 := c1; refine WW ?_; clear zc1)
    exact fin_ret [] rfl rfl rfl rfl
  · generalize m.tok.getD 1 default = slot at *
    cases hk : costs m.kind
    · have hk' : ¬ (2 ≤ m.kind ∧ m.kind ≤ 8) := of_decide_eq_false hk
      (refine callSim_of tok Try.func24 rfl (fun args w => Try.call24 args w) rfl rfl rfl (fun F hF => ?_))
      (repeat' (first | (refine is_ops ?_; first | refine x_auto tok rfl rfl ?_ | (refine is_call ?_; (first | (refine is_fn 53 ?_; first | refine x_q (stp_call (c1) rfl rfl rfl rfl rfl) rfl ?_ | refine x_w (stp_call (c1) rfl rfl rfl rfl rfl) rfl rfl rfl ?_ | refine x_d (stp_call (c1) rfl rfl rfl rfl rfl) rfl rfl rfl ?_) | (refine is_fn 18 ?_; first | refine x_q (stp_call (c2) rfl rfl rfl rfl rfl) rfl ?_ | refine x_w (stp_call (c2) rfl rfl rfl rfl rfl) rfl rfl rfl ?_ | refine x_d (stp_call (c2) rfl rfl rfl rfl rfl) rfl rfl rfl ?_))) | (refine is_grd ?_; first | refine x_on rfl rfl ?_ | refine x_off rfl rfl rfl rfl ?_ | (refine x_gsplit rfl rfl (fun hc => ?_) (fun hc => ?_) <;> (try simp only [cmpB, decide_eq_true_eq, decide_eq_false_iff_not, beq_iff_eq, bne_iff_ne, ne_eq, Bool.not_eq_true, beq_eq_false_iff_ne, bne_eq_false_iff_eq, Int.not_lt, Int.not_le, Decidable.not_not] at hc))) | (refine is_bin ?_; first | refine x_q (stp_cmp_t rfl rfl rfl (by unfold cmpP; omega)) rfl ?_ | refine x_q (stp_cmp_f rfl rfl rfl (by unfold cmpP; omega)) rfl ?_ | refine x_q (stp_cmp rfl rfl rfl) rfl ?_ | refine x_q (stp_add rfl rfl ⟨by omega, by omega⟩) rfl ?_ | refine x_q (stp_sub rfl rfl ⟨by omega, by omega⟩) rfl ?_ | refine x_q (stp_mul rfl rfl ⟨by omega, by omega⟩) rfl ?_ | refine x_q (stp_quo rfl rfl (by assumption) (by omega)) rfl ?_ | refine x_q (stp_rem rfl rfl (by omega)) rfl ?_ | refine x_q (stp_xor rfl rfl) rfl ?_ | refine x_q (stp_shlI rfl rfl (by omega)) rfl ?_ | refine x_q (stp_shrI rfl rfl (by omega)) rfl ?_ | refine x_q (stp_shift (.inl ⟨rfl, rfl⟩) rfl rfl (by omega)) rfl ?_ | refine x_q (stp_shift (.inr ⟨rfl, rfl⟩) rfl rfl (by omega)) rfl ?_ | refine x_q (stp_bool2 tok rfl rfl rfl rfl (.inl ⟨rfl, rfl⟩)) rfl ?_ | refine x_q (stp_bool2 tok rfl rfl rfl rfl (.inr ⟨rfl, rfl⟩)) rfl ?_ | refine x_q (stp_eqlNil tok (.inl ⟨rfl, rfl⟩) rfl rfl rfl) rfl ?_ | refine x_q (stp_eqlNil_not tok (.inl ⟨rfl, rfl⟩) rfl rfl rfl rfl) rfl ?_ | refine x_q (stp_andI rfl rfl) rfl ?_ | refine x_q (stp_orI rfl rfl) rfl ?_ | refine x_q (stp_bicI rfl rfl) rfl ?_ | refine x_q (stp_strEqV rfl rfl (by assumption)) rfl ?_ | refine x_q (stp_strEq rfl rfl) rfl ?_ | refine x_q (stp_strNeV rfl rfl (by assumption)) rfl ?_ | refine x_q (stp_strNe rfl rfl) rfl ?_) | (refine is_idx ?_; first | refine x_q (stp_indexAddr_sl tok rfl rfl rfl rfl rfl (by omega) (by first | rfl | assumption) rfl rfl) rfl ?_ | refine x_q (stp_indexAddr_r0 tok rfl rfl rfl rfl rfl rfl (by omega) (by omega) rfl) rfl ?_ | refine x_q (stp_indexAddr_box tok rfl rfl rfl rfl rfl rfl (by omega) (by omega)) rfl ?_) | (refine is_load ?_; first | refine x_q (stp_load_fp1 tok rfl rfl rfl (by first | rfl | assumption) rfl) rfl ?_ | refine x_q (stp_load_fpa tok rfl rfl rfl (by first | rfl | assumption) rfl) rfl ?_ | refine x_q (stp_load_arr1 tok rfl rfl rfl rfl (by first | rfl | assumption) rfl) rfl ?_ | refine x_q (stp_load_arra tok rfl rfl rfl rfl (by first | rfl | assumption) rfl) rfl ?_) | (refine is_fad ?_; first | refine x_q (stp_fieldAddr_arr tok rfl rfl rfl rfl rfl rfl rfl rfl) rfl ?_ | refine x_q (stp_fieldAddr_fp tok rfl (by first | rfl | assumption) rfl rfl rfl rfl rfl rfl) rfl ?_) | (refine is_app ?_; first | refine x_appref0 tok rfl rfl rfl rfl rfl rfl rfl (by first | (intro y hy; cases hy; rfl) | exact map_hd _ _ (fun _ => rfl)) rfl rfl rfl (by first | omega | (simp; done) | (simp; omega)) rfl ?_ | refine x_appref tok rfl rfl rfl rfl rfl rfl rfl rfl rfl rfl rfl (by first | (intro y hy; cases hy; rfl) | exact map_hd _ _ (fun _ => rfl)) (by first | omega | (simp; done) | (simp; omega)) rfl ?_) | (refine is_un ?_; first | refine x_q (stp_neg rfl ⟨by omega, by omega⟩) rfl ?_) | (refine is_conv ?_; first | refine x_q (stp_conv_in tok rfl rfl rfl rfl ⟨by omega, by omega⟩) rfl ?_ | refine x_q (stp_conv tok rfl rfl rfl rfl) rfl ?_ | refine x_q (stp_convStr tok rfl rfl rfl rfl rfl rfl rfl (by first | rfl | assumption)) rfl ?_) | (refine is_slc ?_; first | refine x_slcL tok rfl rfl rfl rfl rfl (by first | (intro y hy; cases hy; rfl) | exact map_hd _ _ (fun _ => rfl) | (simp; done)) (by omega) (by simp; omega) (by first | exact List.map_drop.symm | rfl) rfl ?_ | refine x_slcH tok rfl rfl rfl rfl rfl (by first | (intro y hy; cases hy; rfl) | exact map_hd _ _ (fun _ => rfl) | (simp; done)) (by omega) (by simp; omega) (by first | exact List.map_take.symm | rfl) rfl ?_) | (refine is_mks ?_; refine x_mks tok rfl rfl rfl rfl rfl rfl rfl rfl rfl rfl rfl rfl rfl (by omega) (by omega) rfl rfl rfl ?_) | refine x_autow tok rfl rfl rfl rfl ?_ | (refine is_sto ?_; first | refine x_autos tok rfl rfl rfl ?_ | refine x_stoa tok rfl rfl rfl (by first | rfl | assumption) rfl rfl rfl rfl rfl rfl ?_ | refine x_sto1 tok rfl rfl rfl (by first | rfl | assumption) rfl rfl rfl rfl rfl rfl rfl rfl ?_) | refine x_nil ?_ | refine x_nilD (by kernel_rfl) ?_) | (first | refine sim_seq ?_ | refine x_region ?_ | refine x_draw rfl ?_ | refine sim_cond_true rfl ?_ | refine sim_cond_false rfl ?_ | (refine sim_cond rfl (fun hc => ?_) (fun hc => ?_) <;> (try simp only [cmpB, decide_eq_true_eq, decide_eq_false_iff_not, beq_iff_eq, bne_iff_ne, ne_eq, Bool.not_eq_true, beq_eq_false_iff_ne, bne_eq_false_iff_eq, Int.not_lt, Int.not_le, Decidable.not_not] at hc)) | refine sim_skip ?_ | refine sim_ret ?_ | refine sim_exit ?_ | refine sim_block ?_)))
      all_goals (first | (exfalso; omega) | exact fin_ret [] rfl rfl rfl rfl)
    · have hk' : 2 ≤ m.kind ∧ m.kind ≤ 8 := of_decide_eq_true hk
      by_cases hv : r.bk.level ≤ 0
      · rw [decide_eq_false (by omega)] at c3
        simp only [hv, and_self, if_true]
        (refine callSim_of tok Try.func24 rfl (fun args w => Try.call24 args w) rfl rfl rfl (fun F hF => ?_))
        (have zc1 := c1; have zc2 := c2; have zc3 := c3; refine WW ?_; clear zc1 zc2 zc3)
        exact fin_ret [] rfl rfl rfl rfl
      · rw [decide_eq_true (by omega)] at c3
        simp only [hv, and_false, if_false, if_true]
        generalize hb : tak1 r.bk = b2 at *
        (refine callSim_of tok Try.func24 rfl (fun args w => Try.call24 args w) rfl rfl rfl (fun F hF => ?_))
        (have zc1 := c1; have zc2 := c2; have zc3 := c3; refine WW ?_; clear zc1 zc2 zc3)
        exact fin_ret [] rfl rfl rfl rfl
/-- Sets of bits, joined. -/
def bsN (p : Nat → Bool) : Nat → Nat
  | 0 => 0
  | n + 1 => if p n = true then bsN p n + 2 ^ n else bsN p n
theorem bsF_N (p : Nat → Bool) : ∀ n, bsF p n = (bsN p n : Int)
  | 0 => rfl
  | n + 1 => by
    unfold bsF bsN
    rw [bsF_N p n]
    split
    · unfold p2; simp
    · rfl
theorem bsN_lt (p : Nat → Bool) : ∀ n, bsN p n < 2 ^ n
  | 0 => (show 0 < 1 by omega)
  | n + 1 => by
    have := bsN_lt p n
    unfold bsN
    rw [Nat.pow_succ]
    split <;> omega
theorem bsN_bit (p : Nat → Bool) : ∀ n i, (bsN p n).testBit i = (decide (i < n) && p i)
  | 0, i => by simp [bsN]
  | n + 1, i => by
    have hlt := bsN_lt p n
    unfold bsN
    rcases Nat.lt_trichotomy i n with h | h | h
    · rw [decide_eq_true (by omega), Bool.true_and]
      split
      · rw [Nat.add_comm, Nat.testBit_two_pow_add_gt h, bsN_bit p n i, decide_eq_true h, Bool.true_and]
      · rw [bsN_bit p n i, decide_eq_true h, Bool.true_and]
    · subst h
      rw [decide_eq_true (by omega), Bool.true_and]
      split
      · rename_i hp
        rw [Nat.add_comm, Nat.testBit_two_pow_add_eq, bsN_bit p i i, decide_eq_false (by omega), hp]; rfl
      · rename_i hp
        rw [bsN_bit p i i, decide_eq_false (by omega)]
        simpa using hp
    · rw [decide_eq_false (by omega), Bool.false_and]
      refine Nat.testBit_lt_two_pow ?_
      have h2 : 2 ^ (n + 1) ≤ 2 ^ i := Nat.pow_le_pow_right (by omega) (by omega)
      rw [Nat.pow_succ] at h2
      split <;> omega
theorem orI_nat (a b : Nat) (ha : a < 2 ^ 30) (hb : b < 2 ^ 30) : orI a b = ((a ||| b : Nat) : Int) := by
  have h := Nat.or_lt_two_pow ha hb
  unfold orI
  rw [BitVec.ofInt_natCast, BitVec.ofInt_natCast, BitVec.toNat_or, BitVec.toNat_ofNat, BitVec.toNat_ofNat]
  have e : (2 : Nat) ^ IntKind.i64.bits = 18446744073709551616 := by decide
  rw [e, Nat.mod_eq_of_lt (by omega), Nat.mod_eq_of_lt (by omega)]
  exact wrap_in (k := .i64) (by unfold InR; omega)
theorem orI_bs (p q : Nat → Bool) : orI (bsF p 8) (bsF q 8) = bsF (fun i => p i || q i) 8 := by
  have h1 := bsN_lt p 8
  have h2 := bsN_lt q 8
  rw [bsF_N, bsF_N, bsF_N, orI_nat _ _ (by omega) (by omega)]
  congr 1
  apply Nat.eq_of_testBit_eq
  intro i
  rw [Nat.testBit_or, bsN_bit, bsN_bit, bsN_bit]
  cases decide (i < 8) <;> simp
def exP (l : List Tk) (now : Int) (n : Nat) (j : Nat) : Bool := (List.range n).any fun i => usF l i && exF (l.getD i default) now && ldF l 9 j i
theorem exP_succ (l : List Tk) (now : Int) (n : Nat) : exP l now (n + 1) = fun j => exP l now n j || (usF l n && exF (l.getD n default) now && ldF l 9 j n) := by
  funext j
  unfold exP
  rw [List.range_succ, List.any_append]
  simp
theorem expire2_c (l : List Tk) (hb : TkB l) (h8 : l.length = 8) (now : Int) : CallSim Try.prog 57 [slA tkA l, iA now] [] (slA tkA (expF l now)) [] := by
  have hll := map_len tkA l
  have cf := free2_c l hb (exP l now 8) h8
  have hx := exp_fr h8 now
  change expF l now = frB (exP l now 8) l 8 at hx
  rw [hx]
  generalize frB (exP l now 8) l 8 = l2 at *
  obtain ⟨N, hN⟩ : ∃ N : Nat, N = 8 := ⟨8, rfl⟩
  (refine callSim_of tok Try.func57 rfl (fun args w => Try.call57 args w) rfl rfl rfl (fun F hF => ?_))
  (refine WW ?_)
  (refine sim_cnt (N) [] [] [0, 1, 8, 9] [5, 10, 0, 1, 8, 9] rfl (fun i T U => ⟨(5, iA (bsF (exP l now i) 8)) :: (10, iA i) :: T, U⟩) ?_; (conv => whnf); refine ⟨by rfl, ?_, ?_⟩)
  · intro i hi
    have hu : usF l i = (l.getD i default).used := by unfold usF; rw [decide_eq_true (by omega), Bool.true_and, Int.toNat_natCast]
    have cw := below_c l i h8
    rw [h8] at cw
    have hor := orI_bs (exP l now i) (fun j => ldF l 9 j i)
    have hy := map_at tkA l i (by omega)
    have he := exP_succ l now i
    rw [hu] at he
    rw [he]
    clear he hu cf hx
    generalize exP l now i = p at *
    generalize l.getD i default = t at *
    rw [show tkA t = .agg [bA t.used, slA yA t.sec, iA t.par, iA t.rights, iA t.cls, iA t.til] from rfl] at hy
    unfold exF
    cases hu : t.used with
    | false =>
      rw [hu] at hy
      rw [show (fun j => p j || false && decide (t.til ≠ 0 ∧ t.til < now) && ldF l 9 j i) = p by funext j; simp]
      generalize bsF p 8 = b at *
      (refine WW ?_)
      rfl
    | true =>
    rw [hu] at hy
    by_cases h4 : t.til ≠ 0 ∧ t.til < now
    · rw [decide_eq_true h4]
      rw [show (fun j => p j || true && true && ldF l 9 j i) = fun j => p j || ldF l 9 j i by funext j; simp, ← hor]
      clear hor
      obtain ⟨h4, h5⟩ := h4
      generalize bsF p 8 = b at *
      generalize bsF (fun j => ldF l 9 j i) 8 = c at *
      (have zc1 := cw; refine WW ?_; clear zc1)
      rfl
    · rw [decide_eq_false h4]
      rw [show (fun j => p j || true && false && ldF l 9 j i) = p by funext j; simp]
      generalize bsF p 8 = b at *
      by_cases h5 : t.til = 0
      · (refine WW ?_)
        rfl
      · (refine WW ?_)
        rfl
  · rw [hN]
    (have zc1 := cf; refine WW ?_; clear zc1)
    exact fin_ret [] rfl rfl rfl rfl
theorem gtick2_c (r : Rg) (now : Int) (hr : RgB r) (h8 : r.tk.length = 8) (hl : -1000000 ≤ r.bk.level + r.bk.rate ∧ r.bk.level + r.bk.rate ≤ 1000000) : CallSim Try.prog 26 [rgA r, iA now] [] (rgA (rtF r now)) [] := by
  have c1 := copyG_c r hr
  have c2 := expire2_c r.tk hr.tk h8 now
  have c3 := btick2_c r.bk (by omega)
  unfold rtF
  generalize expF r.tk now = tk at *
  generalize btF r.bk = bk at *
  (refine callSim_of tok Try.func26 rfl (fun args w => Try.call26 args w) rfl rfl rfl (fun F hF => ?_))
  (have zc1 := c1; have zc2 := c2; have zc3 := c3; refine WW ?_; clear zc1 zc2 zc3)
  exact fin_ret [] rfl rfl rfl rfl
end Av
end Go.Proofs.Ytjbldhhgooihfaa
