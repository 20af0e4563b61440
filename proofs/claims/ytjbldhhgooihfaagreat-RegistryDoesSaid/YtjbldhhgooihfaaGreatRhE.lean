
/- law17: token.Revoke and the reference's, exactly. -/
import Derived.Test.YtjbldhhgooihfaaGreatRhB
import Derived.Test.YtjbldhhgooihfaaGreatRgI
import Derived.Test.YtjbldhhgooihfaaGreatRgP
namespace Go.Proofs.YtjbldhhgooihfaaGreat
namespace Av
set_option linter.unusedSimpArgs false
set_option linter.unusedVariables false
set_option maxRecDepth 4000
set_option maxHeartbeats 2000000
theorem rv_fr (l : List Tk) (s : Int) (h8 : l.length = 8) : rvS l s l.length = frB (fun i => ldF l 9 i s) l 8 := by
  unfold rvS frB
  apply List.map_congr_left
  intro j hj
  have hj := List.mem_range.1 hj
  unfold rvAt
  rw [if_pos hj, de_ld h8]
  by_cases h : ldF l 9 j s = true
  · rw [if_pos h, if_pos ⟨by omega, h⟩]
  · rw [if_neg h, if_neg (fun k => h k.2)]
theorem tkB_nil : TkB [] := ⟨by simp, fun t h => by simp at h⟩
theorem tkB_rv {l : List Tk} (hb : TkB l) (s : Int) (n : Nat) : TkB (rvS l s n) := by
  refine ⟨by rw [rvS_len]; exact hb.n, fun t ht => ?_⟩
  have hg : ∀ j, (l.getD j default).sec.length ≤ 1000000 := fun j => by
    by_cases h : j < l.length
    · exact hb.s _ (by simp [List.getD, h])
    · rw [show l.getD j default = default by simp [List.getD, h]]
      exact Nat.zero_le _
  unfold rvS at ht
  rw [List.mem_map] at ht
  obtain ⟨j, _, rfl⟩ := ht
  split
  · unfold rvAt
    split
    · exact Nat.zero_le _
    · exact hg j
  · exact hg j
theorem revoke_both (l : List Tk) (hb : TkB l) (s : Int) : ∃ (o : List Tk) (e : Int), (0 ≤ e ∧ e ≤ 20) ∧ TkB o ∧ CallSim Tryz.prog 29 [slA tkA l, iA s] [] (.tup [slA tkA o, iA e]) [] ∧ CallSim Tryz.prog 38 [slA tkA l, iA s] [] (.tup [slA tkA o, iA e]) [] := by
  have hn := hb.n
  have hll := map_len tkA l
  have c1 := tvalid_c l
  have r1 := tvalid2_c l
  rw [← tv_eq] at r1
  cases hv : tvF l with
  | false =>
    rw [hv] at c1 r1
    refine ⟨[], 1, by omega, tkB_nil, ?_, ?_⟩
    · (refine callSim_of tok Tryz.func29 rfl (fun args w => Tryz.call29 args w) rfl rfl rfl (fun F hF => ?_))
      (have zc1 := c1; refine WW ?_; clear zc1)
      exact fin_ret [] rfl rfl rfl rfl
    · (refine callSim_of tok Tryz.func38 rfl (fun args w => Tryz.call38 args w) rfl rfl rfl (fun F hF => ?_))
      (have zc1 := r1; refine WW ?_; clear zc1)
      exact fin_ret [] rfl rfl rfl rfl
  | true =>
  rw [hv] at c1 r1
  have h8 : l.length = 8 := by unfold tvF at hv; rw [Bool.and_eq_true, decide_eq_true_eq] at hv; omega
  by_cases h1 : 1 ≤ s
  case neg =>
    refine ⟨[], 8, by omega, tkB_nil, ?_, ?_⟩
    · (refine callSim_of tok Tryz.func29 rfl (fun args w => Tryz.call29 args w) rfl rfl rfl (fun F hF => ?_))
      (have zc1 := c1; refine WW ?_; clear zc1)
      exact fin_ret [] rfl rfl rfl rfl
    · (refine callSim_of tok Tryz.func38 rfl (fun args w => Tryz.call38 args w) rfl rfl rfl (fun F hF => ?_))
      (have zc1 := r1; refine WW ?_; clear zc1)
      exact fin_ret [] rfl rfl rfl rfl
  by_cases h2 : s < 8
  case neg =>
    refine ⟨[], 8, by omega, tkB_nil, ?_, ?_⟩
    · (refine callSim_of tok Tryz.func29 rfl (fun args w => Tryz.call29 args w) rfl rfl rfl (fun F hF => ?_))
      (have zc1 := c1; refine WW ?_; clear zc1)
      exact fin_ret [] rfl rfl rfl rfl
    · (refine callSim_of tok Tryz.func38 rfl (fun args w => Tryz.call38 args w) rfl rfl rfl (fun F hF => ?_))
      (have zc1 := r1; refine WW ?_; clear zc1)
      exact fin_ret [] rfl rfl rfl rfl
  have hy := map_atI tkA l s (by omega) (by omega)
  cases hu : (l.getD s.toNat default).used with
  | false =>
    rw [show tkA (l.getD s.toNat default) = tkU false (l.getD s.toNat default) by unfold tkA tkU; rw [hu]] at hy
    unfold tkU at hy
    generalize l.getD s.toNat default = t at *
    refine ⟨[], 12, by omega, tkB_nil, ?_, ?_⟩
    · (refine callSim_of tok Tryz.func29 rfl (fun args w => Tryz.call29 args w) rfl rfl rfl (fun F hF => ?_))
      (have zc1 := c1; refine WW ?_; clear zc1)
      exact fin_ret [] rfl rfl rfl rfl
    · (refine callSim_of tok Tryz.func38 rfl (fun args w => Tryz.call38 args w) rfl rfl rfl (fun F hF => ?_))
      (have zc1 := r1; refine WW ?_; clear zc1)
      exact fin_ret [] rfl rfl rfl rfl
  | true =>
    have cr := trevoke_c l hb hv s ⟨h1, h2⟩ h8 hu
    have b1 := below_c l s h8
    rw [h8] at b1
    have b2 := free2_c l hb (fun i => ldF l 9 i s) h8
    rw [← rv_fr l s h8] at b2
    rw [show tkA (l.getD s.toNat default) = tkU true (l.getD s.toNat default) by unfold tkA tkU; rw [hu]] at hy
    unfold tkU at hy
    refine ⟨rvS l s l.length, 0, by omega, tkB_rv hb s _, cr, ?_⟩
    clear cr hu
    generalize rvS l s l.length = l2 at *
    generalize bsF (fun i => ldF l 9 i s) 8 = b at *
    generalize l.getD s.toNat default = t at *
    (refine callSim_of tok Tryz.func38 rfl (fun args w => Tryz.call38 args w) rfl rfl rfl (fun F hF => ?_))
    (have zc1 := r1; have zc2 := b1; have zc3 := b2; refine WW ?_; clear zc1 zc2 zc3)
    exact fin_ret [] rfl rfl rfl rfl
end Av
end Go.Proofs.YtjbldhhgooihfaaGreat
