
/- Rings: a junction that is valid. -/
import Derived.Test.YtkliodbbcblobaaGreatRiE
import Derived.Test.YtkliodbbcblobaaGreatAvac
namespace Go.Proofs.YtkliodbbcblobaaGreat
namespace Av
set_option linter.unusedSimpArgs false
set_option linter.unusedVariables false
set_option maxRecDepth 4000
set_option maxHeartbeats 1000000
theorem and1 (y : Int) : andI y 1 = 0 ∨ andI y 1 = 1 := by
  show IntKind.i64.wrap (BitVec.ofInt 64 y &&& BitVec.ofInt 64 1).toNat = 0 ∨ IntKind.i64.wrap (BitVec.ofInt 64 y &&& BitVec.ofInt 64 1).toNat = 1
  have e1 : BitVec.ofInt 64 1 = 1#64 := by decide
  have h : (BitVec.ofInt 64 y &&& BitVec.ofInt 64 1).toNat = (BitVec.ofInt 64 y).toNat % 2 := by
    rw [e1, BitVec.toNat_and]
    exact Nat.and_one_is_mod _
  rw [h]
  have h2 : (BitVec.ofInt 64 y).toNat % 2 = 0 ∨ (BitVec.ofInt 64 y).toNat % 2 = 1 := by omega
  rcases h2 with h2 | h2 <;> rw [h2]
  · exact .inl (by decide)
  · exact .inr (by decide)
theorem cfP_bit {rows : List Int} {p q : Nat} (hp : p < rows.length) (hq : q < rows.length) : andI (shrI (rows.getD p default) q) 1 = if cfP rows p q = true then 1 else 0 := by
  unfold cfP
  rw [decide_eq_true (by omega), Bool.true_and, Int.toNat_natCast]
  split
  · rename_i h
    rwa [beq_iff_eq] at h
  · rename_i h
    rw [beq_iff_eq] at h
    rcases and1 (shrI (rows.getD p default) q) with h1 | h1
    · exact h1
    · exact absurd h1 h
theorem shr0 {x : Int} {n : Nat} (h : 0 ≤ x ∧ x < 2 ^ n) : shrI x n = 0 := by
  unfold shrI
  rw [Int.toNat_natCast]
  exact Int.fdiv_eq_zero_of_lt h.1 h.2
theorem mvalid_c (j : Jn) (J : JV j) : CallSim Tryz.prog 80 [slA iA j.cf] [] (bA true) [] := by
  have hl := map_len iA j.cf
  have hn := J.n
  have hc := J.c
  (refine callSim_of tok Tryz.func80 rfl (fun args w => Tryz.call80 args w) rfl rfl rfl (fun F hF => ?_))
  (refine WW ?_)
  (refine sim_cnt (j.cf.length) [] [] [0, 14, 15] [16, 0, 14, 15] rfl (fun i T U => ⟨(16, iA i) :: T, U⟩) ?_; (conv => whnf); refine ⟨by rfl, ?_, ?_⟩)
  · intro u hu
    have hy := map_at iA j.cf u hu
    have hrow := J.row u (by omega)
    have hs0 := shr0 hrow
    rw [← hc, ← hl] at hs0
    have hir := cfP_bit (p := u) (q := u) hu hu
    rw [J.ir u (by omega), if_neg (by decide)] at hir
    have hpq : ∀ v, v < j.cf.length → andI (shrI (j.cf.getD u default) v) 1 = andI (shrI (j.cf.getD v default) u) 1 := fun v hv => by
      rw [cfP_bit hu hv, cfP_bit hv hu, J.sy u v (by omega) (by omega)]
    generalize j.cf.getD u default = x at *
    (refine WW ?_)
    (refine sim_cnt (j.cf.length) [] [] [0, 3, 4, 14, 15, 16, 38] [39, 0, 3, 4, 14, 15, 16, 38] rfl (fun i T U => ⟨(39, iA i) :: T, U⟩) ?_; (conv => whnf); refine ⟨by rfl, ?_, ?_⟩)
    · intro v hv
      have hyv := map_at iA j.cf v hv
      have hpq := hpq v hv
      generalize j.cf.getD v default = y at *
      (refine WW ?_)
      rfl
    · clear hpq
      (refine WW ?_)
      rfl
  · (refine WW ?_)
    exact fin_ret [] rfl rfl rfl rfl
theorem pwi_c (n a b : Int) (h : a ≤ n ∧ n ≤ b) : CallSim Tryz.prog 81 [iA n, iA a, iA b] [] (bA true) [] := by
  obtain ⟨h1, h2⟩ := h
  (refine callSim_of tok Tryz.func81 rfl (fun args w => Tryz.call81 args w) rfl rfl rfl (fun F hF => ?_))
  (refine WW ?_)
  exact fin_ret [] rfl rfl rfl rfl
theorem pphase_c (j : Jn) (J : JV j) (p : Nat) (hp : p < j.ph.length) : CallSim Tryz.prog 82 [phA (phO j p)] [] (bA true) [] := by
  have hr := J.rg p hp
  have hg := J.gp p hp
  obtain ⟨t1, t2, t3, t4, t5, t6, t7, t8, t9, t10, t11, t12, t13⟩ := J.ti p hp
  generalize phO j p = t at *
  have c1 := pwi_c t.ring 0 1 hr
  have c2 := pwi_c t.group 0 3 hg
  have c3 := pwi_c t.ming 1 60 ⟨t1, by omega⟩
  have c4 := pwi_c t.maxg 1 60 ⟨by omega, t3⟩
  have c5 := pwi_c t.yel 1 60 ⟨t4, t5⟩
  have c6 := pwi_c t.red 0 60 ⟨t6, t7⟩
  have c7 := pwi_c t.walk 0 60 ⟨t8, t9⟩
  have c8 := pwi_c t.clear 0 60 ⟨t10, t11⟩
  by_cases h0 : t.walk = 0
  · have h1 := t13.1 h0
    clear t13
    (refine callSim_of tok Tryz.func82 rfl (fun args w => Tryz.call82 args w) rfl rfl rfl (fun F hF => ?_))
    (have zc1 := c1; have zc2 := c2; have zc3 := c3; have zc4 := c4; have zc5 := c5; have zc6 := c6; have zc7 := c7; have zc8 := c8; refine WW ?_; clear zc1 zc2 zc3 zc4 zc5 zc6 zc7 zc8)
    exact fin_ret [] rfl rfl rfl rfl
  · have h1 : ¬ t.clear = 0 := fun h => h0 (t13.2 h)
    clear t13
    (refine callSim_of tok Tryz.func82 rfl (fun args w => Tryz.call82 args w) rfl rfl rfl (fun F hF => ?_))
    (have zc1 := c1; have zc2 := c2; have zc3 := c3; have zc4 := c4; have zc5 := c5; have zc6 := c6; have zc7 := c7; have zc8 := c8; refine WW ?_; clear zc1 zc2 zc3 zc4 zc5 zc6 zc7 zc8)
    exact fin_ret [] rfl rfl rfl rfl
theorem papart_c (j : Jn) (J : JV j) : CallSim Tryz.prog 83 [jnA j] [] (bA true) [] := by
  have hl := map_len phA j.ph
  have hn := J.n
  have hc := J.c
  (refine callSim_of tok Tryz.func83 rfl (fun args w => Tryz.call83 args w) rfl rfl rfl (fun F hF => ?_))
  repeat' (first | (refine is_ops ?_; first | refine x_auto tok rfl rfl ?_ | refine x_autow tok rfl rfl rfl rfl ?_ | refine x_nil ?_) | (first | refine sim_seq ?_ | refine x_region ?_ | refine x_draw rfl ?_ | refine sim_skip ?_ | refine sim_ret ?_ | refine sim_exit ?_) | refine sim_scope ?_ | refine sim_label ?_ | refine sim_block ?_)
  (refine sim_cnt (j.ph.length) [1] [1] [1, 9, 10] [3, 11, 1, 9, 10] rfl (fun i T U => ⟨(3, bA true) :: (11, iA i) :: T, U⟩) ?_; (conv => whnf); refine ⟨by rfl, ?_, ?_⟩)
  · intro u hu
    have hy := map_at phA j.ph u hu
    change (j.ph.map phA)[u]? = some (phA (phO j u)) at hy
    (refine WW ?_)
    (refine sim_cnt (j.ph.length) [1, 5] [1, 5] [1, 4, 5, 9, 10, 11, 17, 18] [3, 19, 1, 4, 5, 9, 10, 11, 17, 18] rfl (fun i T U => ⟨(3, bA true) :: (19, iA i) :: T, U⟩) ?_; (conv => whnf); refine ⟨by rfl, ?_, ?_⟩)
    · intro v hv
      have hyv := map_at phA j.ph v hv
      change (j.ph.map phA)[v]? = some (phA (phO j v)) at hyv
      have ck := conf_c j.cf (by omega) u v
      have hap := J.ap u v hu hv
      by_cases huv : u = v
      · have hne : (u : Int) = v := by omega
        clear hap
        generalize phO j u = a at *
        generalize phO j v = b at *
        (refine WW ?_)
        rfl
      have hne : ¬ (u : Int) = v := by omega
      by_cases h1 : (phO j u).ring = (phO j v).ring
      · rw [hap huv (.inl h1)] at ck
        clear hap
        generalize phO j u = a at *
        generalize phO j v = b at *
        (have zc1 := ck; refine WW ?_; clear zc1)
        rfl
      by_cases h2 : (phO j u).group = (phO j v).group
      · clear hap
        generalize phO j u = a at *
        generalize phO j v = b at *
        (refine WW ?_)
        rfl
      · rw [hap huv (.inr h2)] at ck
        clear hap
        generalize phO j u = a at *
        generalize phO j v = b at *
        (have zc1 := ck; refine WW ?_; clear zc1)
        rfl
    · generalize phO j u = a at *
      (refine WW ?_)
      rfl
  · (refine WW ?_)
    exact fin_ret [] rfl rfl rfl rfl
/-- The set of the groups of the phases before i. -/
def gsB (j : Jn) (i : Nat) (g : Nat) : Bool := (List.range i).any fun p => (phO j p).group == (g : Int)
theorem gsB_succ (j : Jn) (i : Nat) : gsB j (i + 1) = fun g => gsB j i g || ((phO j i).group == (g : Int)) := by
  funext g
  unfold gsB
  rw [List.range_succ, List.any_append]
  simp
theorem p2_bs (g : Nat) (h : g < 4) : p2 (g : Int) = bsF (fun x : Nat => (g : Int) == (x : Int)) 8 := by
  have : g = 0 ∨ g = 1 ∨ g = 2 ∨ g = 3 := by omega
  rcases this with rfl | rfl | rfl | rfl <;> decide
theorem down : ∀ b0 b1 b2 b3 : Bool, (b1 = true → b0 = true) → (b2 = true → b1 = true) → (b3 = true → b2 = true) → andI (bsF (bq b0 b1 b2 b3 false false false false) 8) (bsF (bq b0 b1 b2 b3 false false false false) 8 + 1) = 0 := by decide +kernel
theorem gs_down (j : Jn) (J : JV j) : andI (bsF (gsB j j.ph.length) 8) (bsF (gsB j j.ph.length) 8 + 1) = 0 := by
  have hf : ∀ g : Nat, 4 ≤ g → gsB j j.ph.length g = false := fun g hg => by
    unfold gsB
    rw [List.any_eq_false]
    intro p hp
    have := J.gp p (List.mem_range.1 hp)
    simp
    omega
  have hd : ∀ g : Nat, gsB j j.ph.length (g + 1) = true → gsB j j.ph.length g = true := fun g h => by
    unfold gsB at h ⊢
    rw [List.any_eq_true] at h ⊢
    obtain ⟨p, hp, hg⟩ := h
    rw [beq_iff_eq] at hg
    obtain ⟨q, hq, hqg⟩ := J.lo p (List.mem_range.1 hp) g (by omega) (by omega)
    exact ⟨q, List.mem_range.2 hq, by rw [beq_iff_eq]; exact hqg⟩
  have e : bsF (gsB j j.ph.length) 8 = bsF (bq (gsB j j.ph.length 0) (gsB j j.ph.length 1) (gsB j j.ph.length 2) (gsB j j.ph.length 3) false false false false) 8 := bsF_congr 8 fun i hi => by
    match i, hi with
    | 0, _ => rfl | 1, _ => rfl | 2, _ => rfl | 3, _ => rfl
    | 4, _ => exact hf 4 (by omega)
    | 5, _ => exact hf 5 (by omega)
    | 6, _ => exact hf 6 (by omega)
    | 7, _ => exact hf 7 (by omega)
    | i + 8, h => omega
  rw [e]
  exact down _ _ _ _ (hd 0) (hd 1) (hd 2)
theorem pjunction_c (j : Jn) (J : JV j) : CallSim Tryz.prog 58 [jnA j] [] (bA true) [] := by
  have hl := map_len phA j.ph
  have hlc := map_len iA j.cf
  have hn := J.n
  have hc := J.c
  have c1 := mvalid_c j J
  have c2 := pwi_c j.st 0 60 J.st
  have c3 := papart_c j J
  have hgd := gs_down j J
  have hbb := bsF_bd (gsB j j.ph.length) 8 (by omega)
  have hp8 : p2 ((8 : Nat) : Int) = 256 := by decide
  (refine callSim_of tok Tryz.func58 rfl (fun args w => Tryz.call58 args w) rfl rfl rfl (fun F hF => ?_))
  (have zc1 := c1; have zc2 := c2; refine WW ?_; clear zc1 zc2)
  (refine sim_cnt (j.ph.length) [1] [1] [1, 34, 35] [4, 36, 1, 34, 35] rfl (fun i T U => ⟨(4, iA (bsF (gsB j i) 8)) :: (36, iA i) :: T, U⟩) ?_; (conv => whnf); refine ⟨by rfl, ?_, ?_⟩)
  · intro u hu
    have hy := map_at phA j.ph u hu
    change (j.ph.map phA)[u]? = some (phA (phO j u)) at hy
    have cp := pphase_c j J u hu
    have hg := J.gp u hu
    have es := gsB_succ j u
    obtain ⟨gn, hgn⟩ : ∃ n : Nat, (phO j u).group = n := ⟨(phO j u).group.toNat, by omega⟩
    have hor := orI_bs (gsB j u) (fun x : Nat => (gn : Int) == (x : Int))
    rw [← p2_bs gn (by omega)] at hor
    rw [hgn] at es
    rw [es, ← hor]
    generalize bsF (gsB j u) 8 = b at *
    rw [← hgn]
    clear c1 c2 c3 hor es
    generalize phO j u = t at *
    (have zc1 := cp; refine WW ?_; clear zc1)
    rfl
  · generalize bsF (gsB j j.ph.length) 8 = b at *
    (have zc1 := c3; refine WW ?_; clear zc1)
    exact fin_ret [] rfl rfl rfl rfl
end Av
end Go.Proofs.YtkliodbbcblobaaGreat
