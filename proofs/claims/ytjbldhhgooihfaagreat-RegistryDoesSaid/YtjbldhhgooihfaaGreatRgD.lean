
/- law17: new tokens, the bytes of tokens, which one passes; a registry opened. -/
import Derived.Test.YtjbldhhgooihfaaGreatRgC
namespace Go.Proofs.YtjbldhhgooihfaaGreat
namespace Av
set_option linter.unusedSimpArgs false
set_option linter.unusedVariables false
set_option maxRecDepth 4000
set_option maxHeartbeats 1000000
def tkN (a : Ag) : List Tk := ⟨true, a.sec, -1, a.rights, a.cls, 0⟩ :: List.replicate 7 frT
def zT : AV := .agg [.s (.bool false), .s (.slice none 0 0), .s (.int .i64 0), .s (.int .i64 0), .s (.int .i64 0), .s (.int .i64 0)]
def mkT (i : Nat) : List AV := List.replicate i (tkA frT) ++ List.replicate (8 - i) zT
theorem mkT_at (i : Nat) (h : i < 8) : (mkT i)[i]? = some zT := by
  unfold mkT
  rw [List.getElem?_append_right (by simp)]
  simp [show 0 < 8 - i by omega]
theorem mkT_set (i : Nat) (h : i < 8) : (mkT i).set i (tkA frT) = mkT (i + 1) := by
  unfold mkT
  rw [show 8 - i = (8 - (i + 1)) + 1 by omega, List.replicate_succ (n := 8 - (i + 1)), List.set_append_right _ _ (by simp), List.length_replicate, Nat.sub_self, List.set_cons_zero, List.replicate_succ' (n := i), List.append_assoc]
  rfl
theorem tnew_c (a : Ag) (hs : a.sec.length ≤ 1000000) : CallSim Tryz.prog 45 [agA a] [] (slA tkA (tkN a)) [] := by
  have cf := free_c
  have cs := cloneY_c a.sec (by omega)
  obtain ⟨N, hN⟩ : ∃ N : Nat, N = 8 := ⟨8, rfl⟩
  (refine callSim_of tok Tryz.func45 rfl (fun args w => Tryz.call45 args w) rfl rfl rfl (fun F hF => ?_))
  (refine WW ?_)
  (refine sim_cnt (N) [5, 1] [1] [1] [8, 7, 3, 1] rfl (fun i T U => ⟨(8, iA i) :: (7, iA N) :: (3, .ref 5 0 N) :: T, (5, .arr 6 (mkT i) false) :: U⟩) ?_; (conv => whnf); refine ⟨by (rw [hN]; rfl), ?_, ?_⟩)
  · intro i hi
    have hy := mkT_at i (by omega)
    have e := mkT_set i (by omega)
    have hln : (mkT i).length = 8 := by unfold mkT; simp; omega
    generalize mkT i = xs at *
    generalize mkT (i + 1) = ys at *
    subst e
    unfold zT at hy
    (have zc1 := cf; refine WW ?_; clear zc1)
    rfl
  · rw [show mkT N = mkT 8 by rw [hN]]
    have hy : (mkT 8)[0]? = some (tkA frT) := rfl
    have e8 : (mkT 8).set 0 (tkA ⟨true, a.sec, -1, a.rights, a.cls, 0⟩) = (tkN a).map tkA := rfl
    have hln : (mkT 8).length = 8 := rfl
    generalize mkT 8 = xs at *
    unfold tkA at hy
    (have zc1 := cs; refine WW ?_; clear zc1)
    exact fin_ret [] rfl rfl (congrArg (AV.sl false) ((List.take_of_length_le (by simp; omega)).trans e8)) rfl
def rgN (n : Int) (a : Ag) : Rg := ⟨n, a, tkN a, [], ⟨a.burst, a.rate, a.burst⟩⟩
theorem gnew_c (n : Int) (a : Ag) (hs : a.sec.length ≤ 1000000) (hl : a.lim.length ≤ 1000000) : CallSim Tryz.prog 16 [iA n, agA a] [] (rgA (rgN n a)) [] := by
  have c1 := cloneA_c a hs hl
  have c2 := tnew_c a hs
  have c3 := rnew_c a.rate a.burst
  unfold rgN
  generalize tkN a = tk at *
  (refine callSim_of tok Tryz.func16 rfl (fun args w => Tryz.call16 args w) rfl rfl rfl (fun F hF => ?_))
  (have zc1 := c1; have zc2 := c2; have zc3 := c3; refine WW ?_; clear zc1 zc2 zc3)
  exact fin_ret [] rfl rfl rfl rfl
theorem bytes2_c (g s : Int) (l : List Int) (hl : l.length ≤ 1000000) (g0 : 0 ≤ g) (g1 : g < 256) (s0 : 0 ≤ s) (s1 : s < 256) : CallSim Tryz.prog 18 [iA g, iA s, slA yA l] [] (slA yA (g :: s :: l)) [] := by
  have hll := map_len yA l
  (refine callSim_of tok Tryz.func18 rfl (fun args w => Tryz.call18 args w) rfl rfl rfl (fun F hF => ?_))
  (refine WW ?_)
  exact fin_ret [] rfl rfl (congrArg (AV.sl false) (List.take_of_length_le (by simp))) rfl
theorem byeq_c (a b : List Int) : CallSim Tryz.prog 85 [slA yA a, slA yA b] [] (bA (eqY a b)) [] := by
  (refine callSim_of tok Tryz.func85 rfl (fun args w => Tryz.call85 args w) rfl rfl rfl (fun F hF => ?_))
  (refine WW ?_)
  exact fin_ret [] rfl rfl rfl rfl
def tkOf (l : List Tk) (b : List Int) : Tk := l.getD (b.getD 1 default).toNat default
def ckB (l : List Tk) (g : Int) (b : List Int) (k now : Int) : Bool := decide ((b.length : Int) = 10 ∧ b.getD 0 default = g) && usF l (b.getD 1 default) && (eqY (b.drop 2) (tkOf l b).sec && !exF (tkOf l b) now && peF (tkOf l b).rights k)
theorem check_c (l : List Tk) (g : Int) (b : List Int) (k now : Int) (hb : BY b) : CallSim Tryz.prog 47 [slA tkA l, iA g, slA yA b, iA k, iA now] [] (.tup [iA (if ckB l g b k now = true then b.getD 1 default else 0), iA (if ckB l g b k now = true then 0 else 9)]) [] := by
  have hll := map_len yA b
  have hlt := map_len tkA l
  by_cases h1 : (b.length : Int) = 10
  case neg =>
    have e : ckB l g b k now = false := by unfold ckB; rw [decide_eq_false (fun h => h1 h.1)]; rfl
    rw [e]
    (refine callSim_of tok Tryz.func47 rfl (fun args w => Tryz.call47 args w) rfl rfl rfl (fun F hF => ?_))
    (refine WW ?_)
    exact fin_ret [] rfl rfl rfl rfl
  have hy0 := map_atI yA b 0 (by omega) (by omega)
  have hy1 := map_atI yA b 1 (by omega) (by omega)
  have b0 : 0 ≤ b.getD 0 default ∧ b.getD 0 default < 256 := hb _ (by simp [List.getD]; rw [List.getElem?_eq_getElem (by omega)]; simp)
  have b1 : 0 ≤ b.getD 1 default ∧ b.getD 1 default < 256 := hb _ (by simp [List.getD]; rw [List.getElem?_eq_getElem (by omega)]; simp)
  change (b.map yA)[0]? = some (yA (b.getD 0 default)) at hy0
  change (b.map yA)[1]? = some (yA (b.getD 1 default)) at hy1
  unfold ckB tkOf
  generalize b.getD 0 default = x0 at *
  generalize b.getD 1 default = x1 at *
  by_cases h2 : x0 = g
  case neg =>
    rw [decide_eq_false (fun h => h2 h.2)]
    (refine callSim_of tok Tryz.func47 rfl (fun args w => Tryz.call47 args w) rfl rfl rfl (fun F hF => ?_))
    (refine WW ?_)
    exact fin_ret [] rfl rfl rfl rfl
  rw [decide_eq_true ⟨h1, h2⟩]
  have cu := used_c l x1
  cases hu : usF l x1
  · rw [hu] at cu
    (refine callSim_of tok Tryz.func47 rfl (fun args w => Tryz.call47 args w) rfl rfl rfl (fun F hF => ?_))
    (have zc1 := cu; refine WW ?_; clear zc1)
    exact fin_ret [] rfl rfl rfl rfl
  rw [hu] at cu
  obtain ⟨u0, u1⟩ := usF_bd hu
  have hyt := map_atI tkA l x1 u0 u1
  generalize l.getD x1.toNat default = t at *
  have ce := byeq_c (b.drop 2) t.sec
  have cx := expired_c t now
  have cp := permits_c t.rights k
  generalize eqY (b.drop 2) t.sec = q1 at *
  generalize exF t now = q2 at *
  generalize peF t.rights k = q3 at *
  cases q1 <;> cases q2 <;> cases q3 <;> ((refine callSim_of tok Tryz.func47 rfl (fun args w => Tryz.call47 args w) rfl rfl rfl (fun F hF => ?_)); (have zc1 := cu; have zc2 := ce; have zc3 := cx; have zc4 := cp; refine WW ?_; clear zc1 zc2 zc3 zc4); exact fin_ret [] rfl rfl rfl rfl)
end Av
end Go.Proofs.YtjbldhhgooihfaaGreat
