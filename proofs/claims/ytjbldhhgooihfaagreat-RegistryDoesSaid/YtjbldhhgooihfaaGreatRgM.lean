
/- law17: the vehicles of a deck. -/
import Derived.Test.YtjbldhhgooihfaaGreatRgL
namespace Go.Proofs.YtjbldhhgooihfaaGreat
namespace Av
set_option linter.unusedSimpArgs false
set_option linter.unusedVariables false
set_option maxRecDepth 4000
set_option maxHeartbeats 1000000
/-- An agency's numbers, as Register needs them. -/
def AgR (a : Ag) : Prop := (a.lim.length : Int) = 4 ∧ 0 ≤ a.cls ∧ a.cls ≤ 3
noncomputable def rgR (l : List Vh) (a : Ag) (v : Vh) : List Vh × Int := open Classical in if h : l.length ≤ 1000000 ∧ AgR a then ((register2_ex l h.1 a h.2.1 h.2.2 v).choose, (register2_ex l h.1 a h.2.1 h.2.2 v).choose_spec.choose) else ([], 1)
theorem rgR_c {l : List Vh} (h : l.length ≤ 8) {a : Ag} (ha : AgR a) (v : Vh) : CallSim Tryz.prog 39 [slA vhA l, agA a, vhA v, iA 3] [] (.tup [slA vhA (rgR l a v).1, iA (rgR l a v).2]) [] := by
  unfold rgR
  rw [dif_pos ⟨by omega, ha⟩]
  exact (register2_ex l (by omega) a ha.1 ha.2 v).choose_spec.choose_spec.1
theorem rgR_p {l : List Vh} (h : l.length ≤ 8) {a : Ag} (ha : AgR a) (v : Vh) (e : (rgR l a v).2 = 0) : (rgR l a v).1.length ≤ 8 ∧ vvF (rgR l a v).1 = true := by
  unfold rgR at e ⊢
  rw [dif_pos ⟨by omega, ha⟩] at e ⊢
  exact (register2_ex l (by omega) a ha.1 ha.2 v).choose_spec.choose_spec.2 e
noncomputable def vhS (a : Ag) (l : List Vh) (d : Dk) : List Vh := if (rgR l a ⟨nx d 8, nx (ad d) 4⟩).2 = 0 then (rgR l a ⟨nx d 8, nx (ad d) 4⟩).1 else l
noncomputable def vhL (a : Ag) (d : Dk) : Nat → List Vh × Dk
  | 0 => ([], d)
  | i + 1 => (vhS a (vhL a d i).1 (vhL a d i).2, ad (ad (vhL a d i).2))
theorem vhL_p {a : Ag} (ha : AgR a) (d : Dk) : ∀ i, ((vhL a d i).1.length ≤ 8 ∧ vvF (vhL a d i).1 = true) ∧ rem (vhL a d i).2 ≤ rem d
  | 0 => ⟨⟨by simp [vhL], (show vvF [] = true by decide)⟩, Nat.le_refl _⟩
  | i + 1 => by
    have ih := vhL_p ha d i
    have r1 := rem_ad (vhL a d i).2
    have r2 := rem_ad (ad (vhL a d i).2)
    refine ⟨?_, by show rem (ad (ad (vhL a d i).2)) ≤ _; omega⟩
    show (vhS a (vhL a d i).1 (vhL a d i).2).length ≤ 8 ∧ vvF (vhS a (vhL a d i).1 (vhL a d i).2) = true
    unfold vhS
    split
    · rename_i e; exact rgR_p ih.1.1 ha _ e
    · exact ih.1
theorem vehicles_ex (a : Ag) (ha : AgR a) (d : Dk) : ∃ (vh : List Vh) (d' : Dk), (vh.length ≤ 8 ∧ vvF vh = true) ∧ rem d' ≤ rem d ∧ CallSim Tryz.prog 23 [.ptr 1000 0 0, agA a] [(1000, dkE d)] (slA vhA vh) [(1000, dkE d')] := by
  have c1 := next_c d 8 (by omega) (by omega)
  have b1 := nx_bd d 8 (by omega)
  have r1 := rem_ad d
  generalize nx d 8 = n at *
  generalize ad d = d1 at *
  obtain ⟨N, rfl⟩ : ∃ N : Nat, n = N := ⟨n.toNat, by omega⟩
  refine ⟨(vhL a d1 N).1, (vhL a d1 N).2, (vhL_p ha d1 N).1, Nat.le_trans (vhL_p ha d1 N).2 r1, ?_⟩
  (refine callSim_of tok Tryz.func23 rfl (fun args w => Tryz.call23 args w) rfl rfl rfl (fun F hF => ?_))
  (have zc1 := c1; refine WL ?_; clear zc1)
  refine sim_wk 5 rfl rfl rfl ?_
  (refine sim_cnt (N) [1000, 3] [3] [0, 3] [5, 6, 0, 3] rfl (fun i T U => ⟨(5, slA vhA (vhL a d1 i).1) :: (6, iA ((N : Int) - i)) :: T, (1000, dkE (vhL a d1 i).2) :: U⟩) ?_; (conv => whnf); refine ⟨by (rw [show (N : Int) - (0 : Nat) = N by omega]; rfl), ?_, ?_⟩)
  · intro i hi
    have hl := (vhL_p ha d1 i).1.1
    have eS : vhL a d1 (i + 1) = (vhS a (vhL a d1 i).1 (vhL a d1 i).2, ad (ad (vhL a d1 i).2)) := rfl
    rw [show ((N : Int) - ((i + 1 : Nat) : Int)) = (N : Int) - i - 1 by omega]
    generalize (vhL a d1 i).1 = l at *
    generalize (vhL a d1 i).2 = e at *
    have hk1 : 1 ≤ (N : Int) - i := by omega
    have hk2 : (N : Int) - i ≤ 10 := by omega
    generalize (N : Int) - i = k at *
    have n1 := next_c e 8 (by omega) (by omega)
    have n2 := next_c (ad e) 4 (by omega) (by omega)
    have cr := rgR_c hl ha ⟨nx e 8, nx (ad e) 4⟩
    unfold vhS at eS
    have ev : vhA ⟨nx e 8, nx (ad e) 4⟩ = .agg [iA (nx e 8), iA (nx (ad e) 4)] := rfl
    rw [ev] at cr
    generalize rgR l a ⟨nx e 8, nx (ad e) 4⟩ = v at *
    generalize nx (ad e) 4 = x2 at *
    generalize nx e 8 = x1 at *
    generalize ad e = e1 at *
    generalize ad e1 = e2 at *
    obtain ⟨l2, er⟩ := v
    dsimp only at cr eS
    by_cases her : er = 0
    · rw [if_pos her] at eS
      rw [eS]
      (have zc1 := n1; have zc2 := n2; have zc3 := cr; refine WL ?_; clear zc1 zc2 zc3)
      rfl
    · rw [if_neg her] at eS
      rw [eS]
      (have zc1 := n1; have zc2 := n2; have zc3 := cr; refine WL ?_; clear zc1 zc2 zc3)
      rfl
  · rw [show (N : Int) - (N : Int) = 0 by omega]
    (refine WL ?_)
    exact fin_own [1000] rfl rfl rfl rfl
end Av
end Go.Proofs.YtjbldhhgooihfaaGreat
