
/- law17: the tokens of a deck. -/
import Derived.Test.YtjbldhhgooihfaaGreatRgP
import Derived.Test.YtjbldhhgooihfaaGreatRgW
import Derived.Test.YtjbldhhgooihfaaGreatMkB
namespace Go.Proofs.YtjbldhhgooihfaaGreat
namespace Av
set_option linter.unusedSimpArgs false
set_option linter.unusedVariables false
set_option maxRecDepth 4000
set_option maxHeartbeats 1000000
/-- Tokens as they come about. -/
structure TkP (l : List Tk) : Prop where
  n : l.length = 8
  y : ∀ t ∈ l, BY t.sec ∧ t.sec.length ≤ 8 ∧ (t.used = true → t.sec.length = 8 ∧ rvF t.rights = true ∧ 0 ≤ t.til ∧ t.til ≤ 2147483648)
  v : TV l
theorem TkP.b {l : List Tk} (h : TkP l) : TkB l := ⟨by have := h.n; omega, fun t ht => by have := (h.y t ht).2.1; omega⟩
noncomputable def rvR (l : List Tk) (s : Int) : List Tk × Int := open Classical in if h : TkB l then ((revoke2_ex l h s).choose, (revoke2_ex l h s).choose_spec.choose) else ([], 1)
theorem rvR_c {l : List Tk} (h : TkB l) (s : Int) : CallSim Tryz.prog 38 [slA tkA l, iA s] [] (.tup [slA tkA (rvR l s).1, iA (rvR l s).2]) [] := by
  unfold rvR
  rw [dif_pos h]
  exact (revoke2_ex l h s).choose_spec.choose_spec.1
theorem rvR_p {l : List Tk} (h : TkP l) (s : Int) (e : (rvR l s).2 = 0) : TkP (rvR l s).1 := by
  unfold rvR at e ⊢
  rw [dif_pos h.b] at e ⊢
  obtain ⟨_, s1, _, q⟩ := (revoke2_ex l h.b s).choose_spec.choose_spec.2 e
  dsimp only
  rw [q]
  refine ⟨by rw [frB_len]; exact h.n, fun t ht => ?_, tv_rv h.v s (by omega)⟩
  unfold frB at ht
  rw [List.mem_map] at ht
  obtain ⟨j, hj, rfl⟩ := ht
  rw [List.mem_range] at hj
  split
  · exact ⟨fun x hx => by simp [frT] at hx, by simp [frT], fun hu => by simp [frT] at hu⟩
  · exact h.y _ (by simp [List.getD, hj])
noncomputable def dvR (l : List Tk) (pa ri cl li : Int) (sec : List Int) (now : Int) : List Tk × Int × Int := open Classical in
  if h : TkB l ∧ sec.length ≤ 1000000 then ((derive2_ex l h.1 pa ri cl li sec now h.2).choose, (derive2_ex l h.1 pa ri cl li sec now h.2).choose_spec.choose, (derive2_ex l h.1 pa ri cl li sec now h.2).choose_spec.choose_spec.choose) else ([], 0, 1)
theorem dvR_c {l : List Tk} (h : TkB l) (pa ri cl li : Int) (sec : List Int) (now : Int) (hs : sec.length ≤ 1000000) : CallSim Tryz.prog 37 [slA tkA l, iA pa, iA ri, iA cl, iA li, slA yA sec, iA now] [] (.tup [slA tkA (dvR l pa ri cl li sec now).1, iA (dvR l pa ri cl li sec now).2.1, iA (dvR l pa ri cl li sec now).2.2]) [] := by
  unfold dvR
  rw [dif_pos ⟨h, hs⟩]
  exact (derive2_ex l h pa ri cl li sec now hs).choose_spec.choose_spec.choose_spec.1
theorem dvR_p {l : List Tk} (h : TkP l) (pa ri cl li : Int) (sec : List Int) (now : Int) (hs : sec.length ≤ 1000000) (hy : BY sec) (e : (dvR l pa ri cl li sec now).2.2 = 0) : TkP (dvR l pa ri cl li sec now).1 := by
  unfold dvR at e ⊢
  rw [dif_pos ⟨h.b, hs⟩] at e ⊢
  have q := (derive2_ex l h.b pa ri cl li sec now hs).choose_spec.choose_spec.choose_spec.2 e
  obtain ⟨j, _, hj, _, q2⟩ := q.j
  have hv := tv_dv q
  dsimp only
  rw [q2] at hv ⊢
  refine ⟨by rw [List.length_set]; exact h.n, fun t ht => ?_, hv⟩
  rcases List.mem_or_eq_of_mem_set ht with ht | rfl
  · exact h.y t ht
  · have hw := q.w
    unfold wiF at hw
    simp only [Bool.and_eq_true] at hw
    have hn := q.n
    have hf := q.f
    have hu : 0 ≤ unt li now ∧ unt li now ≤ 2147483648 := by unfold unt; split <;> omega
    exact ⟨hy, Nat.le_of_eq q.s, fun _ => ⟨q.s, hw.1.1, hu.1, hu.2⟩⟩
def rgs (r : Int) (q : Int) : Int := [r, 1, 3, 7, 15, 0].getD q.toNat default
def lfs (q : Int) : Int := [0, 3, 20].getD q.toNat default
/-- One round. -/
noncomputable def tkS (r k : Int) (l : List Tk) (d : Dk) : List Tk × Dk :=
  if nx d 5 = 4 then (if (rvR l (1 + nx (ad d) (7 - 1 + 1))).2 = 0 then (rvR l (1 + nx (ad d) (7 - 1 + 1))).1 else l, ad (ad d))
  else
    let v := dvR l (nx (ad (ad d)) 4) (rgs r (nx (ad d) 6)) (nx (ad (ad (ad d))) 4) (lfs (nx (ad (ad (ad (ad d)))) 3)) (secF k) (nx (ad (ad (ad (ad (ad d))))) 4)
    (if v.2.2 = 0 then v.1 else l, ad (ad (ad (ad (ad (ad d))))))
theorem tkS_p {l : List Tk} (h : TkP l) (r k : Int) (d : Dk) : TkP (tkS r k l d).1 := by
  unfold tkS
  split
  · dsimp only
    split
    · rename_i e; exact rvR_p h _ e
    · exact h
  · dsimp only
    split
    · rename_i e; exact dvR_p h _ _ _ _ _ _ (by rw [secF_len]; omega) (secF_by k) e
    · exact h
theorem tkS_rem (r k : Int) (l : List Tk) (d : Dk) : rem (tkS r k l d).2 ≤ rem d := by
  have r1 := rem_ad d
  have r2 := rem_ad (ad d)
  have r3 := rem_ad (ad (ad d))
  have r4 := rem_ad (ad (ad (ad d)))
  have r5 := rem_ad (ad (ad (ad (ad d))))
  have r6 := rem_ad (ad (ad (ad (ad (ad d)))))
  unfold tkS
  split <;> dsimp only <;> omega
noncomputable def tkL (r n : Int) (l : List Tk) (d : Dk) : Nat → List Tk × Dk
  | 0 => (l, d)
  | i + 1 => tkS r (n - i) (tkL r n l d i).1 (tkL r n l d i).2
theorem tkL_p (r n : Int) {l : List Tk} (h : TkP l) (d : Dk) : ∀ i, TkP (tkL r n l d i).1 ∧ rem (tkL r n l d i).2 ≤ rem d
  | 0 => ⟨h, Nat.le_refl _⟩
  | i + 1 => ⟨tkS_p (tkL_p r n h d i).1 r _ _, Nat.le_trans (tkS_rem r _ _ _) (tkL_p r n h d i).2⟩
theorem rgs_at (r q : Int) (h : 0 ≤ q ∧ q < 6) : ([AV.s (.int .i64 r), AV.s (.int .i64 1), AV.s (.int .i64 3), AV.s (.int .i64 7), AV.s (.int .i64 15), AV.s (.int .i64 0)] : List AV)[q.toNat]? = some (AV.s (.int .i64 (rgs r q))) := by
  have : q = 0 ∨ q = 1 ∨ q = 2 ∨ q = 3 ∨ q = 4 ∨ q = 5 := by omega
  rcases this with rfl | rfl | rfl | rfl | rfl | rfl <;> rfl
theorem lfs_at (q : Int) (h : 0 ≤ q ∧ q < 3) : ([AV.s (.int .i64 0), AV.s (.int .i64 3), AV.s (.int .i64 20)] : List AV)[q.toNat]? = some (AV.s (.int .i64 (lfs q))) := by
  have : q = 0 ∨ q = 1 ∨ q = 2 := by omega
  rcases this with rfl | rfl | rfl <;> rfl
theorem tkN_p (a : Ag) (hv : AgV a) (hy : BY a.sec) : TkP (tkN a) := ⟨rfl, fun t ht => by
  have hs : a.sec.length = 8 := by have := hv.s; omega
  have hr := hv.r
  simp only [tkN, List.mem_cons] at ht
  rcases ht with rfl | ht
  · exact ⟨hy, Nat.le_of_eq hs, fun _ => ⟨hs, decide_eq_true hr, (show (0 : Int) ≤ 0 by omega), (show (0 : Int) ≤ 2147483648 by omega)⟩⟩
  · rw [List.eq_of_mem_replicate ht]
    exact ⟨fun x hx => by simp [frT] at hx, by simp [frT], fun hu => by simp [frT] at hu⟩, (tv_iff _).1 (by rw [← tv_eq]; exact tvF_new a hv)⟩
theorem tokens_ex (a : Ag) (d : Dk) (hv : AgV a) (hy : BY a.sec) : ∃ (tk : List Tk) (d' : Dk), TkP tk ∧ rem d' ≤ rem d ∧ CallSim Tryz.prog 22 [.ptr 1000 0 0, agA a] [(1000, dkE d)] (slA tkA tk) [(1000, dkE d')] := by
  have hs : a.sec.length = 8 := by have := hv.s; omega
  have c0 := tnew2_c a (by omega)
  have c1 := next_c d 10 (by omega) (by omega)
  have b1 := nx_bd d 10 (by omega)
  have r1 := rem_ad d
  have hp := tkN_p a hv hy
  generalize tkN a = l0 at *
  generalize nx d 10 = n at *
  generalize ad d = d1 at *
  obtain ⟨N, rfl⟩ : ∃ N : Nat, n = N := ⟨n.toNat, by omega⟩
  refine ⟨(tkL a.rights N l0 d1 N).1, (tkL a.rights N l0 d1 N).2, (tkL_p a.rights N hp d1 N).1, Nat.le_trans (tkL_p a.rights N hp d1 N).2 r1, ?_⟩
  (refine callSim_of tok Tryz.func22 rfl (fun args w => Tryz.call22 args w) rfl rfl rfl (fun F hF => ?_))
  (have zc1 := c0; have zc2 := c1; refine WL ?_; clear zc1 zc2)
  (refine sim_cnt (N) [1000, 3] [3] [0, 3] [5, 6, 0, 3] rfl (fun i T U => ⟨(5, slA tkA (tkL a.rights N l0 d1 i).1) :: (6, iA ((N : Int) - i)) :: T, (1000, dkE (tkL a.rights N l0 d1 i).2) :: U⟩) ?_; (conv => whnf); refine ⟨by (rw [show (N : Int) - (0 : Nat) = N by omega]; rfl), ?_, ?_⟩)
  · intro i hi
    have hl := (tkL_p a.rights N hp d1 i).1
    have eS : tkL a.rights N l0 d1 (i + 1) = tkS a.rights (N - i) (tkL a.rights N l0 d1 i).1 (tkL a.rights N l0 d1 i).2 := rfl
    rw [show ((N : Int) - ((i + 1 : Nat) : Int)) = (N : Int) - i - 1 by omega]
    generalize (tkL a.rights N l0 d1 i).1 = l at *
    generalize (tkL a.rights N l0 d1 i).2 = e at *
    have hk1 : 1 ≤ (N : Int) - i := by omega
    have hk2 : (N : Int) - i ≤ 10 := by omega
    generalize (N : Int) - i = k at *
    have n1 := next_c e 5 (by omega) (by omega)
    unfold tkS at eS
    by_cases hq : nx e 5 = 4
    · rw [if_pos hq] at eS
      have n2 := range_c (ad e) 1 7 (by omega) (by omega) (by omega)
      have cr := rvR_c hl.b (1 + nx (ad e) (7 - 1 + 1))
      generalize rvR l (1 + nx (ad e) (7 - 1 + 1)) = v at *
      generalize 1 + nx (ad e) (7 - 1 + 1) = s at *
      generalize nx e 5 = q at *
      generalize ad e = e1 at *
      generalize ad e1 = e2 at *
      obtain ⟨l2, er⟩ := v
      dsimp only at cr eS
      by_cases her : er = 0
      · rw [if_pos her] at eS
        rw [eS]
        (have zc1 := n1; have zc2 := n2; have zc3 := cr; refine WL ?_; clear zc1 zc2 zc3)
        rfl
      · rw [if_neg her] at eS
        rw [eS]
        (have zc1 := n1; have zc2 := n2; have zc3 := cr; refine WL ?_; clear zc1 zc2 zc3)
        rfl
    · rw [if_neg hq] at eS
      dsimp only at eS
      have n2 := next_c (ad e) 6 (by omega) (by omega)
      have n3 := next_c (ad (ad e)) 4 (by omega) (by omega)
      have n4 := next_c (ad (ad (ad e))) 4 (by omega) (by omega)
      have n5 := next_c (ad (ad (ad (ad e)))) 3 (by omega) (by omega)
      have n6 := next_c (ad (ad (ad (ad (ad e))))) 4 (by omega) (by omega)
      have y2 := rgs_at a.rights (nx (ad e) 6) (nx_bd _ _ (by omega))
      have y5 := lfs_at (nx (ad (ad (ad (ad e)))) 3) (nx_bd _ _ (by omega))
      have w2 := nx_bd (ad e) 6 (by omega)
      have w5 := nx_bd (ad (ad (ad (ad e)))) 3 (by omega)
      have cd := dvR_c hl.b (nx (ad (ad e)) 4) (rgs a.rights (nx (ad e) 6)) (nx (ad (ad (ad e))) 4) (lfs (nx (ad (ad (ad (ad e)))) 3)) (secF k) (nx (ad (ad (ad (ad (ad e))))) 4) (by rw [secF_len]; omega)
      have cs := secret_c k
      have h6 : ([AV.s (.int .i64 a.rights), AV.s (.int .i64 1), AV.s (.int .i64 3), AV.s (.int .i64 7), AV.s (.int .i64 15), AV.s (.int .i64 0)] : List AV).length = 6 := rfl
      have h3 : ([AV.s (.int .i64 0), AV.s (.int .i64 3), AV.s (.int .i64 20)] : List AV).length = 3 := rfl
      generalize dvR l (nx (ad (ad e)) 4) (rgs a.rights (nx (ad e) 6)) (nx (ad (ad (ad e))) 4) (lfs (nx (ad (ad (ad (ad e)))) 3)) (secF k) (nx (ad (ad (ad (ad (ad e))))) 4) = v at *
      generalize rgs a.rights (nx (ad e) 6) = ri at *
      generalize lfs (nx (ad (ad (ad (ad e)))) 3) = li at *
      generalize secF k = sec at *
      generalize nx (ad (ad (ad (ad (ad e))))) 4 = x6 at *
      generalize nx (ad (ad (ad (ad e)))) 3 = x5 at *
      generalize nx (ad (ad (ad e))) 4 = x4 at *
      generalize nx (ad (ad e)) 4 = x3 at *
      generalize nx (ad e) 6 = x2 at *
      generalize nx e 5 = q at *
      generalize ad e = e1 at *
      generalize ad e1 = e2 at *
      generalize ad e2 = e3 at *
      generalize ad e3 = e4 at *
      generalize ad e4 = e5 at *
      generalize ad e5 = e6 at *
      obtain ⟨l2, iv, er⟩ := v
      dsimp only at cd eS
      by_cases her : er = 0
      · rw [if_pos her] at eS
        rw [eS]
        (have zc1 := n1; have zc2 := n2; have zc3 := n3; have zc4 := n4; have zc5 := n5; have zc6 := n6; have zc7 := cs; have zc8 := cd; refine WL ?_; clear zc1 zc2 zc3 zc4 zc5 zc6 zc7 zc8)
        rfl
      · rw [if_neg her] at eS
        rw [eS]
        (have zc1 := n1; have zc2 := n2; have zc3 := n3; have zc4 := n4; have zc5 := n5; have zc6 := n6; have zc7 := cs; have zc8 := cd; refine WL ?_; clear zc1 zc2 zc3 zc4 zc5 zc6 zc7 zc8)
        rfl
  · rw [show (N : Int) - (N : Int) = 0 by omega]
    (refine WL ?_)
    exact fin_own [1000] rfl rfl rfl rfl
end Av
end Go.Proofs.YtjbldhhgooihfaaGreat
