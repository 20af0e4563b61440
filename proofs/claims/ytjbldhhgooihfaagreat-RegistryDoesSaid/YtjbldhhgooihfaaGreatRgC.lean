
/- law17: the slots that following the parents leads to. -/
import Derived.Test.YtjbldhhgooihfaaGreatRgB
namespace Go.Proofs.YtjbldhhgooihfaaGreat
namespace Av
set_option linter.unusedSimpArgs false
set_option linter.unusedVariables false
set_option maxRecDepth 4000
set_option maxHeartbeats 1000000
/-- The used slots that following the parents leads to, n at most. -/
def chF (l : List Tk) : Nat → Int → List Int
  | 0, _ => []
  | n + 1, s => bif usF l s then s :: chF l n (l.getD s.toNat default).par else []
theorem chF_succ (l : List Tk) (k : Nat) (a : Int) : chF l (k + 1) a = bif usF l a then a :: chF l k (l.getD a.toNat default).par else [] := rfl
theorem usF_bd {l : List Tk} {s : Int} (h : usF l s = true) : 0 ≤ s ∧ s < l.length := by
  unfold usF at h
  simp only [Bool.and_eq_true, decide_eq_true_eq] at h
  exact h.1
theorem chF_us {l : List Tk} : ∀ (n : Nat) (s x : Int), x ∈ chF l n s → usF l x = true
  | 0, s, x, h => by simp [chF] at h
  | n + 1, s, x, h => by
    unfold chF at h
    cases hu : usF l s <;> rw [hu] at h
    · simp at h
    · rw [cond_true, List.mem_cons] at h
      rcases h with rfl | h
      · exact hu
      · exact chF_us n _ x h
def ancH (l : List Tk) (s : Int) : List (Nat × Ent) := [(1003, .box [iA s]), (1004, .box [slA tkA l])]
theorem anc_c (l : List Tk) (s : Int) : CallSim Tryz.prog 98 [slA tkA l, iA s] [] (.fn 108 [.ptr 1003 0 0, .ptr 1004 0 0]) (ancH l s) := by
  (refine callSim_of tok Tryz.func98 rfl (fun args w => Tryz.call98 args w) rfl rfl rfl (fun F hF => ?_))
  repeat' (first | (refine is_ops ?_; first | refine x_w (stp_box (v := AV.sl _ _) 1004 rfl rfl) rfl rfl rfl ?_ | refine x_w (stp_box (v := AV.s _) 1003 rfl rfl) rfl rfl rfl ?_ | refine x_auto tok rfl rfl ?_ | refine x_nil ?_) | (first | refine sim_seq ?_ | refine x_region ?_ | refine x_draw rfl ?_ | refine sim_cond_true rfl ?_ | refine sim_cond_false rfl ?_ | refine sim_cond rfl (fun hc => ?_) (fun hc => ?_) | refine sim_skip ?_ | refine sim_ret ?_ | refine sim_exit ?_ | refine sim_block ?_))
  exact fin_own [1003, 1004] rfl rfl rfl rfl
theorem anc_it (l : List Tk) (s : Int) : IterSim Tryz.prog 108 [.ptr 1003 0 0, .ptr 1004 0 0] (ancH l s) ((chF l 8 s).map fun x => [iA x]) := by
  have hl := map_len tkA l
  refine iterSim_of Tryz.func108 rfl (fun args w => Tryz.call108 args w) rfl rfl rfl (fun F y hro hit hY => ?_)
  unfold ancH
  (refine WW ?_)
  (refine sim_cntP (8) [1003, 1004] [1003, 1004] [0, 2] [4, 6, 1000000, 0, 2] rfl (fun i T U zs => ∃ (a : Int) (pre : List Int), (chF l 8 s = pre ++ chF l (8 - i) a ∧ pre.length = i) ∧ zs = ⟨(4, iA a) :: (6, iA i) :: (1000000, .gh i) :: T, U⟩) ?_; (conv => whnf); refine ⟨?_, ?_, ?_⟩)
  · exact ⟨s, [], ⟨rfl, rfl⟩, rfl⟩
  · rintro i st hi ⟨a, pre, ⟨hp, hpl⟩, rfl⟩
    have c := used_c l a
    obtain ⟨k, hk⟩ : ∃ k, 8 - i = k + 1 := ⟨7 - i, by omega⟩
    rw [hk, chF_succ l k a] at hp
    cases hu : usF l a <;> rw [hu] at c hp
    · rw [cond_false, List.append_nil] at hp
      (have zc1 := c; refine WW ?_; clear zc1)
      exact fini_ret rfl (.inl (by rw [List.length_map, hp, hpl]))
    · rw [cond_true] at hp
      obtain ⟨h0, h1⟩ := usF_bd hu
      have hy := map_atI tkA l a h0 h1
      have hys : ((chF l 8 s).map fun x => [iA x])[i]? = some [iA a] := by rw [hp]; simp [← hpl]
      have hlen : i < ((chF l 8 s).map fun x => [iA x]).length := (List.getElem?_eq_some_iff.1 hys).1
      generalize ((chF l 8 s).map fun x => [iA x]) = xs at *
      have hp' : chF l 8 s = (pre ++ [a]) ++ chF l (8 - (i + 1)) (l.getD a.toNat default).par := by rw [hp, show 8 - (i + 1) = k by omega]; simp
      generalize l.getD a.toNat default = t at *
      (repeat' (first | (refine is_ops ?_; first | refine x_auto tok rfl rfl ?_ | (refine is_call ?_; first | (first | (refine is_fn 84 ?_; first | refine x_q (stp_call (c) rfl rfl rfl rfl rfl) rfl ?_ | refine x_w (stp_call (c) rfl rfl rfl rfl rfl) rfl rfl rfl ?_ | refine x_d (stp_call (c) rfl rfl rfl rfl rfl) rfl rfl rfl ?_)) | (refine is_cv ?_; refine x_yield hit hY rfl rfl hys rfl rfl rfl ?_ ?_)) | (refine is_grd ?_; first | refine x_on rfl rfl ?_ | refine x_off rfl rfl rfl rfl ?_ | (refine x_gsplit rfl rfl (fun hc => ?_) (fun hc => ?_) <;> (try simp only [cmpB, decide_eq_true_eq, decide_eq_false_iff_not, beq_iff_eq, bne_iff_ne, ne_eq, Bool.not_eq_true, beq_eq_false_iff_ne, bne_eq_false_iff_eq, Int.not_lt, Int.not_le, Decidable.not_not] at hc))) | (refine is_bin ?_; first | refine x_q (stp_cmp_t rfl rfl rfl (by unfold cmpP; omega)) rfl ?_ | refine x_q (stp_cmp_f rfl rfl rfl (by unfold cmpP; omega)) rfl ?_ | refine x_q (stp_cmp rfl rfl rfl) rfl ?_ | refine x_q (stp_add rfl rfl ⟨by omega, by omega⟩) rfl ?_ | refine x_q (stp_sub rfl rfl ⟨by omega, by omega⟩) rfl ?_ | refine x_q (stp_mul rfl rfl ⟨by omega, by omega⟩) rfl ?_ | refine x_q (stp_quo rfl rfl (by assumption) (by omega)) rfl ?_ | refine x_q (stp_rem rfl rfl (by omega)) rfl ?_ | refine x_q (stp_xor rfl rfl) rfl ?_ | refine x_q (stp_shlI rfl rfl (by omega)) rfl ?_ | refine x_q (stp_shrI rfl rfl (by omega)) rfl ?_ | refine x_q (stp_shift (.inl ⟨rfl, rfl⟩) rfl rfl (by omega)) rfl ?_ | refine x_q (stp_shift (.inr ⟨rfl, rfl⟩) rfl rfl (by omega)) rfl ?_ | refine x_q (stp_bool2 tok rfl rfl rfl rfl (.inl ⟨rfl, rfl⟩)) rfl ?_ | refine x_q (stp_bool2 tok rfl rfl rfl rfl (.inr ⟨rfl, rfl⟩)) rfl ?_ | refine x_q (stp_eqlNil tok (.inl ⟨rfl, rfl⟩) rfl rfl rfl) rfl ?_ | refine x_q (stp_eqlNil_not tok (.inl ⟨rfl, rfl⟩) rfl rfl rfl rfl) rfl ?_ | refine x_q (stp_andI rfl rfl) rfl ?_ | refine x_q (stp_orI rfl rfl) rfl ?_ | refine x_q (stp_bicI rfl rfl) rfl ?_ | refine x_q (stp_strEqV rfl rfl (by assumption)) rfl ?_ | refine x_q (stp_strEq rfl rfl) rfl ?_ | refine x_q (stp_strNeV rfl rfl (by assumption)) rfl ?_ | refine x_q (stp_strNe rfl rfl) rfl ?_) | (refine is_idx ?_; first | refine x_q (stp_indexAddr_sl tok rfl rfl rfl rfl rfl (by omega) (by first | rfl | assumption) rfl rfl) rfl ?_ | refine x_q (stp_indexAddr_r0 tok rfl rfl rfl rfl rfl rfl (by omega) (by omega) rfl) rfl ?_ | refine x_q (stp_indexAddr_box tok rfl rfl rfl rfl rfl rfl (by omega) (by omega)) rfl ?_) | (refine is_load ?_; first | refine x_q (stp_load_fp1 tok rfl rfl rfl (by first | rfl | assumption) rfl) rfl ?_ | refine x_q (stp_load_fpa tok rfl rfl rfl (by first | rfl | assumption) rfl) rfl ?_ | refine x_q (stp_load_arr1 tok rfl rfl rfl rfl (by first | rfl | assumption) rfl) rfl ?_ | refine x_q (stp_load_arra tok rfl rfl rfl rfl (by first | rfl | assumption) rfl) rfl ?_) | (refine is_fad ?_; first | refine x_q (stp_fieldAddr_arr tok rfl rfl rfl rfl rfl rfl rfl rfl) rfl ?_ | refine x_q (stp_fieldAddr_fp tok rfl (by first | rfl | assumption) rfl rfl rfl rfl rfl rfl) rfl ?_) | (refine is_app ?_; first | refine x_appref0 tok rfl rfl rfl rfl rfl rfl rfl (by first | (intro y hy; cases hy; rfl) | exact map_hd _ _ (fun _ => rfl)) rfl rfl rfl (by first | omega | (simp; done) | (simp; omega)) rfl ?_ | refine x_appref tok rfl rfl rfl rfl rfl rfl rfl rfl rfl rfl rfl (by first | (intro y hy; cases hy; rfl) | exact map_hd _ _ (fun _ => rfl)) (by first | omega | (simp; done) | (simp; omega)) rfl ?_) | (refine is_un ?_; first | refine x_q (stp_neg rfl ⟨by omega, by omega⟩) rfl ?_) | (refine is_conv ?_; first | refine x_q (stp_conv_in tok rfl rfl rfl rfl ⟨by omega, by omega⟩) rfl ?_ | refine x_q (stp_conv tok rfl rfl rfl rfl) rfl ?_ | refine x_q (stp_convStr tok rfl rfl rfl rfl rfl rfl rfl (by first | rfl | assumption)) rfl ?_) | (refine is_slc ?_; first | refine x_slcL tok rfl rfl rfl rfl rfl (by first | (intro y hy; cases hy; rfl) | exact map_hd _ _ (fun _ => rfl) | (simp; done)) (by omega) (by simp; omega) (by first | exact List.map_drop.symm | rfl) rfl ?_ | refine x_slcH tok rfl rfl rfl rfl rfl (by first | (intro y hy; cases hy; rfl) | exact map_hd _ _ (fun _ => rfl) | (simp; done)) (by omega) (by simp; omega) (by first | exact List.map_take.symm | rfl) rfl ?_) | (refine is_mks ?_; refine x_mks tok rfl rfl rfl rfl rfl rfl rfl rfl rfl rfl rfl rfl rfl (by omega) (by omega) rfl rfl rfl ?_) | refine x_autow tok rfl rfl rfl rfl ?_ | (refine is_sto ?_; first | refine x_autos tok rfl rfl rfl ?_ | refine x_stoa tok rfl rfl rfl (by first | rfl | assumption) rfl rfl rfl rfl rfl rfl ?_ | refine x_sto1 tok rfl rfl rfl (by first | rfl | assumption) rfl rfl rfl rfl rfl rfl rfl rfl ?_) | refine x_nil ?_ | refine x_nilD (by kernel_rfl) ?_) | (first | refine sim_seq ?_ | refine x_region ?_ | refine x_draw rfl ?_ | refine sim_cond_true rfl ?_ | refine sim_cond_false rfl ?_ | (refine sim_cond rfl (fun hc => ?_) (fun hc => ?_) <;> (try simp only [cmpB, decide_eq_true_eq, decide_eq_false_iff_not, beq_iff_eq, bne_iff_ne, ne_eq, Bool.not_eq_true, beq_eq_false_iff_ne, bne_eq_false_iff_eq, Int.not_lt, Int.not_le, Decidable.not_not] at hc)) | refine sim_skip ?_ | refine sim_ret ?_ | refine sim_exit ?_ | refine sim_block ?_)))
      · exact ⟨t.par, pre ++ [a], ⟨hp', by simp [hpl]⟩, rfl⟩
      · exact fini_ret rfl (.inr (by omega))
  · rintro st ⟨a, pre, ⟨hp, hpl⟩, rfl⟩
    rw [show chF l (8 - 8) a = [] from rfl, List.append_nil] at hp
    (refine WW ?_)
    exact fini_normal rfl (.inl (by rw [List.length_map, hp, hpl]))
def deF (l : List Tk) (s top : Int) : Bool := (chF l 8 s).any fun a => a == top
theorem desc_c (l : List Tk) (s top : Int) : CallSim Tryz.prog 64 [slA tkA l, iA s, iA top] [] (bA (deF l s top)) [] := by
  have c := anc_c l s
  unfold ancH at c
  (refine callSim_of tok Tryz.func64 rfl (fun args w => Tryz.call64 args w) rfl rfl rfl (fun F hF => ?_))
  (have zc1 := c; refine WW ?_; clear zc1)
  refine sim_rangeFunc hF (anc_it l s) rfl [5, 6] [5, 6] rfl rfl rfl rfl rfl rfl rfl rfl rfl (fun i ys h => ?_) (fun _ => [(5, .box [iA top]), (6, .box [.s (.bool false)])]) (fun i => ∀ x ∈ (chF l 8 s).take i, x ≠ top) (T := [(5, .ptr 5 0 0), (6, .ptr 6 0 0)]) rfl (by simp) (fun i ys y hys hI F1 h1 h2 => ?_) (fun hI => ?_)
  · rw [List.getElem?_map, Option.map_eq_some_iff] at h
    obtain ⟨x, _, rfl⟩ := h
    rfl
  · rw [List.getElem?_map, Option.map_eq_some_iff] at hys
    obtain ⟨x, hx, rfl⟩ := hys
    show Sim _ F1 _ _ ⟨[(11, iA x), (5, .ptr 5 0 0), (6, .ptr 6 0 0)], [(5, .box [iA top]), (6, .box [.s (.bool false)])]⟩ _
    have hmem : x ∈ chF l 8 s := List.mem_of_getElem? hx
    (refine WW ?_)
    refine ⟨rfl, fun F2 g1 g2 => ?_⟩
    by_cases ht : x = top
    · have hd : deF l s top = true := List.any_eq_true.2 ⟨x, hmem, by simpa using ht⟩
      rw [hd]
      (refine WW ?_)
      exact fin_ret [] rfl rfl rfl rfl
    · (refine WW ?_)
      refine ⟨rfl, fun z hz => ?_⟩
      rw [List.take_add_one, hx] at hz
      simp only [Option.toList_some, List.mem_append, List.mem_singleton] at hz
      rcases hz with hz | rfl
      · exact hI z hz
      · exact ht
  · rw [List.length_map, List.take_length] at hI
    have hd : deF l s top = false := List.any_eq_false.2 fun x hx => by simpa using hI x hx
    rw [hd]
    (refine WW ?_)
    exact fin_ret [] rfl rfl rfl rfl
/-- The slots, those before j looked at. -/
def exAt (l : List Tk) (now : Int) (j : Nat) : Tk := if (chF l 8 j).any (fun a => exF (l.getD a.toNat default) now) = true then frT else l.getD j default
def exS (l : List Tk) (now : Int) (s : Nat) : List Tk := (List.range l.length).map fun j => if j < s then exAt l now j else l.getD j default
def expF (l : List Tk) (now : Int) : List Tk := (List.range l.length).map (exAt l now)
theorem exS_len (l : List Tk) (now : Int) (s : Nat) : (exS l now s).length = l.length := by simp [exS]
theorem exS_zero (l : List Tk) (now : Int) : exS l now 0 = l := by
  unfold exS
  apply List.ext_getElem?
  intro j
  rw [List.getElem?_map]
  by_cases h : j < l.length
  · rw [List.getElem?_range h]; simp [List.getD, h]
  · rw [List.getElem?_eq_none (by simp; omega), List.getElem?_eq_none (by omega)]; rfl
theorem exS_end (l : List Tk) (now : Int) : exS l now l.length = expF l now := by
  unfold exS expF
  apply List.map_congr_left
  intro j hj
  rw [List.mem_range] at hj
  rw [if_pos hj]
theorem exS_at (l : List Tk) (now : Int) (s : Nat) (h : s < l.length) : (exS l now s)[s]? = some (l.getD s default) := by
  unfold exS
  rw [List.getElem?_map, List.getElem?_range h]
  simp
theorem exS_succ (l : List Tk) (now : Int) (s : Nat) : exS l now (s + 1) = (exS l now s).set s (exAt l now s) := by
  unfold exS
  apply List.ext_getElem?
  intro j
  rw [List.getElem?_set, List.getElem?_map, List.getElem?_map]
  by_cases h : j < l.length
  · rw [List.getElem?_range h]
    by_cases hs : s = j
    · subst hs; simp [h]
    · rw [if_neg hs]
      by_cases hj : j < s
      · simp [hj, show j < s + 1 by omega]
      · simp [hj, show ¬ j < s + 1 by omega]
  · rw [List.getElem?_eq_none (by simp; omega)]
    split <;> simp; omega
end Av
end Go.Proofs.YtjbldhhgooihfaaGreat
