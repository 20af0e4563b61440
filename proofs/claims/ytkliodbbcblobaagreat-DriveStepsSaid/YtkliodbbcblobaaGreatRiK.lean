
/- Rings: Init; the junctions of a deck are valid. -/
import Derived.Test.YtkliodbbcblobaaGreatRiJ
namespace Go.Proofs.YtkliodbbcblobaaGreat
namespace Av
set_option linter.unusedSimpArgs false
set_option linter.unusedVariables false
set_option maxRecDepth 4000
set_option maxHeartbeats 1000000
theorem enterI_c (j : Jn) (hn : j.ph.length ≤ 1000) (g gr wt : Int) (L : List AV) (nL : Nat) : CallSim Tryz.prog 95 [jnA j, .ptr 3000 0 0, iA g] [(3000, .box [.ref 1001 0 nL, iA gr, .s (.slice none 0 0), iA wt]), (1001, .arr 2 L false)] (.tup [])
    [(3000, .box [.ref 1001 0 nL, iA g, .ref 2001 0 2, iA wt]), (1001, .arr 2 L false), (2001, .arr 1 [iA (flF j 0 g 0), iA (flF j 1 g 0)] false)] := by
  have c0 := foll_c j hn 0 g 0
  have c1 := foll_c j hn 1 g 0
  generalize flF j 0 g 0 = f0 at *
  generalize flF j 1 g 0 = f1 at *
  obtain ⟨N2, hN2⟩ : ∃ n : Nat, n = 2 := ⟨2, rfl⟩
  (refine callSim_of tok Tryz.func95 rfl (fun args w => Tryz.call95 args w) rfl rfl rfl (fun F hF => ?_))
  (repeat' (first | (refine is_ops ?_; first | refine x_auto tok rfl rfl ?_ | (refine is_call ?_; fail) | (refine is_grd ?_; first | refine x_on rfl rfl ?_ | refine x_off rfl rfl rfl rfl ?_ | (refine x_gsplit rfl rfl (fun hc => ?_) (fun hc => ?_) <;> (try simp only [cmpB, decide_eq_true_eq, decide_eq_false_iff_not, beq_iff_eq, bne_iff_ne, ne_eq, Bool.not_eq_true, beq_eq_false_iff_ne, bne_eq_false_iff_eq, Int.not_lt, Int.not_le, Decidable.not_not] at hc))) | (refine is_bin ?_; first | refine x_q (stp_cmp_t rfl rfl rfl (by unfold cmpP; omega)) rfl ?_ | refine x_q (stp_cmp_f rfl rfl rfl (by unfold cmpP; omega)) rfl ?_ | refine x_q (stp_cmp rfl rfl rfl) rfl ?_ | refine x_q (stp_add rfl rfl ⟨by omega, by omega⟩) rfl ?_ | refine x_q (stp_sub rfl rfl ⟨by omega, by omega⟩) rfl ?_ | refine x_q (stp_mul rfl rfl ⟨by omega, by omega⟩) rfl ?_ | refine x_q (stp_quo rfl rfl (by assumption) (by omega)) rfl ?_ | refine x_q (stp_rem rfl rfl (by omega)) rfl ?_ | refine x_q (stp_xor rfl rfl) rfl ?_ | refine x_q (stp_shlI rfl rfl (by omega)) rfl ?_ | refine x_q (stp_shrI rfl rfl (by omega)) rfl ?_ | refine x_q (stp_shift (.inl ⟨rfl, rfl⟩) rfl rfl (by omega)) rfl ?_ | refine x_q (stp_shift (.inr ⟨rfl, rfl⟩) rfl rfl (by omega)) rfl ?_ | refine x_q (stp_bool2 tok rfl rfl rfl rfl (.inl ⟨rfl, rfl⟩)) rfl ?_ | refine x_q (stp_bool2 tok rfl rfl rfl rfl (.inr ⟨rfl, rfl⟩)) rfl ?_ | refine x_q (stp_eqlNil tok (.inl ⟨rfl, rfl⟩) rfl rfl rfl) rfl ?_ | refine x_q (stp_eqlNil_not tok (.inl ⟨rfl, rfl⟩) rfl rfl rfl rfl) rfl ?_ | refine x_q (stp_andI rfl rfl) rfl ?_ | refine x_q (stp_orI rfl rfl) rfl ?_ | refine x_q (stp_bicI rfl rfl) rfl ?_ | refine x_q (stp_strEqV rfl rfl (by assumption)) rfl ?_ | refine x_q (stp_strEq rfl rfl) rfl ?_ | refine x_q (stp_strNeV rfl rfl (by assumption)) rfl ?_ | refine x_q (stp_strNe rfl rfl) rfl ?_) | (refine is_idx ?_; first | refine x_q (stp_indexAddr_sl tok rfl rfl rfl rfl rfl (by omega) (by first | rfl | assumption) rfl rfl) rfl ?_ | refine x_q (stp_indexAddr_r0 tok rfl rfl rfl rfl rfl rfl (by omega) (by omega) rfl) rfl ?_ | refine x_q (stp_indexAddr_box tok rfl rfl rfl rfl rfl rfl (by omega) (by omega)) rfl ?_) | (refine is_load ?_; first | refine x_q (stp_load_fp1 tok rfl rfl rfl (by first | rfl | assumption) rfl) rfl ?_ | refine x_q (stp_load_fpa tok rfl rfl rfl (by first | rfl | assumption) rfl) rfl ?_ | refine x_q (stp_load_arr1 tok rfl rfl rfl rfl (by first | rfl | assumption) rfl) rfl ?_ | refine x_q (stp_load_arra tok rfl rfl rfl rfl (by first | rfl | assumption) rfl) rfl ?_) | (refine is_fad ?_; first | refine x_q (stp_fieldAddr_arr tok rfl rfl rfl rfl rfl rfl rfl rfl) rfl ?_ | refine x_q (stp_fieldAddr_fp tok rfl (by first | rfl | assumption) rfl rfl rfl rfl rfl rfl) rfl ?_) | (refine is_app ?_; first | refine x_appref0 tok rfl rfl rfl rfl rfl rfl rfl (by first | (intro y hy; cases hy; rfl) | exact map_hd _ _ (fun _ => rfl)) rfl rfl rfl (by first | omega | (simp; done) | (simp; omega)) rfl ?_ | refine x_appref tok rfl rfl rfl rfl rfl rfl rfl rfl rfl rfl rfl (by first | (intro y hy; cases hy; rfl) | exact map_hd _ _ (fun _ => rfl)) (by first | omega | (simp; done) | (simp; omega)) rfl ?_) | (refine is_un ?_; first | refine x_q (stp_neg rfl ⟨by omega, by omega⟩) rfl ?_) | (refine is_conv ?_; first | refine x_q (stp_conv_in tok rfl rfl rfl rfl ⟨by omega, by omega⟩) rfl ?_ | refine x_q (stp_conv tok rfl rfl rfl rfl) rfl ?_ | refine x_q (stp_convStr tok rfl rfl rfl rfl rfl rfl rfl (by first | rfl | assumption)) rfl ?_) | (refine is_slc ?_; first | refine x_slcL tok rfl rfl rfl rfl rfl (by first | (intro y hy; cases hy; rfl) | exact map_hd _ _ (fun _ => rfl) | (simp; done)) (by omega) (by simp; omega) (by first | exact List.map_drop.symm | rfl) rfl ?_ | refine x_slcH tok rfl rfl rfl rfl rfl (by first | (intro y hy; cases hy; rfl) | exact map_hd _ _ (fun _ => rfl) | (simp; done)) (by omega) (by simp; omega) (by first | exact List.map_take.symm | rfl) rfl ?_) | (refine is_mks ?_; refine x_mksK 2001 tok rfl rfl rfl rfl rfl rfl rfl rfl rfl rfl rfl rfl rfl (by omega) (by omega) rfl rfl rfl ?_) | refine x_autow tok rfl rfl rfl rfl ?_ | (refine is_sto ?_; first | refine x_autos tok rfl rfl rfl ?_ | refine x_stoa tok rfl rfl rfl (by first | rfl | assumption) rfl rfl rfl rfl rfl rfl ?_ | refine x_sto1 tok rfl rfl rfl (by first | rfl | assumption) rfl rfl rfl rfl rfl rfl rfl rfl ?_) | refine x_nil ?_ | refine x_nilD (by kernel_rfl) ?_) | (first | refine sim_seq ?_ | refine x_region ?_ | refine x_draw rfl ?_ | refine sim_cond_true rfl ?_ | refine sim_cond_false rfl ?_ | (refine sim_cond rfl (fun hc => ?_) (fun hc => ?_) <;> (try simp only [cmpB, decide_eq_true_eq, decide_eq_false_iff_not, beq_iff_eq, bne_iff_ne, ne_eq, Bool.not_eq_true, beq_eq_false_iff_ne, bne_eq_false_iff_eq, Int.not_lt, Int.not_le, Decidable.not_not] at hc)) | refine sim_skip ?_ | refine sim_ret ?_ | refine sim_exit ?_ | refine sim_block ?_)))
  (refine sim_cnt (N2) [3000, 2001, 3, 1001] [3, 1001] [1, 2, 3] [20, 19, 1, 2, 3] rfl (fun i T U => ⟨(20, iA i) :: (19, iA N2) :: T, (3000, .box [.ref 1001 0 nL, iA g, .ref 2001 0 N2, iA wt]) :: (2001, .arr 1 (enN f0 f1 i) false) :: U⟩) ?_; (conv => whnf); refine ⟨by (rw [hN2]; rfl), ?_, ?_⟩)
  · intro i hi
    have : i = 0 ∨ i = 1 := by omega
    rcases this with rfl | rfl
    · have hy : (enN f0 f1 0)[((0 : Nat) : Int).toNat]? = some (iA 0) := rfl
      have hl : (enN f0 f1 0).length = 2 := rfl
      (have zc1 := c0; refine WW ?_; clear zc1)
      rfl
    · have hy : (enN f0 f1 1)[((1 : Nat) : Int).toNat]? = some (iA 0) := rfl
      have hl : (enN f0 f1 1).length = 2 := rfl
      (have zc1 := c1; refine WW ?_; clear zc1)
      rfl
  · have e2 : enN f0 f1 N2 = [iA f0, iA f1] := by rw [hN2]; rfl
    rw [e2]
    (refine WW ?_)
    subst hN2
    exact fin_own0 [3000, 1001, 2001] rfl rfl rfl rfl
def inF (j : Jn) : Ct := ⟨List.replicate j.ph.length ⟨0, 0⟩, 0, [flF j 0 0 0, flF j 1 0 0], j.st⟩
theorem inF_li (j : Jn) (p : Nat) : liO (inF j) p = ⟨0, 0⟩ := by
  unfold liO inF
  simp only [List.getD_eq_getElem?_getD, List.getElem?_replicate]
  split <;> rfl
theorem cv_in {j : Jn} (J : JV j) : CV j (inF j) := by
  refine ⟨by simp [inF], fun p hp => by rw [inF_li]; rfl, fun p q hp hq hpq h1 h2 => by rw [inF_li] at h1; exact absurd rfl h1, ⟨Int.le_refl _, ?_⟩, rfl, fun r hr => etF_v j (inF j) 0 r hr, ⟨J.st.1, Int.le_refl _⟩, .inr fun p hp => by rw [inF_li]⟩
  have := grF_pos J
  show (0 : Int) < grF j
  omega
theorem is_al3 {P : Program} {K0 : List Nat} {F : Fr K0} {m : Nat} {ops : Array Oper} {rest : List Oper} {Q : List FP → St → Prop} {dr : Bool} {fs : List FP} {ty T : Nat} {pos : String} {after : Array Edge} {st : St} (hk : OpsX P F m ops dr (⟨some 3, .alloc T, ty, pos, after, none⟩ :: rest) st fs Q) : OpsX P F m ops dr (⟨some 3, .alloc T, ty, pos, after, none⟩ :: rest) st fs Q := hk
/-! ### The junctions of a deck -/
theorem inS_n (p : Nat → Bool) {n q : Nat} (hn : n ≤ 8) (hq : q < n) : inS (bsF p n) q = p q := by
  have e := bsF_ext (fun i => decide (i < n) && p i) n 8 hn (fun i h1 h2 => by rw [decide_eq_false (by omega)]; rfl)
  have e2 : bsF p n = bsF (fun i => decide (i < n) && p i) n := bsF_congr _ fun i hi => by rw [decide_eq_true hi]; rfl
  rw [e2, ← e, inS_bs _ q (by omega), decide_eq_true hq]; rfl
theorem rowF_bs (ps : List Ph) (ex : Bool) (i : Nat) : ∀ n, rowF ps ex i n = bsF (cnd ps ex i) n
  | 0 => rfl
  | n + 1 => by
    unfold rowF bsF
    rw [rowF_bs ps ex i n]
    have : (2 : Int) ^ n = p2 n := by unfold p2; rw [Int.toNat_natCast]
    rw [this]
theorem cfP_row (ps : List Ph) (ex : Bool) {p q : Nat} (hn : ps.length ≤ 8) (hp : p < ps.length) (hq : q < ps.length) : cfP (rowsF ps ex ps.length) p q = cnd ps ex p q := by
  have hl : (rowsF ps ex ps.length).length = ps.length := by simp [rowsF]
  unfold cfP
  rw [decide_eq_true (by omega), Bool.true_and, Int.toNat_natCast]
  have e : (rowsF ps ex ps.length).getD p default = rowF ps ex p ps.length := by
    unfold rowsF
    simp [List.getD, hp]
  rw [e, rowF_bs]
  exact inS_n _ hn hq
theorem phL_at (d : Dk) (l : List (Int × Int)) : ∀ i k, k < i → ∃ e, (phL d l i).1.getD k default = phF e (l.getD k default)
  | 0, k, h => absurd h (Nat.not_lt_zero _)
  | i + 1, k, h => by
    have hl := phL_len d l i
    unfold phL
    by_cases hk : k = i
    · subst hk
      refine ⟨(phL d l k).2, ?_⟩
      simp [List.getD, hl]
    · obtain ⟨e, he⟩ := phL_at d l i k (by omega)
      refine ⟨e, ?_⟩
      rw [← he]
      simp only [List.getD_eq_getElem?_getD]
      rw [List.getElem?_append_left (by omega)]
def ShB (l : List (Int × Int)) : Bool := (l.all fun s => decide (0 ≤ s.1 ∧ s.1 ≤ 1 ∧ 0 ≤ s.2 ∧ s.2 ≤ 3)) && (l.all fun s => [0, 1, 2].all fun g : Int => decide (s.2 ≤ g) || (l.any fun s' => s'.2 == g))
theorem shapes_b (n : Int) : ShB (shapesF n) = true := by
  unfold shapesF
  split
  · decide
  split
  · decide
  split
  · decide
  split
  · decide
  split
  · decide
  · decide
theorem phF_b (d : Dk) (s : Int × Int) : (phF d s).ring = s.1 ∧ (phF d s).group = s.2 ∧ 1 ≤ (phF d s).ming ∧ (phF d s).ming ≤ (phF d s).maxg ∧ (phF d s).maxg ≤ 60 ∧ 1 ≤ (phF d s).yel ∧ (phF d s).yel ≤ 60 ∧ 0 ≤ (phF d s).red ∧ (phF d s).red ≤ 60 ∧ 0 ≤ (phF d s).walk ∧ (phF d s).walk ≤ 60 ∧ 0 ≤ (phF d s).clear ∧ (phF d s).clear ≤ 60 ∧ (phF d s).walk + (phF d s).clear ≤ (phF d s).maxg ∧ ((phF d s).walk = 0 ↔ (phF d s).clear = 0) := by
  have b1 := nx_bd d (3 - 1 + 1) (by omega)
  have b2 := nx_bd (ad d) (2 - 1 + 1) (by omega)
  have b3 := nx_bd (ad (ad d)) 3 (by omega)
  have b4 := nx_bd (ad (ad (ad (ad d)))) (2 - 1 + 1) (by omega)
  have b5 := nx_bd (ad (ad (ad (ad (ad d))))) (2 - 1 + 1) (by omega)
  have b6 := nx_bd (ad (ad (ad (ad (ad (ad d)))))) 4 (by omega)
  have b7 := nx_bd (ad (ad (ad (ad d)))) 4 (by omega)
  unfold phF
  split
  · dsimp only
    omega
  · dsimp only
    omega
theorem eqb_c (a b : Int) : (a == b) = (b == a) := by rw [Bool.eq_iff_iff, beq_iff_eq, beq_iff_eq]; exact eq_comm
theorem neb_c (a b : Int) : (a != b) = (b != a) := by unfold bne; rw [eqb_c]
theorem neb_n (a b : Nat) : (a != b) = (b != a) := by unfold bne; rw [show (a == b) = (b == a) by rw [Bool.eq_iff_iff, beq_iff_eq, beq_iff_eq]; exact eq_comm]
theorem jv_jnF (d : Dk) : JV (jnF d) := by
  have hsl := shapes_len (nx d 6)
  have hsb := shapes_b (nx d 6)
  have hst := nx_bd (ad d) 3 (by omega)
  have hlen : (jnP d).1.length = (shapesF (nx d 6)).length := phL_len _ _ _
  have hat : ∀ k, k < (jnP d).1.length → ∃ e, phO (jnF d) k = phF e ((shapesF (nx d 6)).getD k default) := fun k hk => by
    rw [hlen] at hk
    exact phL_at _ _ _ k hk
  have hph : (jnF d).ph = (jnP d).1 := rfl
  generalize shapesF (nx d 6) = sl at *
  generalize hex : (nx (jnP d).2 4 == 3) = ex at *
  have hcf : (jnF d).cf = rowsF (jnP d).1 ex (jnP d).1.length := by unfold jnF; rw [hex]
  unfold ShB at hsb
  simp only [Bool.and_eq_true, List.all_eq_true, decide_eq_true_eq, Bool.or_eq_true, List.any_eq_true, beq_iff_eq] at hsb
  have hmem : ∀ k, k < (jnP d).1.length → sl.getD k default ∈ sl := fun k hk => by
    rw [hlen] at hk
    simp [List.getD, hk]
  have hcd : ∀ p q : Nat, p < (jnP d).1.length → q < (jnP d).1.length → cfP (jnF d).cf p q = cnd (jnP d).1 ex p q := fun p q hp hq => by
    rw [hcf]
    exact cfP_row _ _ (by omega) hp hq
  have hc1 : (jnF d).cf.length = (jnP d).1.length := by rw [hcf]; simp [rowsF]
  refine ⟨?_, ?_, ?_, ?_, ?_, ?_, ?_, ?_, ?_, ?_, ?_⟩
  · rw [hph]; omega
  · rw [hph]; exact hc1
  · intro i hi
    rw [hph] at hi ⊢
    have e : (jnF d).cf.getD i default = rowF (jnP d).1 ex i (jnP d).1.length := by
      rw [hcf]
      unfold rowsF
      simp [List.getD, hi]
    rw [e]
    exact rowF_bd _ _ _ _
  · intro p hp
    rw [hph] at hp
    rw [hcd p p hp hp]
    unfold cnd
    simp
  · intro p q hp hq
    rw [hph] at hp hq
    rw [hcd p q hp hq, hcd q p hq hp]
    unfold cnd
    rw [neb_n p q, eqb_c ((jnP d).1.getD p default).ring, neb_c ((jnP d).1.getD p default).group, show ((p : Int) + q) = ((q : Int) + p) by omega]
  · intro p q hp hq hpq h
    rw [hph] at hp hq
    rw [hcd p q hp hq]
    unfold cnd
    rw [show (p != q) = true by simpa using hpq, Bool.true_and]
    rcases h with h | h
    · rw [show (((jnP d).1.getD p default).ring == ((jnP d).1.getD q default).ring) = true from beq_iff_eq.2 h]
      rfl
    · rw [show (((jnP d).1.getD p default).group != ((jnP d).1.getD q default).group) = true from bne_iff_ne.2 h]
      simp
  · intro p hp
    obtain ⟨e, he⟩ := hat p hp
    rw [he, (phF_b e _).1]
    have := hsb.1 _ (hmem p hp)
    omega
  · intro p hp
    obtain ⟨e, he⟩ := hat p hp
    rw [he, (phF_b e _).2.1]
    have := hsb.1 _ (hmem p hp)
    omega
  · intro p hp
    obtain ⟨e, he⟩ := hat p hp
    rw [he]
    exact (phF_b e _).2.2
  · intro p hp g hg0 hg
    obtain ⟨e, he⟩ := hat p hp
    rw [he, (phF_b e _).2.1] at hg
    have h3 := hsb.1 _ (hmem p hp)
    have hgm : g ∈ ([0, 1, 2] : List Int) := by
      have : g = 0 ∨ g = 1 ∨ g = 2 := by omega
      rcases this with rfl | rfl | rfl <;> simp
    rcases hsb.2 _ (hmem p hp) g hgm with h | ⟨s, hs, hsg⟩
    · omega
    · obtain ⟨q, hq, hqs⟩ := List.getElem_of_mem hs
      refine ⟨q, by rw [hph, hlen]; exact hq, ?_⟩
      obtain ⟨e2, he2⟩ := hat q (by rw [hlen]; exact hq)
      rw [he2, (phF_b e2 _).2.1]
      have : sl.getD q default = s := by rw [← hqs]; simp [List.getD, hq]
      rw [this]
      exact hsg
  · show 0 ≤ nx (ad d) 3 ∧ nx (ad d) 3 ≤ 60
    omega
end Av
end Go.Proofs.YtkliodbbcblobaaGreat
