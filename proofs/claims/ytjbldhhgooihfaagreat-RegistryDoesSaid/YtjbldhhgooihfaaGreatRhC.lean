
/- law17: registry.Do, where it derives and where it revokes. -/
import Derived.Test.YtjbldhhgooihfaaGreatRhB
namespace Go.Proofs.YtjbldhhgooihfaaGreat
namespace Av
set_option linter.unusedSimpArgs false
set_option linter.unusedVariables false
set_option maxRecDepth 4000
set_option maxHeartbeats 2000000
def rgBx (r : Rg) : Ent := .box [iA r.num, slA yA r.ag.sec, iA r.ag.rights, iA r.ag.cls, slA iA r.ag.lim, iA r.ag.req, iA r.ag.ses, iA r.ag.rate, iA r.ag.burst, slA tkA r.tk, slA vhA r.vh, iA r.bk.level, iA r.bk.rate, iA r.bk.burst]
def rgT (r : Rg) (l : List Tk) : Rg := ⟨r.num, r.ag, l, r.vh, r.bk⟩
theorem gderive_c (r : Rg) (hg : 0 ≤ r.num ∧ r.num < 4) (hb : TkB r.tk) (hv : tvF r.tk = true) (p R c life : Int) (sec : List Int) (hs : (sec.length : Int) = 8) (now : Int) (hnow : 0 ≤ now ∧ now ≤ 1000) (hu : usF r.tk p = true) (hw : wiF R (r.tk.getD p.toNat default).rights = true) (hc : 0 ≤ c ∧ c ≤ (r.tk.getD p.toNat default).cls) (hl : 0 ≤ life ∧ life ≤ 600) (hla : laF (unF life now) (r.tk.getD p.toNat default).til = false)
    (k : Nat) (hk8 : k < 8) (hk : k < r.tk.length) (h1 : ∀ i, i < k → (r.tk.getD i default).used = true) (h2 : (r.tk.getD k default).used = false) :
    CallSim Tryz.prog 28 [.ptr 14 0 0, slA iA [R, c, life], iA p, iA now, slA yA sec] [(14, rgBx r)] (.tup [.agg [iA 16, .s (.slice none 0 0), .sl false [iA k], slA yA (r.num :: (k : Int) :: sec)], iA 0]) [(14, rgBx (rgT r (r.tk.set k ⟨true, sec, p, R, c, unF life now⟩)))] := by
  have c1 := tderive_c r.tk hb hv p R c life (List.replicate 8 0) rfl now hnow hu hw hc hl hla k hk h1 h2
  have c2 := tderive_c r.tk hb hv p R c life sec hs now hnow hu hw hc hl hla k hk h1 h2
  have c3 := tbytes_c r.num k sec (by omega) (by omega) (by omega) (by omega) (by omega)
  clear hu hw hc hla h1 h2 hv
  have hls := map_len yA sec
  have hl3 : ([R, c, life].map iA).length = 3 := rfl
  unfold rgBx rgT
  dsimp only
  generalize r.tk.set k ⟨true, sec, p, R, c, unF life now⟩ = l2 at *
  generalize r.tk.set k ⟨true, List.replicate 8 0, p, R, c, unF life now⟩ = l1 at *
  generalize r.num :: (k : Int) :: sec = by1 at *
  rw [show slA yA (List.replicate 8 0) = .sl false (List.replicate 8 (AV.s (.int .u8 0))) from rfl] at c1
  (refine callSim_of tok Tryz.func28 rfl (fun args w => Tryz.call28 args w) rfl rfl rfl (fun F hF => ?_))
  (repeat' (first | (refine is_ops ?_; first | refine x_auto tok rfl rfl ?_ | (refine is_call ?_; fail) | (refine is_grd ?_; first | refine x_on rfl rfl ?_ | refine x_off rfl rfl rfl rfl ?_ | (refine x_gsplit rfl rfl (fun hc => ?_) (fun hc => ?_) <;> (try simp only [cmpB, decide_eq_true_eq, decide_eq_false_iff_not, beq_iff_eq, bne_iff_ne, ne_eq, Bool.not_eq_true, beq_eq_false_iff_ne, bne_eq_false_iff_eq, Int.not_lt, Int.not_le, Decidable.not_not] at hc))) | (refine is_bin ?_; first | refine x_q (stp_cmp_t rfl rfl rfl (by unfold cmpP; omega)) rfl ?_ | refine x_q (stp_cmp_f rfl rfl rfl (by unfold cmpP; omega)) rfl ?_ | refine x_q (stp_cmp rfl rfl rfl) rfl ?_ | refine x_q (stp_add rfl rfl ⟨by omega, by omega⟩) rfl ?_ | refine x_q (stp_sub rfl rfl ⟨by omega, by omega⟩) rfl ?_ | refine x_q (stp_mul rfl rfl ⟨by omega, by omega⟩) rfl ?_ | refine x_q (stp_quo rfl rfl (by assumption) (by omega)) rfl ?_ | refine x_q (stp_rem rfl rfl (by omega)) rfl ?_ | refine x_q (stp_xor rfl rfl) rfl ?_ | refine x_q (stp_shlI rfl rfl (by omega)) rfl ?_ | refine x_q (stp_shrI rfl rfl (by omega)) rfl ?_ | refine x_q (stp_shift (.inl ⟨rfl, rfl⟩) rfl rfl (by omega)) rfl ?_ | refine x_q (stp_shift (.inr ⟨rfl, rfl⟩) rfl rfl (by omega)) rfl ?_ | refine x_q (stp_bool2 tok rfl rfl rfl rfl (.inl ⟨rfl, rfl⟩)) rfl ?_ | refine x_q (stp_bool2 tok rfl rfl rfl rfl (.inr ⟨rfl, rfl⟩)) rfl ?_ | refine x_q (stp_eqlNil tok (.inl ⟨rfl, rfl⟩) rfl rfl rfl) rfl ?_ | refine x_q (stp_eqlNil_not tok (.inl ⟨rfl, rfl⟩) rfl rfl rfl rfl) rfl ?_ | refine x_q (stp_andI rfl rfl) rfl ?_ | refine x_q (stp_orI rfl rfl) rfl ?_ | refine x_q (stp_bicI rfl rfl) rfl ?_ | refine x_q (stp_strEqV rfl rfl (by assumption)) rfl ?_ | refine x_q (stp_strEq rfl rfl) rfl ?_ | refine x_q (stp_strNeV rfl rfl (by assumption)) rfl ?_ | refine x_q (stp_strNe rfl rfl) rfl ?_) | (refine is_idx ?_; first | refine x_q (stp_indexAddr_sl tok rfl rfl rfl rfl rfl (by omega) (by first | rfl | assumption) rfl rfl) rfl ?_ | refine x_q (stp_indexAddr_r0 tok rfl rfl rfl rfl rfl rfl (by omega) (by omega) rfl) rfl ?_ | refine x_q (stp_indexAddr_box tok rfl rfl rfl rfl rfl rfl (by omega) (by omega)) rfl ?_) | (refine is_load ?_; first | refine x_q (stp_load_fp1 tok rfl rfl rfl (by first | rfl | assumption) rfl) rfl ?_ | refine x_q (stp_load_fpa tok rfl rfl rfl (by first | rfl | assumption) rfl) rfl ?_ | refine x_q (stp_load_arr1 tok rfl rfl rfl rfl (by first | rfl | assumption) rfl) rfl ?_ | refine x_q (stp_load_arra tok rfl rfl rfl rfl (by first | rfl | assumption) rfl) rfl ?_) | (refine is_fad ?_; first | refine x_q (stp_fieldAddr_arr tok rfl rfl rfl rfl rfl rfl rfl rfl) rfl ?_ | refine x_q (stp_fieldAddr_fp tok rfl (by first | rfl | assumption) rfl rfl rfl rfl rfl rfl) rfl ?_) | (refine is_app ?_; first | refine x_appref0 tok rfl rfl rfl rfl rfl rfl rfl (by first | (intro y hy; cases hy; rfl) | exact map_hd _ _ (fun _ => rfl)) rfl rfl rfl (by first | omega | (simp; done) | (simp; omega)) rfl ?_ | refine x_appref tok rfl rfl rfl rfl rfl rfl rfl rfl rfl rfl rfl (by first | (intro y hy; cases hy; rfl) | exact map_hd _ _ (fun _ => rfl)) (by first | omega | (simp; done) | (simp; omega)) rfl ?_) | (refine is_un ?_; first | refine x_q (stp_neg rfl ⟨by omega, by omega⟩) rfl ?_) | (refine is_conv ?_; first | refine x_q (stp_conv_in tok rfl rfl rfl rfl ⟨by omega, by omega⟩) rfl ?_ | refine x_q (stp_conv tok rfl rfl rfl rfl) rfl ?_ | refine x_q (stp_convStr tok rfl rfl rfl rfl rfl rfl rfl (by first | rfl | assumption)) rfl ?_) | (refine is_slc ?_; first | refine x_slcL tok rfl rfl rfl rfl rfl (by first | (intro y hy; cases hy; rfl) | exact map_hd _ _ (fun _ => rfl) | (simp; done)) (by omega) (by simp; omega) (by first | exact List.map_drop.symm | rfl) rfl ?_ | refine x_slcH tok rfl rfl rfl rfl rfl (by first | (intro y hy; cases hy; rfl) | exact map_hd _ _ (fun _ => rfl) | (simp; done)) (by omega) (by simp; omega) (by first | exact List.map_take.symm | rfl) rfl ?_) | (refine is_mks ?_; refine x_mks tok rfl rfl rfl rfl rfl rfl rfl rfl rfl rfl rfl rfl rfl (by omega) (by omega) rfl rfl rfl ?_) | refine x_autow tok rfl rfl rfl rfl ?_ | (refine is_sto ?_; first | refine x_autos tok rfl rfl rfl ?_ | refine x_stoa tok rfl rfl rfl (by first | rfl | assumption) rfl rfl rfl rfl rfl rfl ?_ | refine x_sto1 tok rfl rfl rfl (by first | rfl | assumption) rfl rfl rfl rfl rfl rfl rfl rfl ?_) | refine x_nil ?_ | refine x_nilD (by kernel_rfl) ?_) | (first | refine sim_seq ?_ | refine x_region ?_ | refine sim_cond_true rfl ?_ | refine sim_cond_false rfl ?_ | refine sim_skip ?_ | refine sim_ret ?_ | refine sim_exit ?_)))
  refine sim_restr (st' := ⟨[(0, .ptr 14 0 0), (1, slA iA [R, c, life]), (2, iA p), (3, iA now), (4, slA yA sec), (10, .ptr 10 0 0), (11, iA 0), (12, .sl false (List.replicate 8 (AV.s (.int .u8 0))))], [(14, .box [iA r.num, slA yA r.ag.sec, iA r.ag.rights, iA r.ag.cls, slA iA r.ag.lim, iA r.ag.req, iA r.ag.ses, iA r.ag.rate, iA r.ag.burst, slA tkA r.tk, slA vhA r.vh, iA r.bk.level, iA r.bk.rate, iA r.bk.burst]), (10, .box [iA 0, .s (.slice none 0 0), .s (.slice none 0 0), .s (.slice none 0 0)])]⟩) [14, 10] [0, 1, 2, 3, 4, 10, 11, 12] rfl rfl ?_
  (have zc1 := c1; have zc2 := c2; have zc3 := c3; refine WW ?_; clear zc1 zc2 zc3)
  exact fin_own [14] rfl rfl rfl rfl
theorem ack_c (m : Ms) (a : Int) (ha : m.args = [a]) : CallSim Tryz.prog 30 [msA m] [] (msA ⟨14, [], [m.kind, a], []⟩) [] := by
  obtain ⟨k, t, ar, d⟩ := m
  dsimp only at ha ⊢
  subst ha
  have hl1 : ([a].map iA).length = 1 := rfl
  (refine callSim_of tok Tryz.func30 rfl (fun args w => Tryz.call30 args w) rfl rfl rfl (fun F hF => ?_))
  (refine WL ?_)
  exact fin_ret [] rfl rfl rfl rfl
/-- A registry that is looked at by Do. -/
structure RgO (r : Rg) : Prop where
  b : RgB r
  num : 0 ≤ r.num ∧ r.num < 4
  ag : AgV r.ag
  tv : tvF r.tk = true
  vh : r.vh = []
  bk : bvF r.bk = true
  rt : r.bk.rate = r.ag.rate
  bu : r.bk.burst = r.ag.burst
theorem dod_c (r : Rg) (H : RgO r) (m : Ms) (hm : m.kind = 2) (ht : (m.tok.length : Int) = 10) (hd : m.data = []) (p R c life : Int) (har : m.args = [R, c, life]) (hR : 0 ≤ R ∧ R ≤ 127) (hc3 : c ≤ 127) (sec : List Int) (hs : (sec.length : Int) = 8) (now : Int) (hnow : 0 ≤ now ∧ now ≤ 1000) (hu : usF r.tk p = true) (hw : wiF R (r.tk.getD p.toNat default).rights = true) (hc : 0 ≤ c ∧ c ≤ (r.tk.getD p.toNat default).cls) (hl : 0 ≤ life ∧ life ≤ 100) (hla : laF (unF life now) (r.tk.getD p.toNat default).til = false)
    (k : Nat) (hk8 : k < 8) (hk : k < r.tk.length) (h1 : ∀ i, i < k → (r.tk.getD i default).used = true) (h2 : (r.tk.getD k default).used = false) :
    CallSim Tryz.prog 12 [rgA r, msA m, iA p, iA now, slA yA sec] [] (.tup [rgA (rgT r (r.tk.set k ⟨true, sec, p, R, c, unF life now⟩)), msA ⟨16, [], [(k : Int)], r.num :: (k : Int) :: sec⟩, bA true, iA 0]) [] := by
  have c1 := gvalid_t r H.num H.ag H.tv H.vh H.bk H.rt H.bu
  have c2 := mvalid_c m 3 (.inl ⟨hm, rfl⟩) ht (by rw [har]; rfl) (fun i hi => by
    rw [har]
    have : i = 0 ∨ i = 1 ∨ i = 2 := by omega
    rcases this with rfl | rfl | rfl
    · exact hR
    · exact ⟨hc.1, hc3⟩
    · exact ⟨hl.1, show life ≤ 127 by omega⟩) hd
  have c3 := gused_c r.tk p
  rw [hu] at c3
  have c4 := rclone_c r H.b
  have c5 := gderive_c r H.num H.b.tk H.tv p R c life sec hs now hnow hu hw hc ⟨hl.1, by omega⟩ hla k hk8 hk h1 h2
  clear hu hw hc hla h1 h2 H
  have hls := map_len yA sec
  obtain ⟨mk, mt, ma, md⟩ := m
  dsimp only at *
  subst hm har hd
  unfold rgBx at c5
  generalize r.tk.set k ⟨true, sec, p, R, c, unF life now⟩ = l2 at *
  have e : msA ⟨16, [], [(k : Int)], r.num :: (k : Int) :: sec⟩ = .agg [iA 16, .sl false [], .sl false [iA (k : Int)], slA yA (r.num :: (k : Int) :: sec)] := rfl
  rw [e]
  clear e
  generalize r.num :: (k : Int) :: sec = by1 at *
  (refine callSim_of tok Tryz.func12 rfl (fun args w => Tryz.call12 args w) rfl rfl rfl (fun F hF => ?_))
  (have zc1 := c1; have zc2 := c2; have zc3 := c3; have zc4 := c4; have zc5 := c5; refine WW ?_; clear zc1 zc2 zc3 zc4 zc5)
  exact fin_ret [] rfl rfl rfl rfl
theorem dor_c (r : Rg) (H : RgO r) (m : Ms) (hm : m.kind = 3) (ht : (m.tok.length : Int) = 10) (hd : m.data = []) (p s : Int) (har : m.args = [s]) (hs : 1 ≤ s ∧ s < 8) (now : Int) (hu : usF r.tk p = true) (h8 : r.tk.length = 8) (hus : (r.tk.getD s.toNat default).used = true) :
    CallSim Tryz.prog 12 [rgA r, msA m, iA p, iA now, slA yA []] [] (.tup [rgA (rgT r (rvS r.tk s r.tk.length)), msA ⟨14, [], [3, s], []⟩, bA false, iA 0]) [] := by
  have c1 := gvalid_t r H.num H.ag H.tv H.vh H.bk H.rt H.bu
  have c2 := mvalid_c m 1 (.inr ⟨hm, rfl⟩) ht (by rw [har]; rfl) (fun i hi => by
    rw [har]
    have : i = 0 := by omega
    subst this
    exact ⟨show 0 ≤ s by omega, show s ≤ 127 by omega⟩) hd
  have c3 := gused_c r.tk p
  rw [hu] at c3
  have c4 := rclone_c r H.b
  have c5 := trevoke_c r.tk H.b.tk H.tv s hs h8 hus
  have c6 := ack_c m s har
  rw [hm] at c6
  clear hu hus H
  obtain ⟨mk, mt, ma, md⟩ := m
  dsimp only at *
  subst hm har hd
  have hl0 : (([] : List Int).map yA).length = 0 := rfl
  have hl1 : ([s].map iA).length = 1 := rfl
  generalize rvS r.tk s r.tk.length = l2 at *
  (refine callSim_of tok Tryz.func12 rfl (fun args w => Tryz.call12 args w) rfl rfl rfl (fun F hF => ?_))
  (have zc1 := c1; have zc2 := c2; have zc3 := c3; have zc4 := c4; have zc5 := c5; have zc6 := c6; refine WW ?_; clear zc1 zc2 zc3 zc4 zc5 zc6)
  exact fin_ret [] rfl rfl rfl rfl
end Av
end Go.Proofs.YtjbldhhgooihfaaGreat
