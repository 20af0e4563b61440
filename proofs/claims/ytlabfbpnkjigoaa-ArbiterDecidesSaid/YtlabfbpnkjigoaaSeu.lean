/- law20: setting. -/
import Derived.Test.YtlabfbpnkjigoaaSet
namespace Go.Proofs.Ytlabfbpnkjigoaa
namespace Av
set_option linter.unusedSimpArgs false
set_option linter.unusedVariables false
set_option maxRecDepth 4000
set_option maxHeartbeats 400000
def d0 (xs : List Int) (hl : xs.length ≤ 9223372036854775807) : Dk := ⟨xs, 0, Nat.zero_le _, hl⟩
def ad4 (d : Dk) : Dk := ad (ad (ad (ad d)))
def cfgF (d : Dk) : Cf := ⟨[], [], 1 + nx d (5 - 1 + 1), nx (ad d) 6, 1 + nx (ad (ad d)) (4 - 1 + 1), nx (ad (ad (ad d))) 7⟩
def setN (d : Dk) : Nat := (1 + nx (ad4 d) (8 - 1 + 1)).toNat
def setS (d : Dk) (now : Int) : Sv := svF (ad (ad4 d)) (setN d) now
def setC (d : Dk) (now : Int) : List Cl := clF (svD (ad (ad4 d)) (setN d) now) (setN d) now
theorem setting_c (xs : List Int) (hl : xs.length ≤ 9223372036854775807) (now : Int) (h3 : 0 ≤ now) (h4 : now ≤ 1000000) : CallSim Try.prog 22 [slA iA xs, iA now] [] (.tup [cfA (cfgF (d0 xs hl)), svA (setS (d0 xs hl) now), slA clA (setC (d0 xs hl) now)]) [] := by
  have hb := nx_bd (ad4 (d0 xs hl)) (8 - 1 + 1) (by omega)
  have en : 1 + nx (ad4 (d0 xs hl)) (8 - 1 + 1) = (setN (d0 xs hl) : Int) := (Int.toNat_of_nonneg (by omega)).symm
  have hn1 : 1 ≤ setN (d0 xs hl) := by omega
  have hn2 : setN (d0 xs hl) ≤ 8 := by omega
  have cs : CallSim Try.prog 45 [.ptr 1000 0 0, iA (1 + nx (ad4 (d0 xs hl)) (8 - 1 + 1)), iA now] [(1000, dkE (ad (ad4 (d0 xs hl))))] (svA (setS (d0 xs hl) now)) [(1000, dkE (svD (ad (ad4 (d0 xs hl))) (setN (d0 xs hl)) now))] := by
    rw [en]; exact service_c (ad (ad4 (d0 xs hl))) (setN (d0 xs hl)) now hn1 (by omega) h3 h4
  have cc : CallSim Try.prog 42 [.ptr 1000 0 0, iA (1 + nx (ad4 (d0 xs hl)) (8 - 1 + 1)), iA now] [(1000, dkE (svD (ad (ad4 (d0 xs hl))) (setN (d0 xs hl)) now))] (slA clA (setC (d0 xs hl) now)) [(1000, dkE (clD (svD (ad (ad4 (d0 xs hl))) (setN (d0 xs hl)) now) (setN (d0 xs hl)) now))] := by
    rw [en]; exact claims_c (svD (ad (ad4 (d0 xs hl))) (setN (d0 xs hl)) now) (setN (d0 xs hl)) now (by omega) (by omega) h3 h4
  have nw := new_c xs hl
  change CallSim _ _ _ _ _ [(1000, dkE (d0 xs hl))] at nw
  rw [show cfgF (d0 xs hl) = ⟨[], [], 1 + nx (d0 xs hl) (5 - 1 + 1), nx (ad (d0 xs hl)) 6, 1 + nx (ad (ad (d0 xs hl))) (4 - 1 + 1), nx (ad (ad (ad (d0 xs hl)))) 7⟩ from rfl]
  clear en hn1 hn2 hb
  unfold ad4 at cs cc
  generalize setS (d0 xs hl) now = s at *
  generalize setC (d0 xs hl) now = l at *
  generalize clD _ _ _ = d2 at *
  generalize svD _ _ _ = d1 at *
  generalize d0 xs hl = d at *
  (refine callSim_of tok Try.func22 rfl (fun args w => Try.call22 args w) rfl rfl rfl fun F => ?_)
  (repeat' (first | (refine is_ops ?_; first | refine x_auto tok rfl rfl ?_ | (refine is_call ?_; (first | (refine is_fn 14 ?_; first | refine x_q (stp_call (nw) rfl rfl rfl rfl rfl) rfl ?_ | refine x_w (stp_call (nw) rfl rfl rfl rfl rfl) rfl rfl rfl ?_ | refine x_d (stp_call (nw) rfl rfl rfl rfl rfl) rfl rfl rfl ?_) | (refine is_fn 39 ?_; first | refine x_q (stp_call (range_c _ _ _ (by omega) (by omega) (by omega)) rfl rfl rfl rfl rfl) rfl ?_ | refine x_w (stp_call (range_c _ _ _ (by omega) (by omega) (by omega)) rfl rfl rfl rfl rfl) rfl rfl rfl ?_ | refine x_d (stp_call (range_c _ _ _ (by omega) (by omega) (by omega)) rfl rfl rfl rfl rfl) rfl rfl rfl ?_) | (refine is_fn 38 ?_; first | refine x_q (stp_call (next_c _ _ (by omega) (by omega)) rfl rfl rfl rfl rfl) rfl ?_ | refine x_w (stp_call (next_c _ _ (by omega) (by omega)) rfl rfl rfl rfl rfl) rfl rfl rfl ?_ | refine x_d (stp_call (next_c _ _ (by omega) (by omega)) rfl rfl rfl rfl rfl) rfl rfl rfl ?_) | (refine is_fn 45 ?_; first | refine x_q (stp_call (cs) rfl rfl rfl rfl rfl) rfl ?_ | refine x_w (stp_call (cs) rfl rfl rfl rfl rfl) rfl rfl rfl ?_ | refine x_d (stp_call (cs) rfl rfl rfl rfl rfl) rfl rfl rfl ?_) | (refine is_fn 42 ?_; first | refine x_q (stp_call (cc) rfl rfl rfl rfl rfl) rfl ?_ | refine x_w (stp_call (cc) rfl rfl rfl rfl rfl) rfl rfl rfl ?_ | refine x_d (stp_call (cc) rfl rfl rfl rfl rfl) rfl rfl rfl ?_))) | (refine is_grd ?_; first | refine x_on rfl rfl ?_ | refine x_off rfl rfl rfl rfl ?_ | refine x_gsplit rfl rfl (fun hc => ?_) (fun hc => ?_)) | (refine is_bin ?_; first | refine x_q (stp_cmp_t rfl rfl rfl (by unfold cmpP; omega)) rfl ?_ | refine x_q (stp_cmp_f rfl rfl rfl (by unfold cmpP; omega)) rfl ?_ | refine x_q (stp_cmp rfl rfl rfl) rfl ?_ | refine x_q (stp_add rfl rfl ⟨by omega, by omega⟩) rfl ?_ | refine x_q (stp_sub rfl rfl ⟨by omega, by omega⟩) rfl ?_ | refine x_q (stp_mul rfl rfl ⟨by omega, by omega⟩) rfl ?_ | refine x_q (stp_quo rfl rfl (by assumption) (by omega)) rfl ?_ | refine x_q (stp_rem rfl rfl (by omega)) rfl ?_ | refine x_q (stp_xor rfl rfl) rfl ?_ | refine x_q (stp_shift (.inl ⟨rfl, rfl⟩) rfl rfl (by omega)) rfl ?_ | refine x_q (stp_shift (.inr ⟨rfl, rfl⟩) rfl rfl (by omega)) rfl ?_ | refine x_q (stp_bool2 tok rfl rfl rfl rfl (.inl ⟨rfl, rfl⟩)) rfl ?_ | refine x_q (stp_bool2 tok rfl rfl rfl rfl (.inr ⟨rfl, rfl⟩)) rfl ?_ | refine x_q (stp_eqlNil tok (.inl ⟨rfl, rfl⟩) rfl rfl rfl) rfl ?_ | refine x_q (stp_eqlNil_not tok (.inl ⟨rfl, rfl⟩) rfl rfl rfl rfl) rfl ?_) | (refine is_idx ?_; first | refine x_q (stp_indexAddr_sl tok rfl rfl rfl rfl rfl (by omega) (by first | rfl | assumption) rfl rfl) rfl ?_ | refine x_q (stp_indexAddr_r0 tok rfl rfl rfl rfl rfl rfl (by omega) (by omega) rfl) rfl ?_ | refine x_q (stp_indexAddr_box tok rfl rfl rfl rfl rfl rfl (by omega) (by omega)) rfl ?_) | (refine is_load ?_; first | refine x_q (stp_load_fp1 tok rfl rfl rfl (by first | rfl | assumption) rfl) rfl ?_ | refine x_q (stp_load_fpa tok rfl rfl rfl (by first | rfl | assumption) rfl) rfl ?_ | refine x_q (stp_load_arr1 tok rfl rfl rfl rfl (by first | rfl | assumption) rfl) rfl ?_ | refine x_q (stp_load_arra tok rfl rfl rfl rfl (by first | rfl | assumption) rfl) rfl ?_) | (refine is_fad ?_; first | refine x_q (stp_fieldAddr_arr tok rfl rfl rfl rfl rfl rfl rfl rfl) rfl ?_ | refine x_q (stp_fieldAddr_fp tok rfl (by first | rfl | assumption) rfl rfl rfl rfl rfl rfl) rfl ?_) | (refine is_app ?_; first | refine x_appref tok rfl rfl rfl rfl rfl rfl rfl rfl rfl rfl rfl (by first | (intro y hy; cases hy; rfl) | exact map_hd _ _ (fun _ => rfl)) (by first | omega | (simp; done) | (simp; omega)) rfl ?_) | (refine is_un ?_; first | refine x_q (stp_neg rfl ⟨by omega, by omega⟩) rfl ?_) | (refine is_conv ?_; first | refine x_q (stp_conv_in tok rfl rfl rfl rfl ⟨by omega, by omega⟩) rfl ?_ | refine x_q (stp_conv tok rfl rfl rfl rfl) rfl ?_) | refine x_autow tok rfl rfl rfl rfl ?_ | (refine is_sto ?_; first | refine x_autos tok rfl rfl rfl ?_) | refine x_nil ?_ | refine x_nilD (by kernel_rfl) ?_) | (first | refine sim_seq ?_ | refine x_region ?_ | refine x_draw rfl ?_ | refine sim_cond_true rfl ?_ | refine sim_cond_false rfl ?_ | refine sim_cond rfl (fun hc => ?_) (fun hc => ?_) | refine sim_skip ?_ | refine sim_ret ?_ | refine sim_exit ?_ | refine sim_block ?_)))
  exact fin_ret [] rfl rfl rfl rfl
end Av
end Go.Proofs.Ytlabfbpnkjigoaa
