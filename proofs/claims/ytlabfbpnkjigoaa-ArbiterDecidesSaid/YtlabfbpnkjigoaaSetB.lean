/- law20: bounds of what setting returns; awake. -/
import Derived.Test.YtlabfbpnkjigoaaSeu
import Derived.Test.YtlabfbpnkjigoaaRkE
import Derived.Test.YtlabfbpnkjigoaaAvq
namespace Go.Proofs.Ytlabfbpnkjigoaa
namespace Av
set_option linter.unusedSimpArgs false
set_option linter.unusedVariables false
set_option maxRecDepth 4000
set_option maxHeartbeats 1000000
theorem e1_bd (d : Dk) (now : Int) (h : 0 ≤ now) : -1 ≤ e1 d now ∧ e1 d now ≤ now := by
  unfold e1
  have hb := nx_bd d 6 (by omega)
  have hb2 := nx_bd (ad d) 3 (by omega)
  generalize hx : (nx (ad d) 3).toNat = x
  obtain rfl | rfl | rfl : x = 0 ∨ x = 1 ∨ x = 2 := by omega
  all_goals (simp [List.getD]; omega)
theorem svL_bd (now : Int) (d : Dk) (h : 0 ≤ now) : ∀ i, ∀ e ∈ (svL now d i).1, -1 ≤ e ∧ e ≤ now
  | 0, e, he => by simp [svL] at he
  | i + 1, e, he => by
    simp only [svL, List.mem_append, List.mem_singleton] at he
    rcases he with he | rfl
    · exact svL_bd now d h i e he
    · exact e1_bd _ _ h
theorem getD_mem' {α : Type} (P : α → Prop) (d : α) : ∀ (l : List α) (i : Nat), (∀ x ∈ l, P x) → i < l.length → P (l.getD i d)
  | l, i, h, hi => by simp only [List.getD_eq_getElem?_getD, List.getElem?_eq_getElem hi, Option.getD_some]; exact h _ (List.getElem_mem hi)
theorem endF_bd (es : List Int) (now ph : Int) (h : 0 ≤ now) (he : ∀ e ∈ es, -1 ≤ e ∧ e ≤ now) : -1 ≤ endF es ph ∧ endF es ph ≤ now := by
  unfold endF
  split
  · omega
  · exact getD_mem' (fun e => -1 ≤ e ∧ e ≤ now) 0 es ph.toNat he (by omega)
structure ClB (ph now : Int) (c : Cl) : Prop where
  k0 : 0 ≤ c.k
  k1 : c.k ≤ 3
  s0 : 0 ≤ c.si
  s1 : c.si ≤ now
  a0 : 0 ≤ c.ag
  a1 : c.ag ≤ 2
  i0 : 0 ≤ c.id
  i1 : c.id ≤ 3
  p0 : 0 ≤ c.ph
  p1 : c.ph < ph
theorem cl1_bd (d : Dk) (ph now : Int) (h : 0 ≤ now) (hp : 1 ≤ ph) : ClB ph now (cl1 d ph now) := by
  have h0 := nx_bd d 3 (by omega)
  have h1 := nx_bd (ad d) 4 (by omega)
  have h2 := nx_bd (ad (ad d)) ph hp
  have h3 := nx_bd (ad (ad (ad d))) 6 (by omega)
  have h4 := nx_bd (ad (ad (ad (ad d)))) 20 (by omega)
  have hc : 0 ≤ [0, 1, 1, 0, 2, 3].getD (nx (ad (ad (ad d))) 6).toNat (0 : Int) ∧ [0, 1, 1, 0, 2, 3].getD (nx (ad (ad (ad d))) 6).toNat (0 : Int) ≤ 3 :=
    getD_mem' (fun e => 0 ≤ e ∧ e ≤ 3) (0 : Int) [0, 1, 1, 0, 2, 3] _ (by decide) (by simp; omega)
  unfold cl1
  constructor <;> dsimp only <;> omega
theorem clL_bd (ph now : Int) (d : Dk) (h : 0 ≤ now) (hp : 1 ≤ ph) : ∀ i, ∀ c ∈ (clL ph now d i).1, ClB ph now c
  | 0, e, he => by simp [clL] at he
  | i + 1, e, he => by
    simp only [clL, List.mem_append, List.mem_singleton] at he
    rcases he with he | rfl
    · exact clL_bd ph now d h hp i e he
    · exact cl1_bd _ _ _ h hp
/-- What setting returns. -/
structure SetOK (g : Cf) (s : Sv) (l : List Cl) (now : Int) : Prop where
  p0 : 1 ≤ g.per
  p1 : g.per ≤ 5
  c0 : 0 ≤ g.cap
  c1 : g.cap ≤ 5
  h0 : 1 ≤ g.hold
  h1 : g.hold ≤ 4
  l0 : 0 ≤ g.lock
  l1 : g.lock ≤ 6
  len : l.length ≤ 5
  n0 : 1 ≤ s.en.length
  n1 : s.en.length ≤ 8
  en : ∀ e ∈ s.en, -1 ≤ e ∧ e ≤ now
  cl : ∀ c ∈ l, ClB s.en.length now c
theorem svF_en (d : Dk) (n : Nat) (now : Int) : (svF d n now).en = (svL now d n).1 := by unfold svF; split <;> rfl
theorem set_ok (d : Dk) (now : Int) (h : 0 ≤ now) : SetOK (cfgF d) (setS d now) (setC d now) now := by
  have h0 := nx_bd d (5 - 1 + 1) (by omega)
  have h1 := nx_bd (ad d) 6 (by omega)
  have h2 := nx_bd (ad (ad d)) (4 - 1 + 1) (by omega)
  have h3 := nx_bd (ad (ad (ad d))) 7 (by omega)
  have h4 := nx_bd (ad4 d) (8 - 1 + 1) (by omega)
  have hN : 1 ≤ setN d ∧ setN d ≤ 8 := by unfold setN; omega
  have hM := nx_bd (svD (ad (ad4 d)) (setN d) now) 6 (by omega)
  have e : (setS d now).en = (svL now (ad (ad4 d)) (setN d)).1 := svF_en _ _ _
  have hlen : (setS d now).en.length = setN d := by rw [e]; exact svL_len _ _ _
  constructor
  case len => unfold setC clF; rw [clL_len]; omega
  case en => rw [e]; exact svL_bd now _ h _
  case cl => rw [hlen]; exact clL_bd _ now _ h (by omega) _
  case n0 => omega
  case n1 => omega
  all_goals (unfold cfgF; dsimp only; omega)
theorem SetOK.cok {g : Cf} {s : Sv} {l : List Cl} {now : Int} (H : SetOK g s l now) (hn : 0 ≤ now) (hn2 : now ≤ 1000000) : ∀ i, i < l.length → COk g.per now s.en (l.getD i default) := fun i hi => by
  obtain ⟨a0, a1, a2, a3, a4, a5, a6, a7, a8, a9⟩ := getD_mem' (ClB s.en.length now) default l i H.cl hi
  have he := endF_bd s.en now (l.getD i default).ph hn H.en
  have hp := H.p0
  constructor <;> (try unfold staF) <;> omega
theorem SetOK.sta {g : Cf} {s : Sv} {l : List Cl} {now : Int} (H : SetOK g s l now) (hn : 0 ≤ now) : ∀ i, i < l.length → staF s.en (l.getD i default).ph (l.getD i default).si ≤ now := fun i hi => by
  obtain ⟨a0, a1, a2, a3, a4, a5, a6, a7, a8, a9⟩ := getD_mem' (ClB s.en.length now) default l i H.cl hi
  have he := endF_bd s.en now (l.getD i default).ph hn H.en
  unfold staF
  omega
theorem awake20_c : CallSim Try.prog 25 [] [] (bA true) [] := by
  have ok : ∀ now, 0 ≤ now → now ≤ 100 → COk 10 now [-1] ⟨0, 0, 0, 1, 0⟩ := fun now h1 h2 => by constructor <;> first | omega | decide
  have l1 : CallSim Try.prog 26 [cfA ⟨[], [], 10, 5, 1, 0⟩, svA ⟨-1, 0, [-1]⟩, clA ⟨0, 0, 0, 1, 0⟩, iA 9] [] (iA 1) [] := level_c ⟨[], [], 10, 5, 1, 0⟩ ⟨-1, 0, [-1]⟩ ⟨0, 0, 0, 1, 0⟩ 9 (ok 9 (by omega) (by omega))
  have l2 : CallSim Try.prog 26 [cfA ⟨[], [], 10, 5, 1, 0⟩, svA ⟨-1, 0, [-1]⟩, clA ⟨0, 0, 0, 1, 0⟩, iA 10] [] (iA 2) [] := level_c ⟨[], [], 10, 5, 1, 0⟩ ⟨-1, 0, [-1]⟩ ⟨0, 0, 0, 1, 0⟩ 10 (ok 10 (by omega) (by omega))
  have l3 : CallSim Try.prog 26 [cfA ⟨[], [], 10, 5, 1, 0⟩, svA ⟨-1, 0, [-1]⟩, clA ⟨0, 0, 0, 1, 0⟩, iA 99] [] (iA 5) [] := level_c ⟨[], [], 10, 5, 1, 0⟩ ⟨-1, 0, [-1]⟩ ⟨0, 0, 0, 1, 0⟩ 99 (ok 99 (by omega) (by omega))
  have em : CallSim Try.prog 24 [clA ⟨0, 0, 0, 2, 0⟩] [] (bA true) [] := emergency_c ⟨0, 0, 0, 2, 0⟩
  (refine callSim_of tok Try.func25 rfl (fun args w => Try.call25 args w) rfl rfl rfl fun F => ?_)
  (repeat' (first | (refine is_ops ?_; first | refine x_auto tok rfl rfl ?_ | (refine is_call ?_; (first | (refine is_fn 26 ?_; first | refine x_q (stp_call (l1) rfl rfl rfl rfl rfl) rfl ?_ | refine x_w (stp_call (l1) rfl rfl rfl rfl rfl) rfl rfl rfl ?_ | refine x_d (stp_call (l1) rfl rfl rfl rfl rfl) rfl rfl rfl ?_) | (refine is_fn 26 ?_; first | refine x_q (stp_call (l2) rfl rfl rfl rfl rfl) rfl ?_ | refine x_w (stp_call (l2) rfl rfl rfl rfl rfl) rfl rfl rfl ?_ | refine x_d (stp_call (l2) rfl rfl rfl rfl rfl) rfl rfl rfl ?_) | (refine is_fn 26 ?_; first | refine x_q (stp_call (l3) rfl rfl rfl rfl rfl) rfl ?_ | refine x_w (stp_call (l3) rfl rfl rfl rfl rfl) rfl rfl rfl ?_ | refine x_d (stp_call (l3) rfl rfl rfl rfl rfl) rfl rfl rfl ?_) | (refine is_fn 24 ?_; first | refine x_q (stp_call (em) rfl rfl rfl rfl rfl) rfl ?_ | refine x_w (stp_call (em) rfl rfl rfl rfl rfl) rfl rfl rfl ?_ | refine x_d (stp_call (em) rfl rfl rfl rfl rfl) rfl rfl rfl ?_))) | (refine is_grd ?_; first | refine x_on rfl rfl ?_ | refine x_off rfl rfl rfl rfl ?_ | refine x_gsplit rfl rfl (fun hc => ?_) (fun hc => ?_)) | (refine is_bin ?_; first | refine x_q (stp_cmp_t rfl rfl rfl (by unfold cmpP; omega)) rfl ?_ | refine x_q (stp_cmp_f rfl rfl rfl (by unfold cmpP; omega)) rfl ?_ | refine x_q (stp_cmp rfl rfl rfl) rfl ?_ | refine x_q (stp_add rfl rfl ⟨by omega, by omega⟩) rfl ?_ | refine x_q (stp_sub rfl rfl ⟨by omega, by omega⟩) rfl ?_ | refine x_q (stp_mul rfl rfl ⟨by omega, by omega⟩) rfl ?_ | refine x_q (stp_quo rfl rfl (by assumption) (by omega)) rfl ?_ | refine x_q (stp_rem rfl rfl (by omega)) rfl ?_ | refine x_q (stp_xor rfl rfl) rfl ?_ | refine x_q (stp_shift (.inl ⟨rfl, rfl⟩) rfl rfl (by omega)) rfl ?_ | refine x_q (stp_shift (.inr ⟨rfl, rfl⟩) rfl rfl (by omega)) rfl ?_ | refine x_q (stp_bool2 tok rfl rfl rfl rfl (.inl ⟨rfl, rfl⟩)) rfl ?_ | refine x_q (stp_bool2 tok rfl rfl rfl rfl (.inr ⟨rfl, rfl⟩)) rfl ?_ | refine x_q (stp_eqlNil tok (.inl ⟨rfl, rfl⟩) rfl rfl rfl) rfl ?_ | refine x_q (stp_eqlNil_not tok (.inl ⟨rfl, rfl⟩) rfl rfl rfl rfl) rfl ?_) | (refine is_idx ?_; first | refine x_q (stp_indexAddr_sl tok rfl rfl rfl rfl rfl (by omega) (by first | rfl | assumption) rfl rfl) rfl ?_ | refine x_q (stp_indexAddr_r0 tok rfl rfl rfl rfl rfl rfl (by omega) (by omega) rfl) rfl ?_ | refine x_q (stp_indexAddr_box tok rfl rfl rfl rfl rfl rfl (by omega) (by omega)) rfl ?_) | (refine is_load ?_; first | refine x_q (stp_load_fp1 tok rfl rfl rfl (by first | rfl | assumption) rfl) rfl ?_ | refine x_q (stp_load_fpa tok rfl rfl rfl (by first | rfl | assumption) rfl) rfl ?_ | refine x_q (stp_load_arr1 tok rfl rfl rfl rfl (by first | rfl | assumption) rfl) rfl ?_ | refine x_q (stp_load_arra tok rfl rfl rfl rfl (by first | rfl | assumption) rfl) rfl ?_) | (refine is_fad ?_; first | refine x_q (stp_fieldAddr_arr tok rfl rfl rfl rfl rfl rfl rfl rfl) rfl ?_ | refine x_q (stp_fieldAddr_fp tok rfl (by first | rfl | assumption) rfl rfl rfl rfl rfl rfl) rfl ?_) | (refine is_app ?_; first | refine x_appref tok rfl rfl rfl rfl rfl rfl rfl rfl rfl rfl rfl (by first | (intro y hy; cases hy; rfl) | exact map_hd _ _ (fun _ => rfl)) (by first | omega | (simp; done) | (simp; omega)) rfl ?_) | (refine is_un ?_; first | refine x_q (stp_neg rfl ⟨by omega, by omega⟩) rfl ?_) | (refine is_conv ?_; first | refine x_q (stp_conv_in tok rfl rfl rfl rfl ⟨by omega, by omega⟩) rfl ?_ | refine x_q (stp_conv tok rfl rfl rfl rfl) rfl ?_) | refine x_autow tok rfl rfl rfl rfl ?_ | (refine is_sto ?_; first | refine x_autos tok rfl rfl rfl ?_) | refine x_nil ?_ | refine x_nilD (by kernel_rfl) ?_) | (first | refine sim_seq ?_ | refine x_region ?_ | refine x_draw rfl ?_ | refine sim_cond_true rfl ?_ | refine sim_cond_false rfl ?_ | refine sim_cond rfl (fun hc => ?_) (fun hc => ?_) | refine sim_skip ?_ | refine sim_ret ?_ | refine sim_exit ?_ | refine sim_block ?_)))
  exact fin_ret [] rfl rfl rfl rfl
end Av
end Go.Proofs.Ytlabfbpnkjigoaa
