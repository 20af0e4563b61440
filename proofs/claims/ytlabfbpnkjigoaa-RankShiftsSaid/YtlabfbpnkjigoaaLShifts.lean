/- law20.RankShifts. -/
import Derived.Test.YtlabfbpnkjigoaaSetB
namespace Go.Proofs.Ytlabfbpnkjigoaa
namespace Av
set_option linter.unusedSimpArgs false
set_option linter.unusedVariables false
set_option maxRecDepth 4000
set_option maxHeartbeats 4000000
def sh1 (d e : Int) : Int := if e ≠ -1 then e + d else e
def shC (d : Int) (c : Cl) : Cl := ⟨c.ag, c.id, c.ph, c.k, c.si + d⟩
def shS (d : Int) (s : Sv) : Sv := ⟨s.ph, s.gr, s.en.map (sh1 d)⟩
theorem endF_sh (d : Int) (es : List Int) (ph : Int) : endF (es.map (sh1 d)) ph = sh1 d (endF es ph) := by
  unfold endF
  rw [List.length_map]
  split
  · simp [sh1]
  · rename_i h
    rw [show (0 : Int) = es.getD es.length 0 by simp] 
    simp only [List.getD_eq_getElem?_getD, List.getElem?_map]
    rw [List.getElem?_eq_getElem (show ph.toNat < es.length by omega)]
    rfl
section
variable (d per cap lock : Int) (es : List Int) (now : Int) (x y : Cl) (hd : 0 ≤ d)
include hd in
theorem staF_sh (ph si : Int) (h0 : 0 ≤ si) (h1 : -1 ≤ endF es ph) : staF (es.map (sh1 d)) ph (si + d) = staF es ph si + d := by
  unfold staF
  rw [endF_sh]
  unfold sh1
  split <;> omega
include hd in
theorem levF_sh (ph k si : Int) (h0 : 0 ≤ si) (h1 : -1 ≤ endF es ph) : levF per cap (es.map (sh1 d)) (now + d) ph k (si + d) = levF per cap es now ph k si := by
  unfold levF
  rw [staF_sh d es hd ph si h0 h1, show now + d - (staF es ph si + d) = now - staF es ph si by omega]
include hd in
theorem lckF_sh (ph k : Int) (h1 : -1 ≤ endF es ph) : lckF lock (es.map (sh1 d)) (now + d) ph k = lckF lock es now ph k := by
  unfold lckF
  rw [endF_sh]
  by_cases h : endF es ph = -1
  · rw [h]; simp [sh1]
  · rw [show sh1 d (endF es ph) = endF es ph + d by simp [sh1, h], show now + d - (endF es ph + d) = now - endF es ph by omega,
      show (endF es ph + d != -1) = (endF es ph != -1) by rw [show (endF es ph != -1) = true by simpa using h]; simp; omega]
include hd in
theorem lessF_sh (hx : 0 ≤ x.si) (hy : 0 ≤ y.si) (ex : -1 ≤ endF es x.ph) (ey : -1 ≤ endF es y.ph) : lessF per cap (es.map (sh1 d)) (now + d) (shC d x) (shC d y) = lessF per cap es now x y := by
  have a1 : amtF per cap (es.map (sh1 d)) (now + d) (shC d x) = amtF per cap es now x := by
    unfold amtF shC
    dsimp only
    rw [levF_sh d per cap es now hd _ _ _ hx ex]
  have a2 : amtF per cap (es.map (sh1 d)) (now + d) (shC d y) = amtF per cap es now y := by
    unfold amtF shC
    dsimp only
    rw [levF_sh d per cap es now hd _ _ _ hy ey]
  unfold lessF
  rw [a1, a2, show staF (es.map (sh1 d)) (shC d x).ph (shC d x).si = staF es x.ph x.si + d from staF_sh d es hd _ _ hx ex, show staF (es.map (sh1 d)) (shC d y).ph (shC d y).si = staF es y.ph y.si + d from staF_sh d es hd _ _ hy ey]
  unfold shC
  dsimp only
  by_cases h : staF es x.ph x.si = staF es y.ph y.si
  · simp [h]
  · have h2 : ¬ staF es x.ph x.si + d = staF es y.ph y.si + d := by omega
    simp only [ne_eq, h, h2, not_false_eq_true, if_true, Int.add_lt_add_iff_right]
end
theorem shC_at (d : Int) (l : List Cl) (i : Nat) (h : i < l.length) : (l.map (shC d)).getD i default = shC d (l.getD i default) := by
  simp only [List.getD_eq_getElem?_getD, List.getElem?_map]
  rw [List.getElem?_eq_getElem h]
  rfl
theorem bestN_sh (d : Int) (g : Cf) (s : Sv) (now : Int) (l : List Cl) (hd : 0 ≤ d) (H : ∀ i, i < l.length → 0 ≤ (l.getD i default).si ∧ -1 ≤ endF s.en (l.getD i default).ph) : ∀ i, i ≤ l.length → bestN g (shS d s) (now + d) (l.map (shC d)) i = bestN g s now l i
  | 0, _ => rfl
  | i + 1, hi => by
    have ih := bestN_sh d g s now l hd H i (by omega)
    have hb := bestN_bd g s now l i
    obtain ⟨h1, h2⟩ := H i (by omega)
    rw [bestN_succ, bestN_succ, ih, shC_at d l i (by omega), show lckF g.lock (shS d s).en (now + d) (shC d (l.getD i default)).ph (shC d (l.getD i default)).k = lckF g.lock s.en now (l.getD i default).ph (l.getD i default).k from lckF_sh d _ _ _ hd _ _ h2]
    by_cases h0 : bestN g s now l i < 0
    · rw [if_pos h0]; simp [h0]
    · obtain ⟨h3, h4⟩ := H (bestN g s now l i).toNat (by omega)
      rw [shC_at d l _ (by omega), show lessF g.per g.cap (shS d s).en (now + d) (shC d (l.getD i default)) (shC d (l.getD (bestN g s now l i).toNat default)) = _ from lessF_sh d _ _ _ _ _ _ hd h1 h3 h2 h4]
theorem take_getD {α : Type} [Inhabited α] (l : List α) (i : Nat) (h : i < l.length) : l.take (i + 1) = l.take i ++ [l.getD i default] := by
  rw [List.take_add_one, List.getElem?_eq_getElem h]
  simp [List.getD, h]
theorem shifts_c (xs : List Int) (hl : xs.length ≤ 9223372036854775807) (now0 by0 : Int) : CallSim Try.prog 9 [slA iA xs, iA now0, iA by0] [] (bA true) [] := by
  have hm := Int.emod_nonneg now0 (show (50 : Int) ≠ 0 by omega)
  have hm2 := Int.emod_lt_of_pos now0 (show (0 : Int) < 50 by omega)
  have hd := Int.emod_nonneg by0 (show (1000 : Int) ≠ 0 by omega)
  have hd2 := Int.emod_lt_of_pos by0 (show (0 : Int) < 1000 by omega)
  have mc := mod_c now0 50 (by omega) (by omega)
  have mc2 := mod_c by0 1000 (by omega) (by omega)
  generalize by0 % 1000 = d at *
  generalize now0 % 50 = now1 at *
  obtain ⟨now, hnow⟩ : ∃ now, 10 + now1 = now := ⟨_, rfl⟩
  have sc := setting_c xs hl now (by omega) (by omega)
  have ok := set_ok (d0 xs hl) now (by omega)
  generalize cfgF (d0 xs hl) = g at *
  generalize setS (d0 xs hl) now = s at *
  generalize setC (d0 xs hl) now = l at *
  rw [← hnow] at sc
  have hlen := ok.len
  have hlenE := ok.n1
  have hci : ∀ i, i < l.length → 0 ≤ (l.getD i default).si ∧ (l.getD i default).si ≤ now := fun i hi => by
    obtain ⟨a0, a1, a2, a3, _⟩ := getD_mem' (ClB s.en.length now) default l i ok.cl hi
    exact ⟨a2, a3⟩
  have hei : ∀ ph, -1 ≤ endF s.en ph ∧ endF s.en ph ≤ now := fun ph => endF_bd s.en now ph (by omega) ok.en
  have hen : ∀ i, i < s.en.length → -1 ≤ s.en.getD i 0 ∧ s.en.getD i 0 ≤ now := fun i hi => getD_mem' (fun e => -1 ≤ e ∧ e ≤ now) 0 s.en i ok.en hi
  have cok := ok.cok (by omega) (by omega)
  have cok2 : ∀ i, i < l.length → COk g.per (now + d) (s.en.map (sh1 d)) (shC d (l.getD i default)) := fun i hi => by
    obtain ⟨q0, q1, q2, q3, q4, q5, q6, q7, q8⟩ := cok i hi
    have hs := staF_sh d s.en hd (l.getD i default).ph (l.getD i default).si (hci i hi).1 (hei _).1
    have hb := hei (l.getD i default).ph
    have he : -1 ≤ endF (s.en.map (sh1 d)) (l.getD i default).ph ∧ endF (s.en.map (sh1 d)) (l.getD i default).ph ≤ 2000 := by rw [endF_sh]; unfold sh1; split <;> omega
    have hst := ok.sta (by omega) i hi
    unfold shC
    constructor <;> (try dsimp only) <;> omega
  have b1 := best_c g s now l (by omega) cok
  have b2 := best_c g (shS d s) (now + d) (l.map (shC d)) (by simp; omega) (fun i hi => by rw [shC_at d l i (by simpa using hi)]; exact cok2 i (by simpa using hi))
  rw [show bestN g (shS d s) (now + d) (l.map (shC d)) (l.map (shC d)).length = bestN g s now l l.length by rw [List.length_map]; exact bestN_sh d g s now l hd (fun i hi => ⟨(hci i hi).1, (hei _).1⟩) l.length (Nat.le_refl _)] at b2
  have cV := fun i (hi : i < l.length) => level_c g s (l.getD i default) now (cok i hi)
  have cV2 := fun i (hi : i < l.length) => level_c g (shS d s) (shC d (l.getD i default)) (now + d) (cok2 i hi)
  have cK := fun i (hi : i < l.length) => locked_c g s (l.getD i default) now (cok i hi)
  have cK2 := fun i (hi : i < l.length) => locked_c g (shS d s) (shC d (l.getD i default)) (now + d) (cok2 i hi)
  have cL := fun i j (hi : i < l.length) (hj : j < l.length) => less_c g s (l.getD i default) (l.getD j default) now (cok i hi) (cok j hj)
  have cL2 := fun i j (hi : i < l.length) (hj : j < l.length) => less_c g (shS d s) (shC d (l.getD i default)) (shC d (l.getD j default)) (now + d) (cok2 i hi) (cok2 j hj)
  have eV : ∀ i, i < l.length → levF g.per g.cap (shS d s).en (now + d) (shC d (l.getD i default)).ph (shC d (l.getD i default)).k (shC d (l.getD i default)).si = levF g.per g.cap s.en now (l.getD i default).ph (l.getD i default).k (l.getD i default).si := fun i hi => levF_sh d _ _ _ _ hd _ _ _ (hci i hi).1 (hei _).1
  have eK : ∀ i, i < l.length → lckF g.lock (shS d s).en (now + d) (shC d (l.getD i default)).ph (shC d (l.getD i default)).k = lckF g.lock s.en now (l.getD i default).ph (l.getD i default).k := fun i hi => lckF_sh d _ _ _ hd _ _ (hei _).1
  have eL : ∀ i j, i < l.length → j < l.length → lessF g.per g.cap (shS d s).en (now + d) (shC d (l.getD i default)) (shC d (l.getD j default)) = lessF g.per g.cap s.en now (l.getD i default) (l.getD j default) := fun i j hi hj => lessF_sh d _ _ _ _ _ _ hd (hci i hi).1 (hci j hj).1 (hei _).1 (hei _).1
  have hll : (l.map clA).length = l.length := by simp
  have hle : (s.en.map iA).length = s.en.length := by simp
  generalize bestN g s now l l.length = bst at *
  clear ok cok cok2
  (refine callSim_of tok Try.func9 rfl (fun args w => Try.call9 args w) rfl rfl rfl fun F => ?_)
  (repeat' (first | (refine is_ops ?_; first | refine x_auto tok rfl rfl ?_ | (refine is_call ?_; (first | (refine is_fn 16 ?_; first | refine x_q (stp_call (mc) rfl rfl rfl rfl rfl) rfl ?_ | refine x_w (stp_call (mc) rfl rfl rfl rfl rfl) rfl rfl rfl ?_) | (refine is_fn 16 ?_; first | refine x_q (stp_call (mc2) rfl rfl rfl rfl rfl) rfl ?_ | refine x_w (stp_call (mc2) rfl rfl rfl rfl rfl) rfl rfl rfl ?_) | (refine is_fn 22 ?_; first | refine x_q (stp_call (sc) rfl rfl rfl rfl rfl) rfl ?_ | refine x_w (stp_call (sc) rfl rfl rfl rfl rfl) rfl rfl rfl ?_))) | (refine is_grd ?_; first | refine x_on rfl rfl ?_ | refine x_off rfl rfl rfl rfl ?_ | refine x_gsplit rfl rfl (fun hc => ?_) (fun hc => ?_)) | (refine is_bin ?_; first | refine x_q (stp_cmp_t rfl rfl rfl (by unfold cmpP; omega)) rfl ?_ | refine x_q (stp_cmp_f rfl rfl rfl (by unfold cmpP; omega)) rfl ?_ | refine x_q (stp_cmp rfl rfl rfl) rfl ?_ | refine x_q (stp_add rfl rfl ⟨by omega, by omega⟩) rfl ?_ | refine x_q (stp_sub rfl rfl ⟨by omega, by omega⟩) rfl ?_ | refine x_q (stp_mul rfl rfl ⟨by omega, by omega⟩) rfl ?_ | refine x_q (stp_quo rfl rfl (by assumption) (by omega)) rfl ?_ | refine x_q (stp_rem rfl rfl (by omega)) rfl ?_ | refine x_q (stp_bool2 tok rfl rfl rfl rfl (.inl ⟨rfl, rfl⟩)) rfl ?_ | refine x_q (stp_bool2 tok rfl rfl rfl rfl (.inr ⟨rfl, rfl⟩)) rfl ?_ | refine x_q (stp_eqlNil tok (.inl ⟨rfl, rfl⟩) rfl rfl rfl) rfl ?_ | refine x_q (stp_eqlNil_not tok (.inl ⟨rfl, rfl⟩) rfl rfl rfl rfl) rfl ?_) | (refine is_idx ?_; first | refine x_q (stp_indexAddr_sl tok rfl rfl rfl rfl rfl (by omega) (by first | rfl | assumption) rfl rfl) rfl ?_ | refine x_q (stp_indexAddr_r0 tok rfl rfl rfl rfl rfl rfl (by omega) (by omega) rfl) rfl ?_ | refine x_q (stp_indexAddr_box tok rfl rfl rfl rfl rfl rfl (by omega) (by omega)) rfl ?_) | (refine is_load ?_; first | refine x_q (stp_load_fp1 tok rfl rfl rfl (by first | rfl | assumption) rfl) rfl ?_ | refine x_q (stp_load_fpa tok rfl rfl rfl (by first | rfl | assumption) rfl) rfl ?_ | refine x_q (stp_load_arr1 tok rfl rfl rfl rfl (by first | rfl | assumption) rfl) rfl ?_ | refine x_q (stp_load_arra tok rfl rfl rfl rfl (by first | rfl | assumption) rfl) rfl ?_) | (refine is_fad ?_; first | refine x_q (stp_fieldAddr_arr tok rfl rfl rfl rfl rfl rfl rfl rfl) rfl ?_ | refine x_q (stp_fieldAddr_fp tok rfl (by first | rfl | assumption) rfl rfl rfl rfl rfl rfl) rfl ?_) | (refine is_app ?_; first | refine x_appref tok rfl rfl rfl rfl rfl rfl rfl rfl rfl rfl rfl (by intro y hy; cases hy; rfl) (by first | omega | (simp; done) | (simp; omega)) rfl ?_) | (refine is_un ?_; first | refine x_q (stp_neg rfl ⟨by omega, by omega⟩) rfl ?_) | refine x_autow tok rfl rfl rfl rfl ?_ | (refine is_sto ?_; first | refine x_autos tok rfl rfl rfl ?_) | refine x_nil ?_ | refine x_nilD (by kernel_rfl) ?_) | (first | refine sim_seq ?_ | refine x_region ?_ | refine x_draw rfl ?_ | refine sim_cond_true rfl ?_ | refine sim_cond_false rfl ?_ | refine sim_cond rfl (fun hc => ?_) (fun hc => ?_) | refine sim_skip ?_ | refine sim_ret ?_ | refine sim_exit ?_ | refine sim_block ?_)))
  refine sim_virtB 10 2 1001 1 rfl rfl rfl rfl rfl ?_
  refine sim_loop_r (fun n st => ∃ i : Nat, n + i = s.en.length ∧ st = ⟨[(1, iA now), (2, iA d), (7, .ptr 7 0 0), (8, .ptr 8 0 0), (9, slA clA l), (10, .ptr 10 0 0), (36, slA iA s.en), (37, iA s.en.length), (38, iA i)],
      [(7, .box [slA jnA g.js, slA agA g.ags, iA g.per, iA g.cap, iA g.hold, iA g.lock]), (8, .box [iA s.ph, iA s.gr, slA iA s.en]), (10, .box [iA s.ph, iA s.gr, .ref 1001 0 (((s.en.take i).map (sh1 d)).map iA).length]), (1001, .arr 1 (((s.en.take i).map (sh1 d)).map iA) true)]⟩)
    s.en.length [7, 8, 10, 1001] [1, 2, 7, 8, 9, 10, 36, 37, 38] rfl ⟨0, rfl, by rw [← hnow, ← hle]; rfl⟩ ?_
  rintro n st ⟨i, hi, rfl⟩
  by_cases hlt : i < s.en.length
  · have hy := map_atI iA s.en i (by omega) (by omega)
    rw [show ((i : Int)).toNat = i from rfl] at hy
    have hbe := hen i hlt
    have ht : ((s.en.take (i + 1)).map (sh1 d)).map iA = ((s.en.take i).map (sh1 d)).map iA ++ [iA (sh1 d (s.en.getD i 0))] := by rw [take_getD s.en i hlt]; simp [Inhabited.default]
    change (s.en.map iA)[i]? = some (iA (s.en.getD i 0)) at hy
    generalize s.en.getD i 0 = e at *
    by_cases he : e = -1
    · rw [show sh1 d e = e by simp [sh1, he]] at ht
      (repeat' (first | (refine is_ops ?_; (first | refine x_auto tok rfl rfl ?_ | (refine is_grd ?_; first | refine x_on rfl rfl ?_ | refine x_off rfl rfl rfl rfl ?_ | refine x_gsplit rfl rfl (fun hc => ?_) (fun hc => ?_)) | (refine is_bin ?_; first | refine x_q (stp_cmp_t rfl rfl rfl (by unfold cmpP; omega)) rfl ?_ | refine x_q (stp_cmp_f rfl rfl rfl (by unfold cmpP; omega)) rfl ?_ | refine x_q (stp_cmp rfl rfl rfl) rfl ?_ | refine x_q (stp_add rfl rfl ⟨by omega, by omega⟩) rfl ?_ | refine x_q (stp_sub rfl rfl ⟨by omega, by omega⟩) rfl ?_ | refine x_q (stp_mul rfl rfl ⟨by omega, by omega⟩) rfl ?_ | refine x_q (stp_quo rfl rfl (by assumption) (by omega)) rfl ?_ | refine x_q (stp_rem rfl rfl (by omega)) rfl ?_ | refine x_q (stp_bool2 tok rfl rfl rfl rfl (.inl ⟨rfl, rfl⟩)) rfl ?_ | refine x_q (stp_bool2 tok rfl rfl rfl rfl (.inr ⟨rfl, rfl⟩)) rfl ?_ | refine x_q (stp_eqlNil tok (.inl ⟨rfl, rfl⟩) rfl rfl rfl) rfl ?_ | refine x_q (stp_eqlNil_not tok (.inl ⟨rfl, rfl⟩) rfl rfl rfl rfl) rfl ?_) | (refine is_idx ?_; first | refine x_q (stp_indexAddr_sl tok rfl rfl rfl rfl rfl (by omega) (by first | rfl | assumption) rfl rfl) rfl ?_ | refine x_q (stp_indexAddr_r0 tok rfl rfl rfl rfl rfl rfl (by omega) (by omega) rfl) rfl ?_ | refine x_q (stp_indexAddr_box tok rfl rfl rfl rfl rfl rfl (by omega) (by omega)) rfl ?_) | (refine is_load ?_; first | refine x_q (stp_load_fp1 tok rfl rfl rfl (by first | rfl | assumption) rfl) rfl ?_ | refine x_q (stp_load_fpa tok rfl rfl rfl (by first | rfl | assumption) rfl) rfl ?_ | refine x_q (stp_load_arr1 tok rfl rfl rfl rfl (by first | rfl | assumption) rfl) rfl ?_ | refine x_q (stp_load_arra tok rfl rfl rfl rfl (by first | rfl | assumption) rfl) rfl ?_) | (refine is_fad ?_; first | refine x_q (stp_fieldAddr_arr tok rfl rfl rfl rfl rfl rfl rfl rfl) rfl ?_ | refine x_q (stp_fieldAddr_fp tok rfl (by first | rfl | assumption) rfl rfl rfl rfl rfl rfl) rfl ?_) | (refine is_app ?_; first | refine x_appref tok rfl rfl rfl rfl rfl rfl rfl rfl rfl rfl rfl (by intro y hy; cases hy; rfl) (by first | omega | (simp; done) | (simp; omega)) rfl ?_) | (refine is_un ?_; first | refine x_q (stp_neg rfl ⟨by omega, by omega⟩) rfl ?_) | refine x_autow tok rfl rfl rfl rfl ?_ | (refine is_sto ?_; first | refine x_autos tok rfl rfl rfl ?_) | refine x_nil ?_ | refine x_nilD (by kernel_rfl) ?_)) | (first | refine sim_seq ?_ | refine x_region ?_ | refine x_draw rfl ?_ | refine sim_cond_true rfl ?_ | refine sim_cond_false rfl ?_ | refine sim_cond rfl (fun hc => ?_) (fun hc => ?_) | refine sim_skip ?_ | refine sim_ret ?_ | refine sim_exit ?_ | refine sim_block ?_)))
      exact ⟨n - 1, by omega, i + 1, by omega, by rw [ht]; rfl⟩
    · rw [show sh1 d e = e + d by simp [sh1, he]] at ht
      (repeat' (first | (refine is_ops ?_; (first | refine x_auto tok rfl rfl ?_ | (refine is_grd ?_; first | refine x_on rfl rfl ?_ | refine x_off rfl rfl rfl rfl ?_ | refine x_gsplit rfl rfl (fun hc => ?_) (fun hc => ?_)) | (refine is_bin ?_; first | refine x_q (stp_cmp_t rfl rfl rfl (by unfold cmpP; omega)) rfl ?_ | refine x_q (stp_cmp_f rfl rfl rfl (by unfold cmpP; omega)) rfl ?_ | refine x_q (stp_cmp rfl rfl rfl) rfl ?_ | refine x_q (stp_add rfl rfl ⟨by omega, by omega⟩) rfl ?_ | refine x_q (stp_sub rfl rfl ⟨by omega, by omega⟩) rfl ?_ | refine x_q (stp_mul rfl rfl ⟨by omega, by omega⟩) rfl ?_ | refine x_q (stp_quo rfl rfl (by assumption) (by omega)) rfl ?_ | refine x_q (stp_rem rfl rfl (by omega)) rfl ?_ | refine x_q (stp_bool2 tok rfl rfl rfl rfl (.inl ⟨rfl, rfl⟩)) rfl ?_ | refine x_q (stp_bool2 tok rfl rfl rfl rfl (.inr ⟨rfl, rfl⟩)) rfl ?_ | refine x_q (stp_eqlNil tok (.inl ⟨rfl, rfl⟩) rfl rfl rfl) rfl ?_ | refine x_q (stp_eqlNil_not tok (.inl ⟨rfl, rfl⟩) rfl rfl rfl rfl) rfl ?_) | (refine is_idx ?_; first | refine x_q (stp_indexAddr_sl tok rfl rfl rfl rfl rfl (by omega) (by first | rfl | assumption) rfl rfl) rfl ?_ | refine x_q (stp_indexAddr_r0 tok rfl rfl rfl rfl rfl rfl (by omega) (by omega) rfl) rfl ?_ | refine x_q (stp_indexAddr_box tok rfl rfl rfl rfl rfl rfl (by omega) (by omega)) rfl ?_) | (refine is_load ?_; first | refine x_q (stp_load_fp1 tok rfl rfl rfl (by first | rfl | assumption) rfl) rfl ?_ | refine x_q (stp_load_fpa tok rfl rfl rfl (by first | rfl | assumption) rfl) rfl ?_ | refine x_q (stp_load_arr1 tok rfl rfl rfl rfl (by first | rfl | assumption) rfl) rfl ?_ | refine x_q (stp_load_arra tok rfl rfl rfl rfl (by first | rfl | assumption) rfl) rfl ?_) | (refine is_fad ?_; first | refine x_q (stp_fieldAddr_arr tok rfl rfl rfl rfl rfl rfl rfl rfl) rfl ?_ | refine x_q (stp_fieldAddr_fp tok rfl (by first | rfl | assumption) rfl rfl rfl rfl rfl rfl) rfl ?_) | (refine is_app ?_; first | refine x_appref tok rfl rfl rfl rfl rfl rfl rfl rfl rfl rfl rfl (by intro y hy; cases hy; rfl) (by first | omega | (simp; done) | (simp; omega)) rfl ?_) | (refine is_un ?_; first | refine x_q (stp_neg rfl ⟨by omega, by omega⟩) rfl ?_) | refine x_autow tok rfl rfl rfl rfl ?_ | (refine is_sto ?_; first | refine x_autos tok rfl rfl rfl ?_) | refine x_nil ?_ | refine x_nilD (by kernel_rfl) ?_)) | (first | refine sim_seq ?_ | refine x_region ?_ | refine x_draw rfl ?_ | refine sim_cond_true rfl ?_ | refine sim_cond_false rfl ?_ | refine sim_cond rfl (fun hc => ?_) (fun hc => ?_) | refine sim_skip ?_ | refine sim_ret ?_ | refine sim_exit ?_ | refine sim_block ?_)))
      exact ⟨n - 1, by omega, i + 1, by omega, by rw [ht]; rfl⟩
  obtain rfl : i = s.en.length := by omega
  (repeat' (first | (refine is_ops ?_; (first | refine x_auto tok rfl rfl ?_ | (refine is_grd ?_; first | refine x_on rfl rfl ?_ | refine x_off rfl rfl rfl rfl ?_ | refine x_gsplit rfl rfl (fun hc => ?_) (fun hc => ?_)) | (refine is_bin ?_; first | refine x_q (stp_cmp_t rfl rfl rfl (by unfold cmpP; omega)) rfl ?_ | refine x_q (stp_cmp_f rfl rfl rfl (by unfold cmpP; omega)) rfl ?_ | refine x_q (stp_cmp rfl rfl rfl) rfl ?_ | refine x_q (stp_add rfl rfl ⟨by omega, by omega⟩) rfl ?_ | refine x_q (stp_sub rfl rfl ⟨by omega, by omega⟩) rfl ?_ | refine x_q (stp_mul rfl rfl ⟨by omega, by omega⟩) rfl ?_ | refine x_q (stp_quo rfl rfl (by assumption) (by omega)) rfl ?_ | refine x_q (stp_rem rfl rfl (by omega)) rfl ?_ | refine x_q (stp_bool2 tok rfl rfl rfl rfl (.inl ⟨rfl, rfl⟩)) rfl ?_ | refine x_q (stp_bool2 tok rfl rfl rfl rfl (.inr ⟨rfl, rfl⟩)) rfl ?_ | refine x_q (stp_eqlNil tok (.inl ⟨rfl, rfl⟩) rfl rfl rfl) rfl ?_ | refine x_q (stp_eqlNil_not tok (.inl ⟨rfl, rfl⟩) rfl rfl rfl rfl) rfl ?_) | (refine is_idx ?_; first | refine x_q (stp_indexAddr_sl tok rfl rfl rfl rfl rfl (by omega) (by first | rfl | assumption) rfl rfl) rfl ?_ | refine x_q (stp_indexAddr_r0 tok rfl rfl rfl rfl rfl rfl (by omega) (by omega) rfl) rfl ?_ | refine x_q (stp_indexAddr_box tok rfl rfl rfl rfl rfl rfl (by omega) (by omega)) rfl ?_) | (refine is_load ?_; first | refine x_q (stp_load_fp1 tok rfl rfl rfl (by first | rfl | assumption) rfl) rfl ?_ | refine x_q (stp_load_fpa tok rfl rfl rfl (by first | rfl | assumption) rfl) rfl ?_ | refine x_q (stp_load_arr1 tok rfl rfl rfl rfl (by first | rfl | assumption) rfl) rfl ?_ | refine x_q (stp_load_arra tok rfl rfl rfl rfl (by first | rfl | assumption) rfl) rfl ?_) | (refine is_fad ?_; first | refine x_q (stp_fieldAddr_arr tok rfl rfl rfl rfl rfl rfl rfl rfl) rfl ?_ | refine x_q (stp_fieldAddr_fp tok rfl (by first | rfl | assumption) rfl rfl rfl rfl rfl rfl) rfl ?_) | (refine is_app ?_; first | refine x_appref tok rfl rfl rfl rfl rfl rfl rfl rfl rfl rfl rfl (by intro y hy; cases hy; rfl) (by first | omega | (simp; done) | (simp; omega)) rfl ?_) | (refine is_un ?_; first | refine x_q (stp_neg rfl ⟨by omega, by omega⟩) rfl ?_) | refine x_autow tok rfl rfl rfl rfl ?_ | (refine is_sto ?_; first | refine x_autos tok rfl rfl rfl ?_) | refine x_nil ?_ | refine x_nilD (by kernel_rfl) ?_)) | (first | refine sim_seq ?_ | refine x_region ?_ | refine x_draw rfl ?_ | refine sim_cond_true rfl ?_ | refine sim_cond_false rfl ?_ | refine sim_cond rfl (fun hc => ?_) (fun hc => ?_) | refine sim_skip ?_ | refine sim_ret ?_ | refine sim_exit ?_ | refine sim_block ?_)))
  refine sim_restr (st' := ⟨[(1, iA now), (2, iA d), (7, .ptr 7 0 0), (8, .ptr 8 0 0), (9, slA clA l), (10, .ptr 10 0 0), (13, .s (.slice none 0 0)), (54, slA clA l), (55, iA l.length), (56, iA 0)],
      [(7, .box [slA jnA g.js, slA agA g.ags, iA g.per, iA g.cap, iA g.hold, iA g.lock]), (8, .box [iA s.ph, iA s.gr, slA iA s.en]), (10, .box [iA s.ph, iA s.gr, slA iA (s.en.map (sh1 d))])]⟩) [7, 8, 10] [1, 2, 7, 8, 9, 10, 13, 54, 55, 56] rfl (by
    have e1 : slA iA (s.en.map (sh1 d)) = .sl false (List.take (((s.en.take s.en.length).map (sh1 d)).map iA).length (List.drop 0 (((s.en.take s.en.length).map (sh1 d)).map iA))) := by
      rw [List.take_length (l := s.en), List.drop_zero, List.take_length]
      rfl
    rw [e1, ← hll]
    rfl) ?_
  refine sim_virt 13 1002 5 rfl rfl rfl ?_
  refine sim_loop_r (fun n st => ∃ i : Nat, n + i = l.length ∧ st = ⟨[(1, iA now), (2, iA d), (7, .ptr 7 0 0), (8, .ptr 8 0 0), (9, slA clA l), (10, .ptr 10 0 0), (13, .ref 1002 0 (((l.take i).map (shC d)).map clA).length), (54, slA clA l), (55, iA l.length), (56, iA i)],
      [(7, .box [slA jnA g.js, slA agA g.ags, iA g.per, iA g.cap, iA g.hold, iA g.lock]), (8, .box [iA s.ph, iA s.gr, slA iA s.en]), (10, .box [iA s.ph, iA s.gr, slA iA (s.en.map (sh1 d))]), (1002, .arr 5 (((l.take i).map (shC d)).map clA) true)]⟩)
    l.length [7, 8, 10, 1002] [1, 2, 7, 8, 9, 10, 13, 54, 55, 56] rfl ⟨0, rfl, rfl⟩ ?_
  clear n hi hlt
  rintro n st ⟨i, hi, rfl⟩
  by_cases hlt : i < l.length
  · have hy := map_atI clA l i (by omega) (by omega)
    rw [show ((i : Int)).toNat = i from rfl] at hy
    have hbe := hci i hlt
    have ht : ((l.take (i + 1)).map (shC d)).map clA = ((l.take i).map (shC d)).map clA ++ [clA (shC d (l.getD i default))] := by rw [take_getD l i hlt]; simp
    generalize l.getD i default = x at *
    clear b1 b2 cV cV2 cK cK2 cL cL2 eV eK eL
    (repeat' (first | (refine is_ops ?_; (first | refine x_auto tok rfl rfl ?_ | (refine is_grd ?_; first | refine x_on rfl rfl ?_ | refine x_off rfl rfl rfl rfl ?_ | refine x_gsplit rfl rfl (fun hc => ?_) (fun hc => ?_)) | (refine is_bin ?_; first | refine x_q (stp_cmp_t rfl rfl rfl (by unfold cmpP; omega)) rfl ?_ | refine x_q (stp_cmp_f rfl rfl rfl (by unfold cmpP; omega)) rfl ?_ | refine x_q (stp_cmp rfl rfl rfl) rfl ?_ | refine x_q (stp_add rfl rfl ⟨by omega, by omega⟩) rfl ?_ | refine x_q (stp_sub rfl rfl ⟨by omega, by omega⟩) rfl ?_ | refine x_q (stp_mul rfl rfl ⟨by omega, by omega⟩) rfl ?_ | refine x_q (stp_quo rfl rfl (by assumption) (by omega)) rfl ?_ | refine x_q (stp_rem rfl rfl (by omega)) rfl ?_ | refine x_q (stp_bool2 tok rfl rfl rfl rfl (.inl ⟨rfl, rfl⟩)) rfl ?_ | refine x_q (stp_bool2 tok rfl rfl rfl rfl (.inr ⟨rfl, rfl⟩)) rfl ?_ | refine x_q (stp_eqlNil tok (.inl ⟨rfl, rfl⟩) rfl rfl rfl) rfl ?_ | refine x_q (stp_eqlNil_not tok (.inl ⟨rfl, rfl⟩) rfl rfl rfl rfl) rfl ?_) | (refine is_idx ?_; first | refine x_q (stp_indexAddr_sl tok rfl rfl rfl rfl rfl (by omega) (by first | rfl | assumption) rfl rfl) rfl ?_ | refine x_q (stp_indexAddr_r0 tok rfl rfl rfl rfl rfl rfl (by omega) (by omega) rfl) rfl ?_ | refine x_q (stp_indexAddr_box tok rfl rfl rfl rfl rfl rfl (by omega) (by omega)) rfl ?_) | (refine is_load ?_; first | refine x_q (stp_load_fp1 tok rfl rfl rfl (by first | rfl | assumption) rfl) rfl ?_ | refine x_q (stp_load_fpa tok rfl rfl rfl (by first | rfl | assumption) rfl) rfl ?_ | refine x_q (stp_load_arr1 tok rfl rfl rfl rfl (by first | rfl | assumption) rfl) rfl ?_ | refine x_q (stp_load_arra tok rfl rfl rfl rfl (by first | rfl | assumption) rfl) rfl ?_) | (refine is_fad ?_; first | refine x_q (stp_fieldAddr_arr tok rfl rfl rfl rfl rfl rfl rfl rfl) rfl ?_ | refine x_q (stp_fieldAddr_fp tok rfl (by first | rfl | assumption) rfl rfl rfl rfl rfl rfl) rfl ?_) | (refine is_app ?_; first | refine x_appref tok rfl rfl rfl rfl rfl rfl rfl rfl rfl rfl rfl (by intro y hy; cases hy; rfl) (by first | omega | (simp; done) | (simp; omega)) rfl ?_) | (refine is_un ?_; first | refine x_q (stp_neg rfl ⟨by omega, by omega⟩) rfl ?_) | refine x_autow tok rfl rfl rfl rfl ?_ | (refine is_sto ?_; first | refine x_autos tok rfl rfl rfl ?_) | refine x_nil ?_ | refine x_nilD (by kernel_rfl) ?_)) | (first | refine sim_seq ?_ | refine x_region ?_ | refine x_draw rfl ?_ | refine sim_cond_true rfl ?_ | refine sim_cond_false rfl ?_ | refine sim_cond rfl (fun hc => ?_) (fun hc => ?_) | refine sim_skip ?_ | refine sim_ret ?_ | refine sim_exit ?_ | refine sim_block ?_)))
    exact ⟨n - 1, by omega, i + 1, by omega, by rw [ht]; rfl⟩
  obtain rfl : i = l.length := by omega
  (repeat' (first | (refine is_ops ?_; (first | refine x_auto tok rfl rfl ?_ | (refine is_grd ?_; first | refine x_on rfl rfl ?_ | refine x_off rfl rfl rfl rfl ?_ | refine x_gsplit rfl rfl (fun hc => ?_) (fun hc => ?_)) | (refine is_bin ?_; first | refine x_q (stp_cmp_t rfl rfl rfl (by unfold cmpP; omega)) rfl ?_ | refine x_q (stp_cmp_f rfl rfl rfl (by unfold cmpP; omega)) rfl ?_ | refine x_q (stp_cmp rfl rfl rfl) rfl ?_ | refine x_q (stp_add rfl rfl ⟨by omega, by omega⟩) rfl ?_ | refine x_q (stp_sub rfl rfl ⟨by omega, by omega⟩) rfl ?_ | refine x_q (stp_mul rfl rfl ⟨by omega, by omega⟩) rfl ?_ | refine x_q (stp_quo rfl rfl (by assumption) (by omega)) rfl ?_ | refine x_q (stp_rem rfl rfl (by omega)) rfl ?_ | refine x_q (stp_bool2 tok rfl rfl rfl rfl (.inl ⟨rfl, rfl⟩)) rfl ?_ | refine x_q (stp_bool2 tok rfl rfl rfl rfl (.inr ⟨rfl, rfl⟩)) rfl ?_ | refine x_q (stp_eqlNil tok (.inl ⟨rfl, rfl⟩) rfl rfl rfl) rfl ?_ | refine x_q (stp_eqlNil_not tok (.inl ⟨rfl, rfl⟩) rfl rfl rfl rfl) rfl ?_) | (refine is_idx ?_; first | refine x_q (stp_indexAddr_sl tok rfl rfl rfl rfl rfl (by omega) (by first | rfl | assumption) rfl rfl) rfl ?_ | refine x_q (stp_indexAddr_r0 tok rfl rfl rfl rfl rfl rfl (by omega) (by omega) rfl) rfl ?_ | refine x_q (stp_indexAddr_box tok rfl rfl rfl rfl rfl rfl (by omega) (by omega)) rfl ?_) | (refine is_load ?_; first | refine x_q (stp_load_fp1 tok rfl rfl rfl (by first | rfl | assumption) rfl) rfl ?_ | refine x_q (stp_load_fpa tok rfl rfl rfl (by first | rfl | assumption) rfl) rfl ?_ | refine x_q (stp_load_arr1 tok rfl rfl rfl rfl (by first | rfl | assumption) rfl) rfl ?_ | refine x_q (stp_load_arra tok rfl rfl rfl rfl (by first | rfl | assumption) rfl) rfl ?_) | (refine is_fad ?_; first | refine x_q (stp_fieldAddr_arr tok rfl rfl rfl rfl rfl rfl rfl rfl) rfl ?_ | refine x_q (stp_fieldAddr_fp tok rfl (by first | rfl | assumption) rfl rfl rfl rfl rfl rfl) rfl ?_) | (refine is_app ?_; first | refine x_appref tok rfl rfl rfl rfl rfl rfl rfl rfl rfl rfl rfl (by intro y hy; cases hy; rfl) (by first | omega | (simp; done) | (simp; omega)) rfl ?_) | (refine is_un ?_; first | refine x_q (stp_neg rfl ⟨by omega, by omega⟩) rfl ?_) | refine x_autow tok rfl rfl rfl rfl ?_ | (refine is_sto ?_; first | refine x_autos tok rfl rfl rfl ?_) | refine x_nil ?_ | refine x_nilD (by kernel_rfl) ?_)) | (first | refine sim_seq ?_ | refine x_region ?_ | refine x_draw rfl ?_ | refine sim_cond_true rfl ?_ | refine sim_cond_false rfl ?_ | refine sim_cond rfl (fun hc => ?_) (fun hc => ?_) | refine sim_skip ?_ | refine sim_ret ?_ | refine sim_exit ?_ | refine sim_block ?_)))
  refine sim_restr (st' := ⟨[(1, iA now), (2, iA d), (7, .ptr 7 0 0), (8, .ptr 8 0 0), (9, slA clA l), (10, .ptr 10 0 0), (13, slA clA (l.map (shC d))), (70, slA clA l), (71, iA l.length), (72, iA 0)],
      [(7, .box [slA jnA g.js, slA agA g.ags, iA g.per, iA g.cap, iA g.hold, iA g.lock]), (8, .box [iA s.ph, iA s.gr, slA iA s.en]), (10, .box [iA s.ph, iA s.gr, slA iA (s.en.map (sh1 d))])]⟩) [7, 8, 10] [1, 2, 7, 8, 9, 10, 13, 70, 71, 72] rfl (by
    have e1 : slA clA (l.map (shC d)) = .sl false (List.take (((l.take l.length).map (shC d)).map clA).length (List.drop 0 (((l.take l.length).map (shC d)).map clA))) := by
      rw [List.take_length (l := l), List.drop_zero, List.take_length]
      rfl
    rw [e1, ← hll]
    rfl) ?_
  refine sim_loop_r (fun n st => ∃ i : Nat, n + i = l.length ∧ st = ⟨[(1, iA now), (2, iA d), (7, .ptr 7 0 0), (8, .ptr 8 0 0), (9, slA clA l), (10, .ptr 10 0 0), (13, slA clA (l.map (shC d))), (70, slA clA l), (71, iA l.length), (72, iA i)],
      [(7, .box [slA jnA g.js, slA agA g.ags, iA g.per, iA g.cap, iA g.hold, iA g.lock]), (8, .box [iA s.ph, iA s.gr, slA iA s.en]), (10, .box [iA s.ph, iA s.gr, slA iA (s.en.map (sh1 d))])]⟩)
    l.length [7, 8, 10] [1, 2, 7, 8, 9, 10, 13, 70, 71, 72] rfl ⟨0, rfl, rfl⟩ ?_
  clear n hi hlt
  rintro n st ⟨i, hi, rfl⟩
  have hlm : ((l.map (shC d)).map clA).length = l.length := by simp
  by_cases hlt : i < l.length
  · have hy := map_atI clA l i (by omega) (by omega)
    have hz := map_atI clA (l.map (shC d)) i (by omega) (by simp; omega)
    rw [show ((i : Int)).toNat = i from rfl] at hy hz
    rw [shC_at d l i hlt] at hz
    have c1 := cV i hlt
    have c2 := cV2 i hlt
    have c3 := cK i hlt
    have c4 := cK2 i hlt
    rw [eV i hlt] at c2
    rw [eK i hlt] at c4
    have cL := fun j hj => cL i j hlt hj
    have cL2 := fun j hj => cL2 i j hlt hj
    have eL := fun j hj => eL i j hlt hj
    generalize lckF g.lock s.en now (l.getD i default).ph (l.getD i default).k = vk at *
    generalize levF g.per g.cap s.en now (l.getD i default).ph (l.getD i default).k (l.getD i default).si = vl at *
    generalize l.getD i default = x at *
    clear b1 b2 cV cV2 cK cK2 eV eK
    cases vk <;> (
      (repeat' (first | (refine is_ops ?_; first | refine x_auto tok rfl rfl ?_ | (refine is_call ?_; (first | (refine is_fn 26 ?_; first | refine x_q (stp_call (c1) rfl rfl rfl rfl rfl) rfl ?_ | refine x_w (stp_call (c1) rfl rfl rfl rfl rfl) rfl rfl rfl ?_) | (refine is_fn 26 ?_; first | refine x_q (stp_call (c2) rfl rfl rfl rfl rfl) rfl ?_ | refine x_w (stp_call (c2) rfl rfl rfl rfl rfl) rfl rfl rfl ?_) | (refine is_fn 31 ?_; first | refine x_q (stp_call (c3) rfl rfl rfl rfl rfl) rfl ?_ | refine x_w (stp_call (c3) rfl rfl rfl rfl rfl) rfl rfl rfl ?_) | (refine is_fn 31 ?_; first | refine x_q (stp_call (c4) rfl rfl rfl rfl rfl) rfl ?_ | refine x_w (stp_call (c4) rfl rfl rfl rfl rfl) rfl rfl rfl ?_))) | (refine is_grd ?_; first | refine x_on rfl rfl ?_ | refine x_off rfl rfl rfl rfl ?_ | refine x_gsplit rfl rfl (fun hc => ?_) (fun hc => ?_)) | (refine is_bin ?_; first | refine x_q (stp_cmp_t rfl rfl rfl (by unfold cmpP; omega)) rfl ?_ | refine x_q (stp_cmp_f rfl rfl rfl (by unfold cmpP; omega)) rfl ?_ | refine x_q (stp_cmp rfl rfl rfl) rfl ?_ | refine x_q (stp_add rfl rfl ⟨by omega, by omega⟩) rfl ?_ | refine x_q (stp_sub rfl rfl ⟨by omega, by omega⟩) rfl ?_ | refine x_q (stp_mul rfl rfl ⟨by omega, by omega⟩) rfl ?_ | refine x_q (stp_quo rfl rfl (by assumption) (by omega)) rfl ?_ | refine x_q (stp_rem rfl rfl (by omega)) rfl ?_ | refine x_q (stp_bool2 tok rfl rfl rfl rfl (.inl ⟨rfl, rfl⟩)) rfl ?_ | refine x_q (stp_bool2 tok rfl rfl rfl rfl (.inr ⟨rfl, rfl⟩)) rfl ?_ | refine x_q (stp_eqlNil tok (.inl ⟨rfl, rfl⟩) rfl rfl rfl) rfl ?_ | refine x_q (stp_eqlNil_not tok (.inl ⟨rfl, rfl⟩) rfl rfl rfl rfl) rfl ?_) | (refine is_idx ?_; first | refine x_q (stp_indexAddr_sl tok rfl rfl rfl rfl rfl (by omega) (by first | rfl | assumption) rfl rfl) rfl ?_ | refine x_q (stp_indexAddr_r0 tok rfl rfl rfl rfl rfl rfl (by omega) (by omega) rfl) rfl ?_ | refine x_q (stp_indexAddr_box tok rfl rfl rfl rfl rfl rfl (by omega) (by omega)) rfl ?_) | (refine is_load ?_; first | refine x_q (stp_load_fp1 tok rfl rfl rfl (by first | rfl | assumption) rfl) rfl ?_ | refine x_q (stp_load_fpa tok rfl rfl rfl (by first | rfl | assumption) rfl) rfl ?_ | refine x_q (stp_load_arr1 tok rfl rfl rfl rfl (by first | rfl | assumption) rfl) rfl ?_ | refine x_q (stp_load_arra tok rfl rfl rfl rfl (by first | rfl | assumption) rfl) rfl ?_) | (refine is_fad ?_; first | refine x_q (stp_fieldAddr_arr tok rfl rfl rfl rfl rfl rfl rfl rfl) rfl ?_ | refine x_q (stp_fieldAddr_fp tok rfl (by first | rfl | assumption) rfl rfl rfl rfl rfl rfl) rfl ?_) | (refine is_app ?_; first | refine x_appref tok rfl rfl rfl rfl rfl rfl rfl rfl rfl rfl rfl (by intro y hy; cases hy; rfl) (by first | omega | (simp; done) | (simp; omega)) rfl ?_) | (refine is_un ?_; first | refine x_q (stp_neg rfl ⟨by omega, by omega⟩) rfl ?_) | refine x_autow tok rfl rfl rfl rfl ?_ | (refine is_sto ?_; first | refine x_autos tok rfl rfl rfl ?_) | refine x_nil ?_ | refine x_nilD (by kernel_rfl) ?_) | (first | refine sim_seq ?_ | refine x_region ?_ | refine x_draw rfl ?_ | refine sim_cond_true rfl ?_ | refine sim_cond_false rfl ?_ | refine sim_cond rfl (fun hc => ?_) (fun hc => ?_) | refine sim_skip ?_ | refine sim_ret ?_ | refine sim_exit ?_ | refine sim_block ?_)))
      refine sim_loop_r (fun n st => ∃ i2 : Nat, n + i2 = l.length ∧ st = ⟨[(1, iA now), (2, iA d), (7, .ptr 7 0 0), (8, .ptr 8 0 0), (9, slA clA l), (10, .ptr 10 0 0), (13, slA clA (l.map (shC d))), (16, iA i), (70, slA clA l), (71, iA l.length), (72, iA i), (115, slA clA l), (116, iA l.length), (117, iA i2)],
          [(7, .box [slA jnA g.js, slA agA g.ags, iA g.per, iA g.cap, iA g.hold, iA g.lock]), (8, .box [iA s.ph, iA s.gr, slA iA s.en]), (10, .box [iA s.ph, iA s.gr, slA iA (s.en.map (sh1 d))])]⟩)
        l.length [7, 8, 10] [1, 2, 7, 8, 9, 10, 13, 16, 70, 71, 72, 115, 116, 117] rfl ⟨0, rfl, by rw [← hll]; rfl⟩ ?_
      rintro n2 st ⟨i2, hi2, rfl⟩
      by_cases hlt2 : i2 < l.length
      · have hy2 := map_atI clA l i2 (by omega) (by omega)
        have hz2 := map_atI clA (l.map (shC d)) i2 (by omega) (by simp; omega)
        rw [show ((i2 : Int)).toNat = i2 from rfl] at hy2 hz2
        rw [shC_at d l i2 hlt2] at hz2
        have c5 := cL i2 hlt2
        have c6 := cL2 i2 hlt2
        rw [eL i2 hlt2] at c6
        generalize l.getD i2 default = y at *
        cases hv : lessF g.per g.cap s.en now x y <;> rw [hv] at c5 c6 <;> (
          (repeat' (first | (refine is_ops ?_; first | refine x_auto tok rfl rfl ?_ | (refine is_call ?_; (first | (refine is_fn 23 ?_; first | refine x_q (stp_call (c5) rfl rfl rfl rfl rfl) rfl ?_ | refine x_w (stp_call (c5) rfl rfl rfl rfl rfl) rfl rfl rfl ?_) | (refine is_fn 23 ?_; first | refine x_q (stp_call (c6) rfl rfl rfl rfl rfl) rfl ?_ | refine x_w (stp_call (c6) rfl rfl rfl rfl rfl) rfl rfl rfl ?_))) | (refine is_grd ?_; first | refine x_on rfl rfl ?_ | refine x_off rfl rfl rfl rfl ?_ | refine x_gsplit rfl rfl (fun hc => ?_) (fun hc => ?_)) | (refine is_bin ?_; first | refine x_q (stp_cmp_t rfl rfl rfl (by unfold cmpP; omega)) rfl ?_ | refine x_q (stp_cmp_f rfl rfl rfl (by unfold cmpP; omega)) rfl ?_ | refine x_q (stp_cmp rfl rfl rfl) rfl ?_ | refine x_q (stp_add rfl rfl ⟨by omega, by omega⟩) rfl ?_ | refine x_q (stp_sub rfl rfl ⟨by omega, by omega⟩) rfl ?_ | refine x_q (stp_mul rfl rfl ⟨by omega, by omega⟩) rfl ?_ | refine x_q (stp_quo rfl rfl (by assumption) (by omega)) rfl ?_ | refine x_q (stp_rem rfl rfl (by omega)) rfl ?_ | refine x_q (stp_bool2 tok rfl rfl rfl rfl (.inl ⟨rfl, rfl⟩)) rfl ?_ | refine x_q (stp_bool2 tok rfl rfl rfl rfl (.inr ⟨rfl, rfl⟩)) rfl ?_ | refine x_q (stp_eqlNil tok (.inl ⟨rfl, rfl⟩) rfl rfl rfl) rfl ?_ | refine x_q (stp_eqlNil_not tok (.inl ⟨rfl, rfl⟩) rfl rfl rfl rfl) rfl ?_) | (refine is_idx ?_; first | refine x_q (stp_indexAddr_sl tok rfl rfl rfl rfl rfl (by omega) (by first | rfl | assumption) rfl rfl) rfl ?_ | refine x_q (stp_indexAddr_r0 tok rfl rfl rfl rfl rfl rfl (by omega) (by omega) rfl) rfl ?_ | refine x_q (stp_indexAddr_box tok rfl rfl rfl rfl rfl rfl (by omega) (by omega)) rfl ?_) | (refine is_load ?_; first | refine x_q (stp_load_fp1 tok rfl rfl rfl (by first | rfl | assumption) rfl) rfl ?_ | refine x_q (stp_load_fpa tok rfl rfl rfl (by first | rfl | assumption) rfl) rfl ?_ | refine x_q (stp_load_arr1 tok rfl rfl rfl rfl (by first | rfl | assumption) rfl) rfl ?_ | refine x_q (stp_load_arra tok rfl rfl rfl rfl (by first | rfl | assumption) rfl) rfl ?_) | (refine is_fad ?_; first | refine x_q (stp_fieldAddr_arr tok rfl rfl rfl rfl rfl rfl rfl rfl) rfl ?_ | refine x_q (stp_fieldAddr_fp tok rfl (by first | rfl | assumption) rfl rfl rfl rfl rfl rfl) rfl ?_) | (refine is_app ?_; first | refine x_appref tok rfl rfl rfl rfl rfl rfl rfl rfl rfl rfl rfl (by intro y hy; cases hy; rfl) (by first | omega | (simp; done) | (simp; omega)) rfl ?_) | (refine is_un ?_; first | refine x_q (stp_neg rfl ⟨by omega, by omega⟩) rfl ?_) | refine x_autow tok rfl rfl rfl rfl ?_ | (refine is_sto ?_; first | refine x_autos tok rfl rfl rfl ?_) | refine x_nil ?_ | refine x_nilD (by kernel_rfl) ?_) | (first | refine sim_seq ?_ | refine x_region ?_ | refine x_draw rfl ?_ | refine sim_cond_true rfl ?_ | refine sim_cond_false rfl ?_ | refine sim_cond rfl (fun hc => ?_) (fun hc => ?_) | refine sim_skip ?_ | refine sim_ret ?_ | refine sim_exit ?_ | refine sim_block ?_)))
          exact ⟨n2 - 1, by omega, i2 + 1, by omega, rfl⟩)
      · (repeat' (first | (refine is_ops ?_; (first | refine x_auto tok rfl rfl ?_ | (refine is_grd ?_; first | refine x_on rfl rfl ?_ | refine x_off rfl rfl rfl rfl ?_ | refine x_gsplit rfl rfl (fun hc => ?_) (fun hc => ?_)) | (refine is_bin ?_; first | refine x_q (stp_cmp_t rfl rfl rfl (by unfold cmpP; omega)) rfl ?_ | refine x_q (stp_cmp_f rfl rfl rfl (by unfold cmpP; omega)) rfl ?_ | refine x_q (stp_cmp rfl rfl rfl) rfl ?_ | refine x_q (stp_add rfl rfl ⟨by omega, by omega⟩) rfl ?_ | refine x_q (stp_sub rfl rfl ⟨by omega, by omega⟩) rfl ?_ | refine x_q (stp_mul rfl rfl ⟨by omega, by omega⟩) rfl ?_ | refine x_q (stp_quo rfl rfl (by assumption) (by omega)) rfl ?_ | refine x_q (stp_rem rfl rfl (by omega)) rfl ?_ | refine x_q (stp_bool2 tok rfl rfl rfl rfl (.inl ⟨rfl, rfl⟩)) rfl ?_ | refine x_q (stp_bool2 tok rfl rfl rfl rfl (.inr ⟨rfl, rfl⟩)) rfl ?_ | refine x_q (stp_eqlNil tok (.inl ⟨rfl, rfl⟩) rfl rfl rfl) rfl ?_ | refine x_q (stp_eqlNil_not tok (.inl ⟨rfl, rfl⟩) rfl rfl rfl rfl) rfl ?_) | (refine is_idx ?_; first | refine x_q (stp_indexAddr_sl tok rfl rfl rfl rfl rfl (by omega) (by first | rfl | assumption) rfl rfl) rfl ?_ | refine x_q (stp_indexAddr_r0 tok rfl rfl rfl rfl rfl rfl (by omega) (by omega) rfl) rfl ?_ | refine x_q (stp_indexAddr_box tok rfl rfl rfl rfl rfl rfl (by omega) (by omega)) rfl ?_) | (refine is_load ?_; first | refine x_q (stp_load_fp1 tok rfl rfl rfl (by first | rfl | assumption) rfl) rfl ?_ | refine x_q (stp_load_fpa tok rfl rfl rfl (by first | rfl | assumption) rfl) rfl ?_ | refine x_q (stp_load_arr1 tok rfl rfl rfl rfl (by first | rfl | assumption) rfl) rfl ?_ | refine x_q (stp_load_arra tok rfl rfl rfl rfl (by first | rfl | assumption) rfl) rfl ?_) | (refine is_fad ?_; first | refine x_q (stp_fieldAddr_arr tok rfl rfl rfl rfl rfl rfl rfl rfl) rfl ?_ | refine x_q (stp_fieldAddr_fp tok rfl (by first | rfl | assumption) rfl rfl rfl rfl rfl rfl) rfl ?_) | (refine is_app ?_; first | refine x_appref tok rfl rfl rfl rfl rfl rfl rfl rfl rfl rfl rfl (by intro y hy; cases hy; rfl) (by first | omega | (simp; done) | (simp; omega)) rfl ?_) | (refine is_un ?_; first | refine x_q (stp_neg rfl ⟨by omega, by omega⟩) rfl ?_) | refine x_autow tok rfl rfl rfl rfl ?_ | (refine is_sto ?_; first | refine x_autos tok rfl rfl rfl ?_) | refine x_nil ?_ | refine x_nilD (by kernel_rfl) ?_)) | (first | refine sim_seq ?_ | refine x_region ?_ | refine x_draw rfl ?_ | refine sim_cond_true rfl ?_ | refine sim_cond_false rfl ?_ | refine sim_cond rfl (fun hc => ?_) (fun hc => ?_) | refine sim_skip ?_ | refine sim_ret ?_ | refine sim_exit ?_ | refine sim_block ?_)))
        exact ⟨n - 1, by omega, i + 1, by omega, rfl⟩)
  obtain rfl : i = l.length := by omega
  (repeat' (first | (refine is_ops ?_; first | refine x_auto tok rfl rfl ?_ | (refine is_call ?_; (first | (refine is_fn 34 ?_; first | refine x_q (stp_call (b1) rfl rfl rfl rfl rfl) rfl ?_ | refine x_w (stp_call (b1) rfl rfl rfl rfl rfl) rfl rfl rfl ?_) | (refine is_fn 34 ?_; first | refine x_q (stp_call (b2) rfl rfl rfl rfl rfl) rfl ?_ | refine x_w (stp_call (b2) rfl rfl rfl rfl rfl) rfl rfl rfl ?_) | (refine is_fn 25 ?_; first | refine x_q (stp_call (awake20_c) rfl rfl rfl rfl rfl) rfl ?_ | refine x_w (stp_call (awake20_c) rfl rfl rfl rfl rfl) rfl rfl rfl ?_))) | (refine is_grd ?_; first | refine x_on rfl rfl ?_ | refine x_off rfl rfl rfl rfl ?_ | refine x_gsplit rfl rfl (fun hc => ?_) (fun hc => ?_)) | (refine is_bin ?_; first | refine x_q (stp_cmp_t rfl rfl rfl (by unfold cmpP; omega)) rfl ?_ | refine x_q (stp_cmp_f rfl rfl rfl (by unfold cmpP; omega)) rfl ?_ | refine x_q (stp_cmp rfl rfl rfl) rfl ?_ | refine x_q (stp_add rfl rfl ⟨by omega, by omega⟩) rfl ?_ | refine x_q (stp_sub rfl rfl ⟨by omega, by omega⟩) rfl ?_ | refine x_q (stp_mul rfl rfl ⟨by omega, by omega⟩) rfl ?_ | refine x_q (stp_quo rfl rfl (by assumption) (by omega)) rfl ?_ | refine x_q (stp_rem rfl rfl (by omega)) rfl ?_ | refine x_q (stp_bool2 tok rfl rfl rfl rfl (.inl ⟨rfl, rfl⟩)) rfl ?_ | refine x_q (stp_bool2 tok rfl rfl rfl rfl (.inr ⟨rfl, rfl⟩)) rfl ?_ | refine x_q (stp_eqlNil tok (.inl ⟨rfl, rfl⟩) rfl rfl rfl) rfl ?_ | refine x_q (stp_eqlNil_not tok (.inl ⟨rfl, rfl⟩) rfl rfl rfl rfl) rfl ?_) | (refine is_idx ?_; first | refine x_q (stp_indexAddr_sl tok rfl rfl rfl rfl rfl (by omega) (by first | rfl | assumption) rfl rfl) rfl ?_ | refine x_q (stp_indexAddr_r0 tok rfl rfl rfl rfl rfl rfl (by omega) (by omega) rfl) rfl ?_ | refine x_q (stp_indexAddr_box tok rfl rfl rfl rfl rfl rfl (by omega) (by omega)) rfl ?_) | (refine is_load ?_; first | refine x_q (stp_load_fp1 tok rfl rfl rfl (by first | rfl | assumption) rfl) rfl ?_ | refine x_q (stp_load_fpa tok rfl rfl rfl (by first | rfl | assumption) rfl) rfl ?_ | refine x_q (stp_load_arr1 tok rfl rfl rfl rfl (by first | rfl | assumption) rfl) rfl ?_ | refine x_q (stp_load_arra tok rfl rfl rfl rfl (by first | rfl | assumption) rfl) rfl ?_) | (refine is_fad ?_; first | refine x_q (stp_fieldAddr_arr tok rfl rfl rfl rfl rfl rfl rfl rfl) rfl ?_ | refine x_q (stp_fieldAddr_fp tok rfl (by first | rfl | assumption) rfl rfl rfl rfl rfl rfl) rfl ?_) | (refine is_app ?_; first | refine x_appref tok rfl rfl rfl rfl rfl rfl rfl rfl rfl rfl rfl (by intro y hy; cases hy; rfl) (by first | omega | (simp; done) | (simp; omega)) rfl ?_) | (refine is_un ?_; first | refine x_q (stp_neg rfl ⟨by omega, by omega⟩) rfl ?_) | refine x_autow tok rfl rfl rfl rfl ?_ | (refine is_sto ?_; first | refine x_autos tok rfl rfl rfl ?_) | refine x_nil ?_ | refine x_nilD (by kernel_rfl) ?_) | (first | refine sim_seq ?_ | refine x_region ?_ | refine x_draw rfl ?_ | refine sim_cond_true rfl ?_ | refine sim_cond_false rfl ?_ | refine sim_cond rfl (fun hc => ?_) (fun hc => ?_) | refine sim_skip ?_ | refine sim_ret ?_ | refine sim_exit ?_ | refine sim_block ?_)))
  exact fin_ret [] rfl rfl rfl rfl
open Go.RowKit in
theorem rankShifts_w (A : Option Addr) (n c : Nat) (xs : List Int) (now0 by0 : Int) (w : World) (h : LIn .i64 w A n c xs) :
    Calls Try.prog 9 #[.slice A n c, .int .i64 now0, .int .i64 by0] w fun e w' => e = .returned (.bool true) ∧ Below w.heap.size w w' :=
  (shifts_c xs h.le now0 by0).lawL (cs := [.slice A n c, .int .i64 now0, .int .i64 by0]) ⟨h.repf dom0, .s _, .s _, trivial⟩
end Av
end Go.Proofs.Ytlabfbpnkjigoaa
