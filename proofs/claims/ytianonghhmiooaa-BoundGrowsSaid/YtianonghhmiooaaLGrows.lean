
/- law30.BoundGrows. -/
import Derived.Test.YtianonghhmiooaaBdC
import Derived.Test.YtianonghhmiooaaCfD
import Derived.Test.YtianonghhmiooaaLibC
import Derived.Test.YtianonghhmiooaaAvq
namespace Go.Proofs.Ytianonghhmiooaa
namespace Av
set_option linter.unusedSimpArgs false
set_option linter.unusedVariables false
set_option maxRecDepth 4000
set_option maxHeartbeats 2000000
def ag30 (n : Int) : Ag := ⟨secF n, 0, 0, [1, 1, 1, 1], 1, 1, 0, 0⟩
theorem agency30_c (n : Int) : CallSim Try.prog 14 [iA n] [] (agA (ag30 n)) [] := by
  have sc := secret_c n
  unfold ag30
  generalize secF n = sec at *
  (refine callSim_of tok Try.func14 rfl (fun args w => Try.call14 args w) rfl rfl rfl (fun F hF => ?_))
  (repeat' (first | (refine is_ops ?_; first | refine x_auto tok rfl rfl ?_ | (refine is_call ?_; (refine is_fn 16 ?_; first | refine x_q (stp_call (sc) rfl rfl rfl rfl rfl) rfl ?_ | refine x_w (stp_call (sc) rfl rfl rfl rfl rfl) rfl rfl rfl ?_ | refine x_d (stp_call (sc) rfl rfl rfl rfl rfl) rfl rfl rfl ?_)) | (refine is_grd ?_; first | refine x_on rfl rfl ?_ | refine x_off rfl rfl rfl rfl ?_ | refine x_gsplit rfl rfl (fun hc => ?_) (fun hc => ?_)) | (refine is_bin ?_; first | refine x_q (stp_cmp_t rfl rfl rfl (by unfold cmpP; omega)) rfl ?_ | refine x_q (stp_cmp_f rfl rfl rfl (by unfold cmpP; omega)) rfl ?_ | refine x_q (stp_cmp rfl rfl rfl) rfl ?_ | refine x_q (stp_add rfl rfl ⟨by omega, by omega⟩) rfl ?_ | refine x_q (stp_sub rfl rfl ⟨by omega, by omega⟩) rfl ?_ | refine x_q (stp_mul rfl rfl ⟨by omega, by omega⟩) rfl ?_ | refine x_q (stp_quo rfl rfl (by assumption) (by omega)) rfl ?_ | refine x_q (stp_rem rfl rfl (by omega)) rfl ?_ | refine x_q (stp_xor rfl rfl) rfl ?_ | refine x_q (stp_shift (.inl ⟨rfl, rfl⟩) rfl rfl (by omega)) rfl ?_ | refine x_q (stp_shift (.inr ⟨rfl, rfl⟩) rfl rfl (by omega)) rfl ?_ | refine x_q (stp_bool2 tok rfl rfl rfl rfl (.inl ⟨rfl, rfl⟩)) rfl ?_ | refine x_q (stp_bool2 tok rfl rfl rfl rfl (.inr ⟨rfl, rfl⟩)) rfl ?_ | refine x_q (stp_eqlNil tok (.inl ⟨rfl, rfl⟩) rfl rfl rfl) rfl ?_ | refine x_q (stp_eqlNil_not tok (.inl ⟨rfl, rfl⟩) rfl rfl rfl rfl) rfl ?_) | (refine is_idx ?_; first | refine x_q (stp_indexAddr_sl tok rfl rfl rfl rfl rfl (by omega) (by first | rfl | assumption) rfl rfl) rfl ?_ | refine x_q (stp_indexAddr_r0 tok rfl rfl rfl rfl rfl rfl (by omega) (by omega) rfl) rfl ?_ | refine x_q (stp_indexAddr_box tok rfl rfl rfl rfl rfl rfl (by omega) (by omega)) rfl ?_) | (refine is_load ?_; first | refine x_q (stp_load_fp1 tok rfl rfl rfl (by first | rfl | assumption) rfl) rfl ?_ | refine x_q (stp_load_fpa tok rfl rfl rfl (by first | rfl | assumption) rfl) rfl ?_ | refine x_q (stp_load_arr1 tok rfl rfl rfl rfl (by first | rfl | assumption) rfl) rfl ?_ | refine x_q (stp_load_arra tok rfl rfl rfl rfl (by first | rfl | assumption) rfl) rfl ?_) | (refine is_fad ?_; first | refine x_q (stp_fieldAddr_arr tok rfl rfl rfl rfl rfl rfl rfl rfl) rfl ?_ | refine x_q (stp_fieldAddr_fp tok rfl (by first | rfl | assumption) rfl rfl rfl rfl rfl rfl) rfl ?_) | (refine is_app ?_; first | refine x_appref tok rfl rfl rfl rfl rfl rfl rfl rfl rfl rfl rfl (by first | (intro y hy; cases hy; rfl) | exact map_hd _ _ (fun _ => rfl)) (by first | omega | (simp; done) | (simp; omega)) rfl ?_) | (refine is_un ?_; first | refine x_q (stp_neg rfl ⟨by omega, by omega⟩) rfl ?_) | (refine is_conv ?_; first | refine x_q (stp_conv_in tok rfl rfl rfl rfl ⟨by omega, by omega⟩) rfl ?_ | refine x_q (stp_conv tok rfl rfl rfl rfl) rfl ?_) | refine x_autow tok rfl rfl rfl rfl ?_ | (refine is_sto ?_; first | refine x_autos tok rfl rfl rfl ?_) | refine x_nil ?_ | refine x_nilD (by kernel_rfl) ?_) | (first | refine sim_seq ?_ | refine x_region ?_ | refine x_draw rfl ?_ | refine sim_cond_true rfl ?_ | refine sim_cond_false rfl ?_ | refine sim_cond rfl (fun hc => ?_) (fun hc => ?_) | refine sim_skip ?_ | refine sim_ret ?_ | refine sim_exit ?_ | refine sim_block ?_)))
  exact fin_ret [] rfl rfl rfl rfl
def ph30 : Ph := ⟨0, 0, 2, 3, 1, 1, 0, 0⟩
def jn30 : Jn := ⟨[ph30, ph30], [2, 1], 0⟩
def cf30 (a b : Ag) : Cf := ⟨[jn30], [a, b], 4, 2, 2, 3⟩
theorem ph30_b : PhB ph30 := by constructor <;> decide
theorem jn30_b : JnB jn30 := by
  constructor
  · decide
  · intro i hi
    obtain rfl | rfl : i = 0 ∨ i = 1 := by simp [jn30] at hi; omega
    · exact ph30_b
    · exact ph30_b
  · decide
  · decide
theorem cf30_b (a b : Ag) (ha : a.req = 1) (hb : b.req = 1) : CfB (cf30 a b) := by
  constructor
  · simp [cf30]
  · simp [cf30]
  · intro i hi
    obtain rfl : i = 0 := by simp [cf30] at hi; omega
    exact jn30_b
  · intro i hi
    obtain rfl | rfl : i = 0 ∨ i = 1 := by simp [cf30] at hi; omega
    · simp [cf30, ha]
    · simp [cf30, hb]
  all_goals (simp [cf30])
theorem bd30 (a b : Ag) (ha : a.req = 1) (hb : b.req = 1) : bdF (cf30 a b) 0 = 43 := by
  simp [bdF, cf30, rqN, trF, trN, needF, jn30, ph30, ha, hb]
  decide
theorem lo30 (a b : Ag) (ha : a.req = 1) (hb : b.req = 1) : loN (cf30 a b) (cf30 a b).js.length = 43 := by
  have := bd30 a b ha hb
  show max 0 (bdF (cf30 a b) ((0 : Nat) : Int)) = 43
  rw [show ((0 : Nat) : Int) = 0 from rfl, this]
  rfl
theorem awake30_c : CallSim Try.prog 8 [] [] (bA true) [] := by
  have a1 := agency30_c 1
  have a2 := agency30_c 2
  have r1 : (ag30 1).req = 1 := by simp only [ag30]
  have r2 : (ag30 2).req = 1 := by simp only [ag30]
  generalize ag30 1 = x at *
  generalize ag30 2 = y at *
  have b := bound_c (cf30 x y) (cf30_b x y r1 r2) 0
  have l := longest_c (cf30 x y) (cf30_b x y r1 r2)
  rw [bd30 x y r1 r2] at b
  rw [lo30 x y r1 r2] at l
  clear r1 r2
  (refine callSim_of tok Try.func8 rfl (fun args w => Try.call8 args w) rfl rfl rfl (fun F hF => ?_))
  (have zc1 := a1; have zc2 := a2; have zc3 := b; have zc4 := l; refine WL ?_; clear zc1 zc2 zc3 zc4)
  exact fin_ret [] rfl rfl rfl rfl
/-! ### The plain law -/
theorem rqN_mono (l l' : List Ag) (h : ∀ i, (l.getD i default).req ≤ (l'.getD i default).req) : ∀ n, rqN l n ≤ rqN l' n
  | 0 => Int.le_refl _
  | n + 1 => by have := rqN_mono l l' h n; have := h n; unfold rqN; omega
theorem trN_mono (l l' : List Ph) (h : ∀ i, needF (l.getD i default) + (l.getD i default).yel + (l.getD i default).red ≤ needF (l'.getD i default) + (l'.getD i default).yel + (l'.getD i default).red) : ∀ n, trN l n ≤ trN l' n
  | 0 => Int.le_refl _
  | n + 1 => by have := trN_mono l l' h n; have := h n; unfold trN; omega
/-- Nothing of g' is less. -/
structure Gr (g g' : Cf) : Prop where
  j : g'.js.length = g.js.length
  a : g'.ags.length = g.ags.length
  r : ∀ i, (g.ags.getD i default).req ≤ (g'.ags.getD i default).req
  t : ∀ i, trF (g.js.getD i default) ≤ trF (g'.js.getD i default)
  n : ∀ i, (g'.js.getD i default).ph.length = (g.js.getD i default).ph.length
  p : g.per ≤ g'.per
  c : g.cap ≤ g'.cap
  h : g.hold ≤ g'.hold
  l : g.lock ≤ g'.lock
theorem bdF_mono {g g' : Cf} (B : CfB g) (G : Gr g g') (i : Nat) : bdF g i ≤ bdF g' i := by
  obtain ⟨hj, ha, hr, ht, hn, hp, hc, hh, hl⟩ := G
  have h1 := rqN_mono _ _ hr g.ags.length
  have h2 := ht i
  have h3 := hn i
  unfold bdF
  rw [hj, ha]
  split
  · omega
  · rename_i hi
    have hb := trF_bd _ (B.js i (by omega))
    have hq := rqN_bd g.ags B.rq g.ags.length (Nat.le_refl _)
    rw [Int.toNat_natCast] at *
    rw [h3]
    obtain ⟨_, _, _, _, p0, _, c0, _, h0, _, _, _⟩ := B
    have m1 := Int.mul_le_mul hc hp p0 (by omega)
    have m2 := Int.mul_le_mul (show min (rqN g.ags g.ags.length) ((g.js.getD i default).ph.length : Int) + 2 ≤ min (rqN g'.ags g.ags.length) ((g.js.getD i default).ph.length : Int) + 2 by omega) (show trF (g.js.getD i default) + g.hold + 2 ≤ trF (g'.js.getD i default) + g'.hold + 2 by omega) (by omega) (by omega)
    omega
theorem loN_mono {g g' : Cf} (B : CfB g) (G : Gr g g') : ∀ n, loN g n ≤ loN g' n
  | 0 => Int.le_refl _
  | n + 1 => by
    have h1 := loN_mono B G n
    have h2 := bdF_mono B G n
    unfold loN
    omega
theorem loN_lock (g : Cf) (B : CfB g) : ∀ n, n < g.js.length → g.lock ≤ loN g (n + 1)
  | n, hn => by
    have hb := trF_bd _ (B.js n hn)
    have hq := rqN_bd g.ags B.rq g.ags.length (Nat.le_refl _)
    obtain ⟨_, _, _, _, p0, p1, c0, c1, h0, h1, _, _⟩ := B
    have m1 := Int.mul_nonneg c0 p0
    have m2 := Int.mul_nonneg (show 0 ≤ min (rqN g.ags g.ags.length) ((g.js.getD n default).ph.length : Int) + 2 by omega) (show 0 ≤ trF (g.js.getD n default) + g.hold + 2 by omega)
    have e : bdF g n = g.lock + g.cap * g.per + (min (rqN g.ags g.ags.length) ((g.js.getD n default).ph.length) + 2) * (trF (g.js.getD n default) + g.hold + 2) := by
      unfold bdF
      rw [if_neg (by omega), Int.toNat_natCast]
    unfold loN
    omega
/-! ### What make.Config makes is small -/
structure Sm (g : Cf) : Prop where
  j : g.js.length = 1 ∨ g.js.length = 2
  a : 1 ≤ g.ags.length
  p : g.per ≤ 4
  c : g.cap ≤ 3
  h : g.hold ≤ 3
  l : g.lock ≤ 4
  r : ∀ i, i < g.ags.length → (g.ags.getD i default).req ≤ 3
  s : ∀ i, i < g.js.length → (g.js.getD i default).st ≤ 2 ∧ 1 ≤ (g.js.getD i default).ph.length ∧ ∀ k, k < (g.js.getD i default).ph.length → ((g.js.getD i default).ph.getD k default).yel ≤ 2
theorem phF_yel (d : Dk) (s : Int × Int) : (phF d s).yel ≤ 2 := by
  have b1 := nx_bd (ad d) (2 - 1 + 1) (by omega)
  unfold phF
  split <;> dsimp only <;> omega
theorem phL_yel (d : Dk) (l : List (Int × Int)) : ∀ i, ∀ p ∈ (phL d l i).1, p.yel ≤ 2
  | 0, p, h => by simp [phL] at h
  | i + 1, p, h => by
    simp only [phL, List.mem_append, List.mem_singleton] at h
    rcases h with h | rfl
    · exact phL_yel d l i p h
    · exact phF_yel _ _
theorem jnF_sm (d : Dk) : (jnF d).st ≤ 2 ∧ 1 ≤ (jnF d).ph.length ∧ ∀ k, k < (jnF d).ph.length → ((jnF d).ph.getD k default).yel ≤ 2 := by
  have hl := jnP_len d
  have hs := nx_bd (ad d) 3 (by omega)
  have es : (jnF d).st = nx (ad d) 3 := rfl
  refine ⟨by omega, by rw [jnF_ph]; omega, ?_⟩
  rw [jnF_ph]
  intro i hi
  exact getD_mem' (fun p : Ph => p.yel ≤ 2) default _ i (phL_yel _ _ _) hi
theorem cjL_sm (d : Dk) : ∀ i, ∀ p ∈ (cjL d i).1, p.st ≤ 2 ∧ 1 ≤ p.ph.length ∧ ∀ k, k < p.ph.length → (p.ph.getD k default).yel ≤ 2
  | 0, p, h => by simp [cjL] at h
  | i + 1, p, h => by
    simp only [cjL, List.mem_append, List.mem_singleton] at h
    rcases h with h | rfl
    · exact cjL_sm d i p h
    · exact jnF_sm _
theorem cfF_sm (d : Dk) (rights : Int) : Sm (cfF d rights) := by
  have b0 := nx_bd d (4 - 1 + 1) (by omega)
  have b1 := nx_bd (ad d) 4 (by omega)
  have b2 := nx_bd (ad (ad d)) (3 - 1 + 1) (by omega)
  have b3 := nx_bd (ad (ad (ad d))) 5 (by omega)
  have hn := nx_bd (ad4 d) 2 (by omega)
  have hm := nx_bd (cfJ d).2 3 (by omega)
  have e1 : (cfF d rights).js = (cfJ d).1 := by simp only [cfF]
  have e2 : (cfF d rights).ags = (cfG d rights).1 := by simp only [cfF]
  have l1 : (cfJ d).1.length = cfN d := by unfold cfJ; exact cjL_len _ _
  have l2 : (cfG d rights).1.length = cfM d := by unfold cfG; exact caL_len _ _ _
  constructor
  · rw [e1, l1]; unfold cfN; omega
  · rw [e2, l2]; unfold cfM; omega
  iterate 4 (unfold cfF; dsimp only; omega)
  · rw [e2]
    intro i hi
    have := getD_mem' (fun p : Ag => 1 ≤ p.req ∧ p.req ≤ 3) default (cfG d rights).1 i (by unfold cfG; exact caL_bd _ _ _) hi
    omega
  · rw [e1]
    intro i hi
    exact getD_mem' (fun p : Jn => p.st ≤ 2 ∧ 1 ≤ p.ph.length ∧ ∀ k, k < p.ph.length → (p.ph.getD k default).yel ≤ 2) default (cfJ d).1 i (by unfold cfJ; exact cjL_sm _ _) hi
/-! ### What the law makes of it -/
def upP (p : Ph) (b : Int) : Ph := ⟨p.ring, p.group, p.ming, p.maxg, p.yel + b, p.red, p.walk, p.clear⟩
def upA (a : Ag) : Ag := ⟨a.sec, a.rights, a.cls, a.lim, a.req + 1, a.ses, a.rate, a.burst⟩
def upJ (ring : List Ph) (j : Jn) (w b : Int) : Jn := if w = 5 then ⟨ring, j.cf, j.st⟩ else if w = 6 then ⟨j.ph, j.cf, j.st + b⟩ else j
/-- The configuration with one number greater. -/
def gwF (j0 : Jn) (p0 : Ph) (pr : List Ph) (jr : List Jn) (a0 : Ag) (ar : List Ag) (per cap hold lock w b : Int) : Cf :=
  ⟨upJ (upP p0 b :: pr) j0 w b :: jr, (if w = 4 then upA a0 else a0) :: ar, if w = 2 then per + b else per, if w = 3 then cap + b else cap, if w = 0 then hold + b else hold, if w = 1 then lock + b else lock⟩
theorem getD_cons0 {α : Type} (x : α) (l : List α) (d : α) : (x :: l).getD 0 d = x := rfl
theorem getD_consS {α : Type} (x : α) (l : List α) (i : Nat) (d : α) : (x :: l).getD (i + 1) d = l.getD i d := rfl
theorem gw_gr (j0 : Jn) (p0 : Ph) (pr : List Ph) (hp : j0.ph = p0 :: pr) (jr : List Jn) (a0 : Ag) (ar : List Ag) (per cap hold lock w b : Int) (hb : 0 ≤ b) : Gr ⟨j0 :: jr, a0 :: ar, per, cap, hold, lock⟩ (gwF j0 p0 pr jr a0 ar per cap hold lock w b) := by
  unfold gwF
  constructor <;> dsimp only
  · rfl
  · rfl
  · intro i
    match i with
    | 0 => rw [getD_cons0, getD_cons0]; split <;> (try unfold upA) <;> (try dsimp only) <;> omega
    | i + 1 => rw [getD_consS, getD_consS]; omega
  · intro i
    match i with
    | 0 =>
      rw [getD_cons0, getD_cons0]
      unfold upJ
      split
      · unfold trF
        dsimp only
        have := trN_mono j0.ph (upP p0 b :: pr) (fun i => by
          rw [hp]
          match i with
          | 0 => rw [getD_cons0, getD_cons0]; unfold upP needF; dsimp only; omega
          | i + 1 => rw [getD_consS, getD_consS]; omega) j0.ph.length
        rw [show (upP p0 b :: pr).length = j0.ph.length by rw [hp]; rfl]
        omega
      · split
        · unfold trF; dsimp only; omega
        · omega
    | i + 1 => rw [getD_consS, getD_consS]; omega
  · intro i
    match i with
    | 0 =>
      rw [getD_cons0, getD_cons0]
      unfold upJ
      split
      · rw [hp]; rfl
      · split <;> rfl
    | i + 1 => rfl
  all_goals (split <;> omega)
theorem gw_b (j0 : Jn) (p0 : Ph) (pr : List Ph) (hp : j0.ph = p0 :: pr) (jr : List Jn) (a0 : Ag) (ar : List Ag) (per cap hold lock w b : Int) (hb : 0 ≤ b ∧ b ≤ 4) (B : CfB ⟨j0 :: jr, a0 :: ar, per, cap, hold, lock⟩) (S : Sm ⟨j0 :: jr, a0 :: ar, per, cap, hold, lock⟩) : CfB (gwF j0 p0 pr jr a0 ar per cap hold lock w b) := by
  obtain ⟨B1, B2, B3, B4, B5, B6, B7, B8, B9, B10, B11, B12⟩ := B
  obtain ⟨S1, S2, S3, S4, S5, S6, S7, S8⟩ := S
  dsimp only at *
  unfold gwF
  constructor <;> dsimp only
  · exact B1
  · exact B2
  · intro i hi
    match i with
    | 0 =>
      have h1 := B3 0 (by simp)
      have h2 := S8 0 (by simp)
      rw [getD_cons0] at *
      obtain ⟨q1, q2, q3, q4⟩ := h1
      unfold upJ
      split
      · refine ⟨by rw [hp] at q1; exact q1, fun i hi => ?_, q3, q4⟩
        dsimp only at *
        match i with
        | 0 =>
          have h3 := q2 0 (by rw [hp]; simp)
          have h4 := h2.2.2 0 (by rw [hp]; simp)
          rw [hp, getD_cons0] at h3 h4
          rw [getD_cons0]
          obtain ⟨_, _, _, _, _, _, _, _, _, _⟩ := h3
          unfold upP
          constructor <;> dsimp only <;> omega
        | i + 1 =>
          have h3 := q2 (i + 1) (by rw [hp]; exact hi)
          rw [hp, getD_consS] at h3
          rw [getD_consS]
          exact h3
      · split
        · exact ⟨q1, q2, by dsimp only; omega, by dsimp only; omega⟩
        · exact ⟨q1, q2, q3, q4⟩
    | i + 1 => have := B3 (i + 1) hi; rw [getD_consS] at *; exact this
  · intro i hi
    match i with
    | 0 =>
      have h1 := B4 0 (by simp)
      have h2 := S7 0 (by simp)
      rw [getD_cons0] at *
      split <;> (try unfold upA) <;> (try dsimp only) <;> omega
    | i + 1 => have := B4 (i + 1) hi; rw [getD_consS] at *; exact this
  all_goals (split <;> omega)
theorem tk_all {xs : List AV} {n : Nat} (h : n = xs.length) : List.take n (List.drop 0 xs) = xs := by rw [h, List.drop_zero, List.take_length]
theorem st_eq {A A' G G' J : List AV} {n k : Nat} {c d per cap hold lock lo : AV} (h1 : List.take n (List.drop 0 A) = A') (h2 : List.take k (List.drop 0 G) = G') :
    (⟨[(7, .ptr 7 0 0), (8, lo)], [(7, .box [.sl false (.agg [.sl false (List.take n (List.drop 0 A)), c, d] :: J), .sl false (List.take k (List.drop 0 G)), per, cap, hold, lock])]⟩ : St) = ⟨[(7, .ptr 7 0 0), (8, lo)], [(7, .box [.sl false (.agg [.sl false A', c, d] :: J), .sl false G', per, cap, hold, lock])]⟩ := by rw [h1, h2]
theorem grows_c (l : List Int) (hl : l.length ≤ 9223372036854775807) (which byy : Int) : CallSim Try.prog 3 [slA iA l, iA which, iA byy] [] (bA true) [] := by
  have aw := awake30_c
  have hn := new_c l hl
  have hc := config_own ⟨l, 0, Nat.zero_le _, hl⟩ 63
  have B := cfF_bd ⟨l, 0, Nat.zero_le _, hl⟩ 63
  have S := cfF_sm ⟨l, 0, Nat.zero_le _, hl⟩ 63
  generalize cfF ⟨l, 0, Nat.zero_le _, hl⟩ 63 = g at *
  generalize cfD ⟨l, 0, Nat.zero_le _, hl⟩ 63 = d at *
  obtain ⟨js, ags, per, cap, hold, lock⟩ := g
  have hjs := S.j
  have has := S.a
  dsimp only at hjs has
  obtain ⟨j0, jr, rfl⟩ : ∃ j0 jr, js = j0 :: jr := by cases js with | nil => simp at hjs | cons a b => exact ⟨a, b, rfl⟩
  obtain ⟨a0, ar, rfl⟩ : ∃ a0 ar, ags = a0 :: ar := by cases ags with | nil => simp at has | cons a b => exact ⟨a, b, rfl⟩
  have hp1 := (S.s 0 (by simp)).2.1
  rw [getD_cons0] at hp1
  obtain ⟨p0, pr, hp⟩ : ∃ p0 pr, j0.ph = p0 :: pr := by cases h : j0.ph with | nil => rw [h] at hp1; simp at hp1 | cons a b => exact ⟨a, b, rfl⟩
  have m1 := mod_c byy 5 (by omega) (by omega)
  have m2 := mod_c which 7 (by omega) (by omega)
  have b1 : 0 ≤ byy % 5 ∧ byy % 5 ≤ 4 := by omega
  have b2 : 0 ≤ which % 7 ∧ which % 7 < 7 := by omega
  generalize byy % 5 = b at *
  generalize which % 7 = w at *
  have G := gw_gr j0 p0 pr hp jr a0 ar per cap hold lock w b b1.1
  have B' := gw_b j0 p0 pr hp jr a0 ar per cap hold lock w b b1 B S
  have c1 := longest_c _ B
  have c2 := longest_c _ B'
  have h1 := loN_mono B G (jr.length + 1)
  have h2 := loN_lock _ B jr.length (by simp)
  have h3 : (gwF j0 p0 pr jr a0 ar per cap hold lock w b).lock ≤ lock + 4 := by unfold gwF; dsimp only; split <;> omega
  have hb1 := loN_bd _ B (jr.length + 1)
  have hb2 : loN ⟨j0 :: jr, a0 :: ar, per, cap, hold, lock⟩ (jr.length + 1) ≤ 1000000000 := by
    have : ∀ n, loN ⟨j0 :: jr, a0 :: ar, per, cap, hold, lock⟩ n ≤ 1000000000 := fun n => by
      induction n with
      | zero => simp [loN]
      | succ n ih => have := bdF_bd _ B n; unfold loN; omega
    exact this _
  have hgl := B'.l0
  have hgj : (gwF j0 p0 pr jr a0 ar per cap hold lock w b).js.length = jr.length + 1 := rfl
  rw [hgj] at c2
  rw [show (⟨j0 :: jr, a0 :: ar, per, cap, hold, lock⟩ : Cf).js.length = jr.length + 1 from rfl] at c1
  have hlo := B.l1
  have hq1 := B.p1
  have hq2 := B.c1
  have hq3 := B.h1
  have hq4 := B.p0
  have hq5 := B.c0
  have hq6 := B.h0
  have hq7 := B.l0
  have hr0 := B.rq 0 (by simp)
  have hy0 := (B.js 0 (by simp)).ph 0 (by rw [getD_cons0, hp]; simp)
  have hs0 := (B.js 0 (by simp)).s0
  have hs1 := (B.js 0 (by simp)).s1
  rw [getD_cons0] at hr0 hs0 hs1
  rw [getD_cons0, hp, getD_cons0] at hy0
  have hpl := (B.js 0 (by simp)).len
  rw [getD_cons0] at hpl
  dsimp only at hlo hq1 hq2 hq3 hq4 hq5 hq6 hq7 h2
  obtain ⟨y1, y2, y3, y4, _⟩ := hy0
  have hjr : jr = [] ∨ ∃ j1, jr = [j1] := by
    match jr, hjs with
    | [], _ => exact .inl rfl
    | [j1], _ => exact .inr ⟨j1, rfl⟩
    | _ :: _ :: _, h => simp at h
  clear B S G hn B' hjs has
  have hn := new_c l hl
  generalize loN (gwF j0 p0 pr jr a0 ar per cap hold lock w b) (jr.length + 1) = lo2 at *
  generalize loN ⟨j0 :: jr, a0 :: ar, per, cap, hold, lock⟩ (jr.length + 1) = lo1 at *
  obtain ⟨ph0, cf0, st0⟩ := j0
  dsimp only at hp hs0 hs1 hpl
  subst hp
  have etk : ∀ xs : List AV, List.take xs.length (List.drop 0 xs) = xs := fun xs => by rw [List.drop_zero, List.take_length]
  unfold cfA slA at c1
  dsimp only at c1
  rw [← etk (List.map agA _)] at c1
  rcases hjr with rfl | ⟨j1, rfl⟩
  · have hlj : (List.map jnA [(⟨p0 :: pr, cf0, st0⟩ : Jn)]).length = 1 := rfl
    have hlp : (List.map phA (p0 :: pr)).length = pr.length + 1 := by simp
    have hlp2 : (List.map phA (⟨p0 :: pr, cf0, st0⟩ : Jn).ph).length = pr.length + 1 := by simp
    have hs2 : 0 ≤ (⟨p0 :: pr, cf0, st0⟩ : Jn).st ∧ (⟨p0 :: pr, cf0, st0⟩ : Jn).st ≤ 1000 := ⟨hs0, hs1⟩
    have hla : (List.map agA (a0 :: ar)).length = ar.length + 1 := by simp
    unfold cfO at hc
    dsimp only at hc
    (refine callSim_of tok Try.func3 rfl (fun args w => Try.call3 args w) rfl rfl rfl (fun F hF => ?_))
    (repeat' (first | (refine is_ops ?_; first | refine x_auto tok rfl rfl ?_ | (refine is_call ?_; (first | (refine is_fn 4 ?_; first | refine x_q (stp_call (hn) rfl rfl rfl rfl rfl) rfl ?_ | refine x_w (stp_call (hn) rfl rfl rfl rfl rfl) rfl rfl rfl ?_ | refine x_d (stp_call (hn) rfl rfl rfl rfl rfl) rfl rfl rfl ?_) | (refine is_fn 5 ?_; first | refine x_q (stp_call (hc) rfl rfl rfl rfl rfl) rfl ?_ | refine x_w (stp_call (hc) rfl rfl rfl rfl rfl) rfl rfl rfl ?_ | refine x_d (stp_call (hc) rfl rfl rfl rfl rfl) rfl rfl rfl ?_) | (refine is_fn 6 ?_; first | refine x_q (stp_call (c1) rfl rfl rfl rfl rfl) rfl ?_ | refine x_w (stp_call (c1) rfl rfl rfl rfl rfl) rfl rfl rfl ?_ | refine x_d (stp_call (c1) rfl rfl rfl rfl rfl) rfl rfl rfl ?_) | (refine is_fn 7 ?_; first | refine x_q (stp_call (m1) rfl rfl rfl rfl rfl) rfl ?_ | refine x_w (stp_call (m1) rfl rfl rfl rfl rfl) rfl rfl rfl ?_ | refine x_d (stp_call (m1) rfl rfl rfl rfl rfl) rfl rfl rfl ?_) | (refine is_fn 7 ?_; first | refine x_q (stp_call (m2) rfl rfl rfl rfl rfl) rfl ?_ | refine x_w (stp_call (m2) rfl rfl rfl rfl rfl) rfl rfl rfl ?_ | refine x_d (stp_call (m2) rfl rfl rfl rfl rfl) rfl rfl rfl ?_))) | (refine is_grd ?_; first | refine x_on rfl rfl ?_ | refine x_off rfl rfl rfl rfl ?_ | (refine x_gsplit rfl rfl (fun hc => ?_) (fun hc => ?_) <;> (try simp only [cmpB, decide_eq_true_eq, decide_eq_false_iff_not, beq_iff_eq, bne_iff_ne, ne_eq, Bool.not_eq_true, beq_eq_false_iff_ne, bne_eq_false_iff_eq, Int.not_lt, Int.not_le, Decidable.not_not] at hc))) | (refine is_bin ?_; first | refine x_q (stp_cmp_t rfl rfl rfl (by unfold cmpP; omega)) rfl ?_ | refine x_q (stp_cmp_f rfl rfl rfl (by unfold cmpP; omega)) rfl ?_ | refine x_q (stp_cmp rfl rfl rfl) rfl ?_ | refine x_q (stp_add rfl rfl ⟨by omega, by omega⟩) rfl ?_ | refine x_q (stp_sub rfl rfl ⟨by omega, by omega⟩) rfl ?_ | refine x_q (stp_mul rfl rfl ⟨by omega, by omega⟩) rfl ?_ | refine x_q (stp_quo rfl rfl (by assumption) (by omega)) rfl ?_ | refine x_q (stp_rem rfl rfl (by omega)) rfl ?_ | refine x_q (stp_xor rfl rfl) rfl ?_ | refine x_q (stp_shlI rfl rfl (by omega)) rfl ?_ | refine x_q (stp_shrI rfl rfl (by omega)) rfl ?_ | refine x_q (stp_shift (.inl ⟨rfl, rfl⟩) rfl rfl (by omega)) rfl ?_ | refine x_q (stp_shift (.inr ⟨rfl, rfl⟩) rfl rfl (by omega)) rfl ?_ | refine x_q (stp_bool2 tok rfl rfl rfl rfl (.inl ⟨rfl, rfl⟩)) rfl ?_ | refine x_q (stp_bool2 tok rfl rfl rfl rfl (.inr ⟨rfl, rfl⟩)) rfl ?_ | refine x_q (stp_eqlNil tok (.inl ⟨rfl, rfl⟩) rfl rfl rfl) rfl ?_ | refine x_q (stp_eqlNil_not tok (.inl ⟨rfl, rfl⟩) rfl rfl rfl rfl) rfl ?_ | refine x_q (stp_andI rfl rfl) rfl ?_ | refine x_q (stp_orI rfl rfl) rfl ?_ | refine x_q (stp_bicI rfl rfl) rfl ?_ | refine x_q (stp_strEqV rfl rfl (by assumption)) rfl ?_ | refine x_q (stp_strEq rfl rfl) rfl ?_ | refine x_q (stp_strNeV rfl rfl (by assumption)) rfl ?_ | refine x_q (stp_strNe rfl rfl) rfl ?_) | (refine is_idx ?_; first | refine x_q (stp_indexAddr_sl tok rfl rfl rfl rfl rfl (by omega) (by first | rfl | assumption) rfl rfl) rfl ?_ | refine x_q (stp_indexAddr_r0 tok rfl rfl rfl rfl rfl rfl (by omega) (by omega) rfl) rfl ?_ | refine x_q (stp_indexAddr_box tok rfl rfl rfl rfl rfl rfl (by omega) (by omega)) rfl ?_) | (refine is_load ?_; first | refine x_q (stp_load_fp1 tok rfl rfl rfl (by first | rfl | assumption) rfl) rfl ?_ | refine x_q (stp_load_fpa tok rfl rfl rfl (by first | rfl | assumption) rfl) rfl ?_ | refine x_q (stp_load_arr1 tok rfl rfl rfl rfl (by first | rfl | assumption) rfl) rfl ?_ | refine x_q (stp_load_arra tok rfl rfl rfl rfl (by first | rfl | assumption) rfl) rfl ?_) | (refine is_fad ?_; first | refine x_q (stp_fieldAddr_arr tok rfl rfl rfl rfl rfl rfl rfl rfl) rfl ?_ | refine x_q (stp_fieldAddr_fp tok rfl (by first | rfl | assumption) rfl rfl rfl rfl rfl rfl) rfl ?_) | (refine is_app ?_; first | refine x_appref0 tok rfl rfl rfl rfl rfl rfl rfl (by first | (intro y hy; cases hy; rfl) | exact map_hd _ _ (fun _ => rfl)) rfl rfl rfl (by first | omega | (simp; done) | (simp; omega)) rfl ?_ | refine x_appref tok rfl rfl rfl rfl rfl rfl rfl rfl rfl rfl rfl (by first | (intro y hy; cases hy; rfl) | exact map_hd _ _ (fun _ => rfl)) (by first | omega | (simp; done) | (simp; omega)) rfl ?_) | (refine is_un ?_; first | refine x_q (stp_neg rfl ⟨by omega, by omega⟩) rfl ?_) | (refine is_conv ?_; first | refine x_q (stp_conv_in tok rfl rfl rfl rfl ⟨by omega, by omega⟩) rfl ?_ | refine x_q (stp_conv tok rfl rfl rfl rfl) rfl ?_ | refine x_q (stp_convStr tok rfl rfl rfl rfl rfl rfl rfl (by first | rfl | assumption)) rfl ?_) | (refine is_slc ?_; first | refine x_slcL tok rfl rfl rfl rfl rfl (by first | (intro y hy; cases hy; rfl) | exact map_hd _ _ (fun _ => rfl) | (simp; done)) (by omega) (by simp; omega) (by first | exact List.map_drop.symm | rfl) rfl ?_ | refine x_slcH tok rfl rfl rfl rfl rfl (by first | (intro y hy; cases hy; rfl) | exact map_hd _ _ (fun _ => rfl) | (simp; done)) (by omega) (by simp; omega) (by first | exact List.map_take.symm | rfl) rfl ?_) | (refine is_app ?_; first | refine x_appnilK 1019 tok rfl rfl rfl rfl rfl rfl (by intro y hy; cases hy; rfl) rfl rfl rfl (by simp) rfl rfl rfl ?_ | refine x_appnilK 1029 tok rfl rfl rfl rfl rfl rfl (by intro y hy; cases hy; rfl) rfl rfl rfl (by simp at hpl ⊢; omega) rfl rfl rfl ?_) | (refine is_sto ?_; refine x_nest 1019 rfl ?_) | (refine is_nck ?_; refine x_q (stp_nilCheck_arr rfl rfl rfl) rfl ?_) | refine x_autow tok rfl rfl rfl rfl ?_ | (refine is_sto ?_; first | refine x_autos tok rfl rfl rfl ?_ | refine x_stoa tok rfl rfl rfl (by first | rfl | assumption) rfl rfl rfl rfl rfl rfl ?_ | refine x_sto1 tok rfl rfl rfl (by first | rfl | assumption) rfl rfl rfl rfl rfl rfl rfl rfl ?_) | refine x_nil ?_ | refine x_nilD (by kernel_rfl) ?_) | (first | refine sim_seq ?_ | refine x_region ?_ | refine x_draw rfl ?_ | refine sim_cond_true rfl ?_ | refine sim_cond_false rfl ?_ | (refine sim_cond rfl (fun hc => ?_) (fun hc => ?_) <;> (try simp only [cmpB, decide_eq_true_eq, decide_eq_false_iff_not, beq_iff_eq, bne_iff_ne, ne_eq, Bool.not_eq_true, beq_eq_false_iff_ne, bne_eq_false_iff_eq, Int.not_lt, Int.not_le, Decidable.not_not] at hc)) | refine sim_skip ?_ | refine sim_ret ?_ | refine sim_exit ?_)))
    refine sim_join [7] [7, 8] ⟨[(7, .ptr 7 0 0), (8, iA lo1)], [(7, .box [slA jnA (gwF ⟨p0 :: pr, cf0, st0⟩ p0 pr [] a0 ar per cap hold lock w b).js, slA agA (gwF ⟨p0 :: pr, cf0, st0⟩ p0 pr [] a0 ar per cap hold lock w b).ags, iA (gwF ⟨p0 :: pr, cf0, st0⟩ p0 pr [] a0 ar per cap hold lock w b).per, iA (gwF ⟨p0 :: pr, cf0, st0⟩ p0 pr [] a0 ar per cap hold lock w b).cap, iA (gwF ⟨p0 :: pr, cf0, st0⟩ p0 pr [] a0 ar per cap hold lock w b).hold, iA (gwF ⟨p0 :: pr, cf0, st0⟩ p0 pr [] a0 ar per cap hold lock w b).lock])]⟩ rfl ?_ ?_
    · have hw : w = 0 ∨ w = 1 ∨ w = 2 ∨ w = 3 ∨ w = 4 ∨ w = 5 ∨ w = 6 := by omega
      clear c1 c2 h1 h2 h3 hgl hgj hb1 hb2
      rcases hw with rfl | rfl | rfl | rfl | rfl | rfl | rfl
      all_goals
        (refine WW ?_)
        exact ⟨rfl, st_eq (tk_all rfl) (tk_all rfl)⟩
    · generalize gwF ⟨p0 :: pr, cf0, st0⟩ p0 pr [] a0 ar per cap hold lock w b = g' at *
      clear hc c1 hlj hlp hla hn
      clear m1 m2
      (have zc1 := c2; have zc2 := aw; refine WW ?_; clear zc1 zc2)
      exact fin_ret [] rfl rfl rfl rfl
  · have hlj : (List.map jnA [(⟨p0 :: pr, cf0, st0⟩ : Jn), j1]).length = 2 := rfl
    have hlp : (List.map phA (p0 :: pr)).length = pr.length + 1 := by simp
    have hlp2 : (List.map phA (⟨p0 :: pr, cf0, st0⟩ : Jn).ph).length = pr.length + 1 := by simp
    have hs2 : 0 ≤ (⟨p0 :: pr, cf0, st0⟩ : Jn).st ∧ (⟨p0 :: pr, cf0, st0⟩ : Jn).st ≤ 1000 := ⟨hs0, hs1⟩
    have hla : (List.map agA (a0 :: ar)).length = ar.length + 1 := by simp
    unfold cfO at hc
    dsimp only at hc
    (refine callSim_of tok Try.func3 rfl (fun args w => Try.call3 args w) rfl rfl rfl (fun F hF => ?_))
    (repeat' (first | (refine is_ops ?_; first | refine x_auto tok rfl rfl ?_ | (refine is_call ?_; (first | (refine is_fn 4 ?_; first | refine x_q (stp_call (hn) rfl rfl rfl rfl rfl) rfl ?_ | refine x_w (stp_call (hn) rfl rfl rfl rfl rfl) rfl rfl rfl ?_ | refine x_d (stp_call (hn) rfl rfl rfl rfl rfl) rfl rfl rfl ?_) | (refine is_fn 5 ?_; first | refine x_q (stp_call (hc) rfl rfl rfl rfl rfl) rfl ?_ | refine x_w (stp_call (hc) rfl rfl rfl rfl rfl) rfl rfl rfl ?_ | refine x_d (stp_call (hc) rfl rfl rfl rfl rfl) rfl rfl rfl ?_) | (refine is_fn 6 ?_; first | refine x_q (stp_call (c1) rfl rfl rfl rfl rfl) rfl ?_ | refine x_w (stp_call (c1) rfl rfl rfl rfl rfl) rfl rfl rfl ?_ | refine x_d (stp_call (c1) rfl rfl rfl rfl rfl) rfl rfl rfl ?_) | (refine is_fn 7 ?_; first | refine x_q (stp_call (m1) rfl rfl rfl rfl rfl) rfl ?_ | refine x_w (stp_call (m1) rfl rfl rfl rfl rfl) rfl rfl rfl ?_ | refine x_d (stp_call (m1) rfl rfl rfl rfl rfl) rfl rfl rfl ?_) | (refine is_fn 7 ?_; first | refine x_q (stp_call (m2) rfl rfl rfl rfl rfl) rfl ?_ | refine x_w (stp_call (m2) rfl rfl rfl rfl rfl) rfl rfl rfl ?_ | refine x_d (stp_call (m2) rfl rfl rfl rfl rfl) rfl rfl rfl ?_))) | (refine is_grd ?_; first | refine x_on rfl rfl ?_ | refine x_off rfl rfl rfl rfl ?_ | (refine x_gsplit rfl rfl (fun hc => ?_) (fun hc => ?_) <;> (try simp only [cmpB, decide_eq_true_eq, decide_eq_false_iff_not, beq_iff_eq, bne_iff_ne, ne_eq, Bool.not_eq_true, beq_eq_false_iff_ne, bne_eq_false_iff_eq, Int.not_lt, Int.not_le, Decidable.not_not] at hc))) | (refine is_bin ?_; first | refine x_q (stp_cmp_t rfl rfl rfl (by unfold cmpP; omega)) rfl ?_ | refine x_q (stp_cmp_f rfl rfl rfl (by unfold cmpP; omega)) rfl ?_ | refine x_q (stp_cmp rfl rfl rfl) rfl ?_ | refine x_q (stp_add rfl rfl ⟨by omega, by omega⟩) rfl ?_ | refine x_q (stp_sub rfl rfl ⟨by omega, by omega⟩) rfl ?_ | refine x_q (stp_mul rfl rfl ⟨by omega, by omega⟩) rfl ?_ | refine x_q (stp_quo rfl rfl (by assumption) (by omega)) rfl ?_ | refine x_q (stp_rem rfl rfl (by omega)) rfl ?_ | refine x_q (stp_xor rfl rfl) rfl ?_ | refine x_q (stp_shlI rfl rfl (by omega)) rfl ?_ | refine x_q (stp_shrI rfl rfl (by omega)) rfl ?_ | refine x_q (stp_shift (.inl ⟨rfl, rfl⟩) rfl rfl (by omega)) rfl ?_ | refine x_q (stp_shift (.inr ⟨rfl, rfl⟩) rfl rfl (by omega)) rfl ?_ | refine x_q (stp_bool2 tok rfl rfl rfl rfl (.inl ⟨rfl, rfl⟩)) rfl ?_ | refine x_q (stp_bool2 tok rfl rfl rfl rfl (.inr ⟨rfl, rfl⟩)) rfl ?_ | refine x_q (stp_eqlNil tok (.inl ⟨rfl, rfl⟩) rfl rfl rfl) rfl ?_ | refine x_q (stp_eqlNil_not tok (.inl ⟨rfl, rfl⟩) rfl rfl rfl rfl) rfl ?_ | refine x_q (stp_andI rfl rfl) rfl ?_ | refine x_q (stp_orI rfl rfl) rfl ?_ | refine x_q (stp_bicI rfl rfl) rfl ?_ | refine x_q (stp_strEqV rfl rfl (by assumption)) rfl ?_ | refine x_q (stp_strEq rfl rfl) rfl ?_ | refine x_q (stp_strNeV rfl rfl (by assumption)) rfl ?_ | refine x_q (stp_strNe rfl rfl) rfl ?_) | (refine is_idx ?_; first | refine x_q (stp_indexAddr_sl tok rfl rfl rfl rfl rfl (by omega) (by first | rfl | assumption) rfl rfl) rfl ?_ | refine x_q (stp_indexAddr_r0 tok rfl rfl rfl rfl rfl rfl (by omega) (by omega) rfl) rfl ?_ | refine x_q (stp_indexAddr_box tok rfl rfl rfl rfl rfl rfl (by omega) (by omega)) rfl ?_) | (refine is_load ?_; first | refine x_q (stp_load_fp1 tok rfl rfl rfl (by first | rfl | assumption) rfl) rfl ?_ | refine x_q (stp_load_fpa tok rfl rfl rfl (by first | rfl | assumption) rfl) rfl ?_ | refine x_q (stp_load_arr1 tok rfl rfl rfl rfl (by first | rfl | assumption) rfl) rfl ?_ | refine x_q (stp_load_arra tok rfl rfl rfl rfl (by first | rfl | assumption) rfl) rfl ?_) | (refine is_fad ?_; first | refine x_q (stp_fieldAddr_arr tok rfl rfl rfl rfl rfl rfl rfl rfl) rfl ?_ | refine x_q (stp_fieldAddr_fp tok rfl (by first | rfl | assumption) rfl rfl rfl rfl rfl rfl) rfl ?_) | (refine is_app ?_; first | refine x_appref0 tok rfl rfl rfl rfl rfl rfl rfl (by first | (intro y hy; cases hy; rfl) | exact map_hd _ _ (fun _ => rfl)) rfl rfl rfl (by first | omega | (simp; done) | (simp; omega)) rfl ?_ | refine x_appref tok rfl rfl rfl rfl rfl rfl rfl rfl rfl rfl rfl (by first | (intro y hy; cases hy; rfl) | exact map_hd _ _ (fun _ => rfl)) (by first | omega | (simp; done) | (simp; omega)) rfl ?_) | (refine is_un ?_; first | refine x_q (stp_neg rfl ⟨by omega, by omega⟩) rfl ?_) | (refine is_conv ?_; first | refine x_q (stp_conv_in tok rfl rfl rfl rfl ⟨by omega, by omega⟩) rfl ?_ | refine x_q (stp_conv tok rfl rfl rfl rfl) rfl ?_ | refine x_q (stp_convStr tok rfl rfl rfl rfl rfl rfl rfl (by first | rfl | assumption)) rfl ?_) | (refine is_slc ?_; first | refine x_slcL tok rfl rfl rfl rfl rfl (by first | (intro y hy; cases hy; rfl) | exact map_hd _ _ (fun _ => rfl) | (simp; done)) (by omega) (by simp; omega) (by first | exact List.map_drop.symm | rfl) rfl ?_ | refine x_slcH tok rfl rfl rfl rfl rfl (by first | (intro y hy; cases hy; rfl) | exact map_hd _ _ (fun _ => rfl) | (simp; done)) (by omega) (by simp; omega) (by first | exact List.map_take.symm | rfl) rfl ?_) | (refine is_app ?_; first | refine x_appnilK 1019 tok rfl rfl rfl rfl rfl rfl (by intro y hy; cases hy; rfl) rfl rfl rfl (by simp) rfl rfl rfl ?_ | refine x_appnilK 1029 tok rfl rfl rfl rfl rfl rfl (by intro y hy; cases hy; rfl) rfl rfl rfl (by simp at hpl ⊢; omega) rfl rfl rfl ?_) | (refine is_sto ?_; refine x_nest 1019 rfl ?_) | (refine is_nck ?_; refine x_q (stp_nilCheck_arr rfl rfl rfl) rfl ?_) | refine x_autow tok rfl rfl rfl rfl ?_ | (refine is_sto ?_; first | refine x_autos tok rfl rfl rfl ?_ | refine x_stoa tok rfl rfl rfl (by first | rfl | assumption) rfl rfl rfl rfl rfl rfl ?_ | refine x_sto1 tok rfl rfl rfl (by first | rfl | assumption) rfl rfl rfl rfl rfl rfl rfl rfl ?_) | refine x_nil ?_ | refine x_nilD (by kernel_rfl) ?_) | (first | refine sim_seq ?_ | refine x_region ?_ | refine x_draw rfl ?_ | refine sim_cond_true rfl ?_ | refine sim_cond_false rfl ?_ | (refine sim_cond rfl (fun hc => ?_) (fun hc => ?_) <;> (try simp only [cmpB, decide_eq_true_eq, decide_eq_false_iff_not, beq_iff_eq, bne_iff_ne, ne_eq, Bool.not_eq_true, beq_eq_false_iff_ne, bne_eq_false_iff_eq, Int.not_lt, Int.not_le, Decidable.not_not] at hc)) | refine sim_skip ?_ | refine sim_ret ?_ | refine sim_exit ?_)))
    refine sim_join [7] [7, 8] ⟨[(7, .ptr 7 0 0), (8, iA lo1)], [(7, .box [slA jnA (gwF ⟨p0 :: pr, cf0, st0⟩ p0 pr [j1] a0 ar per cap hold lock w b).js, slA agA (gwF ⟨p0 :: pr, cf0, st0⟩ p0 pr [j1] a0 ar per cap hold lock w b).ags, iA (gwF ⟨p0 :: pr, cf0, st0⟩ p0 pr [j1] a0 ar per cap hold lock w b).per, iA (gwF ⟨p0 :: pr, cf0, st0⟩ p0 pr [j1] a0 ar per cap hold lock w b).cap, iA (gwF ⟨p0 :: pr, cf0, st0⟩ p0 pr [j1] a0 ar per cap hold lock w b).hold, iA (gwF ⟨p0 :: pr, cf0, st0⟩ p0 pr [j1] a0 ar per cap hold lock w b).lock])]⟩ rfl ?_ ?_
    · have hw : w = 0 ∨ w = 1 ∨ w = 2 ∨ w = 3 ∨ w = 4 ∨ w = 5 ∨ w = 6 := by omega
      clear c1 c2 h1 h2 h3 hgl hgj hb1 hb2
      rcases hw with rfl | rfl | rfl | rfl | rfl | rfl | rfl
      all_goals
        (refine WW ?_)
        exact ⟨rfl, st_eq (tk_all rfl) (tk_all rfl)⟩
    · generalize gwF ⟨p0 :: pr, cf0, st0⟩ p0 pr [j1] a0 ar per cap hold lock w b = g' at *
      clear hc c1 hlj hlp hla hn
      clear m1 m2
      (have zc1 := c2; have zc2 := aw; refine WW ?_; clear zc1 zc2)
      exact fin_ret [] rfl rfl rfl rfl
open Go.RowKit in
theorem boundGrows_w (A : Option Addr) (n c : Nat) (xs : List Int) (which byy : Int) (w : World) (h : LIn .i64 w A n c xs) :
    Calls Try.prog 3 #[.slice A n c, .int .i64 which, .int .i64 byy] w fun e w' => e = .returned (.bool true) ∧ Below w.heap.size w w' :=
  (grows_c xs h.le which byy).lawL (cs := [.slice A n c, .int .i64 which, .int .i64 byy]) ⟨h.repf dom0, .s _, .s _, trivial⟩
end Av
end Go.Proofs.Ytianonghhmiooaa
