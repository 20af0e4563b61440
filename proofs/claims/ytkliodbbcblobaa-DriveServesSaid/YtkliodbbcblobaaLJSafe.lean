
/- The law JunctionSafe. -/
import Derived.Test.YtkliodbbcblobaaJuC
namespace Go.Proofs.Ytkliodbbcblobaa
namespace Av
set_option linter.unusedSimpArgs false
set_option linter.unusedVariables false
set_option maxRecDepth 4000
set_option maxHeartbeats 1000000
theorem quo_r {a : Int} (h : InR .i64 a) (n : Int) (hn : 1 ≤ n) : InR .i64 (a.tdiv n) := by
  unfold InR at h ⊢
  have e1 : IntKind.i64.min = -9223372036854775808 := by decide
  have e2 : IntKind.i64.max = 9223372036854775807 := by decide
  rw [e1, e2] at *
  have h1 : (a.tdiv n).natAbs ≤ a.natAbs := by
    rw [Int.natAbs_tdiv]
    exact Nat.div_le_self _ _
  by_cases hb : 0 ≤ a
  · have h3 : 0 ≤ a.tdiv n := Int.tdiv_nonneg hb (by omega)
    omega
  · have h3 : a.tdiv n ≤ 0 := by
      have := Int.tdiv_nonneg (a := -a) (b := n) (by omega) (by omega)
      rw [Int.neg_tdiv] at this
      omega
    omega
/-- What is shown green or yellow. -/
def ssB (s : Sg) (p : Nat) : Bool := nrB ((laF s).getD p default)
theorem la_at (s : Sg) (p : Nat) (hp : p < s.c.li.length) : (laF s).getD p default = laO s.lat (liO s.c p) := by
  unfold laF liO
  simp [List.getD_eq_getElem?_getD, hp]
theorem ss_safe {j : Jn} (J : JV j) {s : Sg} (C : CV j s.c) (p q : Nat) (hp : p < j.ph.length) (hq : q < j.ph.length) : (ssB s p && (ssB s q && cfP j.cf p q)) = false := by
  have hn := C.n
  unfold ssB
  rw [la_at s p (by omega), la_at s q (by omega)]
  unfold laO
  cases s.lat with
  | true => rfl
  | false => exact cv_pair J C p q hp hq
theorem lv_n4 {p : Ph} {l : Li} (h : lvF p l = true) : l.lamp ≠ 4 := by
  intro e
  unfold lvF at h
  rw [if_neg (by omega), if_neg (by omega), if_neg (by omega), if_neg (by omega)] at h
  cases h
def jsK (a n : Int) : Int := if a % 4 = 3 then a.tdiv 4 % n else -1
def jsX (j : Jn) (s : Sg) (a n : Int) : Sg := sjF j s (a.tdiv 64 % (n + 1) - 1) (jsK a n)
def jsY (j : Jn) (s : Sg) (a n : Int) : Sg := if a.tdiv 512 % 5 = 4 then srF j (jsX j s a n) else jsX j s a n
def jsS (j : Jn) (n : Int) (ts : List Int) : Nat → Sg
  | 0 => newS j
  | i + 1 => jsY j (jsS j n ts i) (ts.getD i default) n
theorem jsX_v {j : Jn} (J : JV j) {s : Sg} (C : CV j s.c) (a n : Int) : CV j (jsX j s a n).c := sj_v J C _ _
theorem jsY_v {j : Jn} (J : JV j) {s : Sg} (C : CV j s.c) (a n : Int) : CV j (jsY j s a n).c := by
  unfold jsY
  split
  · exact sr_v J (jsX_v J C a n)
  · exact jsX_v J C a n
theorem jsS_v {j : Jn} (J : JV j) (n : Int) (ts : List Int) : ∀ i, CV j (jsS j n ts i).c
  | 0 => cv_in J
  | i + 1 => jsY_v J (jsS_v J n ts i) _ _
theorem sj_lat {j : Jn} {s : Sg} {t k : Int} (h : s.lat = true) : (sjF j s t k).lat = true := by
  unfold sjF
  rw [if_pos h]
  exact h
theorem in_red (j : Jn) (hn : j.ph.length ≤ 8) : seF (newS j).c = 0 := by
  unfold seF
  have h : ∀ p, stB (newS j).c p = false := fun p => by
    unfold stB liO newS inF
    simp only [List.getD_eq_getElem?_getD, List.getElem?_replicate]
    split <;> rfl
  have : ∀ n, bsF (stB (newS j).c) n = 0 := fun n => by
    induction n with
    | zero => rfl
    | succ n ih =>
      unfold bsF
      rw [h n, if_neg Bool.false_ne_true]
      exact ih
  exact this _
theorem safe_c (l : List Int) (hl : l.length ≤ 9223372036854775807) (ts : List Int) (hts : ts.length ≤ 9223372036854775807) (hir : ∀ x ∈ ts, InR .i64 x) : CallSim Try.prog 4 [slA iA l, slA iA ts] [] (bA true) [] := by
  have aw := awake11_c
  have hlt := map_len iA ts
  by_cases h150 : 120 < (ts.length : Int)
  · (refine callSim_of tok Try.func4 rfl (fun args w => Try.call4 args w) rfl rfl rfl (fun F hF => ?_))
    (have zc1 := aw; refine WL ?_; clear zc1)
    exact fin_ret [] rfl rfl rfl rfl
  have hn := new_c l hl
  generalize (⟨l, 0, Nat.zero_le _, hl⟩ : Dk) = d0 at *
  have cj := junction_c d0
  have J := jv_jnF d0
  generalize jnF d0 = j at *
  generalize jnD d0 = d1 at *
  have hjn := J.n
  have hjc := J.c
  have hlp := map_len phA j.ph
  have c1 := snew_c j J
  have e0 : newS j = jsS j ((j.ph.map phA).length : Int) ts 0 := rfl
  rw [e0] at c1
  clear e0
  have CN := jsS_v J ((j.ph.map phA).length : Int) ts
  (refine callSim_of tok Try.func4 rfl (fun args w => Try.call4 args w) rfl rfl rfl (fun F hF => ?_))
  (have zc1 := aw; have zc2 := hn; have zc3 := cj; have zc4 := c1; refine WL ?_; clear zc1 zc2 zc3 zc4)
  (refine sim_cnt (ts.length) [6, 5] [5] [5, 6, 28, 29] [30, 5, 6, 28, 29] rfl (fun i T U => ⟨(30, iA i) :: T, (6, .box [slA liA (jsS j ((j.ph.map phA).length : Int) ts i).c.li, iA (jsS j ((j.ph.map phA).length : Int) ts i).c.gr, slA iA (jsS j ((j.ph.map phA).length : Int) ts i).c.nx, iA (jsS j ((j.ph.map phA).length : Int) ts i).c.wt, bA (jsS j ((j.ph.map phA).length : Int) ts i).lat]) :: U⟩) ?_; (conv => whnf); refine ⟨by rfl, ?_, ?_⟩)
  · intro u hu
    have hy := map_at iA ts u hu
    have hri : InR .i64 (ts.getD u default) := hir _ (by simp [List.getD, hu])
    have C0 := CN u
    rw [show jsS j ((j.ph.map phA).length : Int) ts (u + 1) = jsY j (jsS j ((j.ph.map phA).length : Int) ts u) (ts.getD u default) ((j.ph.map phA).length : Int) from rfl]
    clear CN aw hn cj c1 hir
    generalize jsS j ((j.ph.map phA).length : Int) ts u = s at *
    generalize ts.getD u default = a at *
    have q4 := quo_r hri 4 (by omega)
    have q64 := quo_r hri 64 (by omega)
    have q512 := quo_r hri 512 (by omega)
    have m1 := mod_c a 4 (by omega) (by omega)
    have m2 := mod_c (a.tdiv 4) ((j.ph.map phA).length : Int) (by omega) (by omega)
    have m3 := mod_c (a.tdiv 64) (((j.ph.map phA).length : Int) + 1) (by omega) (by omega)
    have m4 := mod_c (a.tdiv 512) 5 (by omega) (by omega)
    have b3 := Int.emod_nonneg (a.tdiv 64) (show ((j.ph.map phA).length : Int) + 1 ≠ 0 by omega)
    have b4 := Int.emod_lt_of_pos (a.tdiv 64) (show 0 < ((j.ph.map phA).length : Int) + 1 by omega)
    have X := jsX_v J C0 a ((j.ph.map phA).length : Int)
    have hst := sstep_c j J s C0 (a.tdiv 64 % (((j.ph.map phA).length : Int) + 1) - 1) (jsK a ((j.ph.map phA).length : Int))
    have hlat := sj_lat (j := j) (s := s) (t := a.tdiv 64 % (((j.ph.map phA).length : Int) + 1) - 1) (k := jsK a ((j.ph.map phA).length : Int))
    unfold jsY
    change CallSim Try.prog 26 [jnA j, sgA s, iA (a.tdiv 64 % (((j.ph.map phA).length : Int) + 1) - 1), iA (jsK a ((j.ph.map phA).length : Int))] [] (sgA (jsX j s a ((j.ph.map phA).length : Int))) [] at hst
    change s.lat = true → (jsX j s a ((j.ph.map phA).length : Int)).lat = true at hlat
    generalize jsX j s a ((j.ph.map phA).length : Int) = x at *
    have hxn := X.n
    have hxm := X.m
    have cl := lamps_c x (by omega)
    have crs := sreset_c j J x (by omega) (by omega)
    have hll := map_len iA (laF x)
    have hlx : (laF x).length = x.c.li.length := by simp [laF]
    have hsb := bsF_bd (ssB x) (laF x).length (by omega)
    have hp8 := p2_8 (n := (laF x).length) (by omega)
    have ccl := rclash_c j.cf (by omega) (bsF (ssB x) (laF x).length) (by omega) (fun p q hp hq => by
      rw [inS_n _ (by omega) (by omega), inS_n _ (by omega) (by omega)]
      exact ss_safe J X p q (by omega) (by omega))
    have cz := rset_c (newS j).c (by show (List.replicate _ _).length ≤ 25; rw [List.length_replicate]; omega)
    rw [in_red j hjn.2] at cz
    have hk : (a % 4 = 3 ∧ jsK a ((j.ph.map phA).length : Int) = a.tdiv 4 % ((j.ph.map phA).length : Int)) ∨ (a % 4 ≠ 3 ∧ jsK a ((j.ph.map phA).length : Int) = -1) := by
      unfold jsK
      by_cases h : a % 4 = 3
      · exact .inl ⟨h, if_pos h⟩
      · exact .inr ⟨h, if_neg h⟩
    have hla := fun i hi => la_at x i hi
    have hlv := fun i (hi : i < j.ph.length) => lv_n4 (X.k i hi)
    generalize jsK a ((j.ph.map phA).length : Int) = K at *
    generalize a.tdiv 4 % ((j.ph.map phA).length : Int) = r4 at *
    generalize a.tdiv 64 % (((j.ph.map phA).length : Int) + 1) = r64 at *
    obtain ⟨sc, sl⟩ := s
    obtain ⟨xc, xl⟩ := x
    dsimp only at *
    have hlc : (sl = true ∧ xl = true) ∨ (sl = false ∧ xl = true) ∨ (sl = false ∧ xl = false) := by
      cases sl <;> cases xl <;> simp at hlat ⊢
    clear hlat hri
    unfold srF
    dsimp only
    have hss : ∀ i, ssB ⟨xc, xl⟩ i = nrB ((laF ⟨xc, xl⟩).getD i default) := fun _ => rfl
    generalize ssB ⟨xc, xl⟩ = sb at *
    generalize laF ⟨xc, xl⟩ = ls at *
    generalize hset : bsF sb ls.length = se at *
    rcases hk with ⟨h3, rfl⟩ | ⟨h3, rfl⟩
    all_goals rcases hlc with ⟨rfl, rfl⟩ | ⟨rfl, rfl⟩ | ⟨rfl, rfl⟩
    all_goals
      (have zc1 := m1; have zc2 := m2; have zc3 := m3; have zc4 := hst; have zc5 := cl; refine WW ?_; clear zc1 zc2 zc3 zc4 zc5)
    all_goals
      (refine sim_cnt (ls.length) [5, 6, 10] [5, 6, 10] [5, 6, 8, 10, 11, 28, 29, 30, 64, 65] [12, 66, 5, 6, 8, 10, 11, 28, 29, 30, 64, 65] rfl (fun i T U => ⟨(12, iA (bsF sb i)) :: (66, iA i) :: T, U⟩) ?_; (conv => whnf); refine ⟨by rfl, ?_, ?_⟩)
      · intro i hi
        have hyv := map_at iA ls i hi
        have hai := hla i (by omega)
        have hvi := hlv i (by omega)
        have ho := bsF_or sb i (by omega)
        have e : bsF sb (i + 1) = if nrB (ls.getD i default) = true then bsF sb i + p2 i else bsF sb i := by rw [← hss]; rfl
        rw [← ho] at e
        rw [e]
        clear hst cl crs ccl cz m1 m2 m3 m4 hla hlv e ho hset hss
        generalize ls.getD i default = k at *
        generalize bsF sb i = b at *
        unfold laO at hai
        unfold nrB
        first
          | (rw [if_pos rfl] at hai
             rw [decide_eq_false (by omega), if_neg Bool.false_ne_true]
             (refine WW ?_)
             rfl)
          | (rw [if_neg Bool.false_ne_true] at hai
             by_cases hk1 : k = 1
             · rw [decide_eq_true (.inl hk1), if_pos rfl]
               (refine WW ?_)
               rfl
             by_cases hk2 : k = 2
             · rw [decide_eq_true (.inr hk2), if_pos rfl]
               (refine WW ?_)
               rfl
             · rw [decide_eq_false (by omega), if_neg Bool.false_ne_true]
               (refine WW ?_)
               rfl)
      · rw [hset]
        by_cases h5 : a.tdiv 512 % 5 = 4
        · rw [if_pos h5]
          clear hst cl hla hlv hss
          first
            | (change CallSim Try.prog 28 [jnA j, sgA ⟨xc, true⟩] [] (.tup [sgA ⟨inF j, false⟩, bA true]) [] at crs
               change CallSim Try.prog 31 [ctA (inF j)] [] (iA 0) [] at cz
               rw [if_pos rfl, show newS j = ⟨inF j, false⟩ from rfl]
               dsimp only
               generalize inF j = z at *
               (have zc1 := ccl; have zc2 := m4; have zc3 := crs; have zc4 := cz; refine WW ?_; clear zc1 zc2 zc3 zc4)
               rfl)
            | (change CallSim Try.prog 28 [jnA j, sgA ⟨xc, false⟩] [] (.tup [sgA ⟨xc, false⟩, bA false]) [] at crs
               rw [if_neg Bool.false_ne_true]
               dsimp only
               (have zc1 := ccl; have zc2 := m4; have zc3 := crs; refine WW ?_; clear zc1 zc2 zc3)
               rfl)
        · rw [if_neg h5]
          (have zc1 := ccl; have zc2 := m4; refine WW ?_; clear zc1 zc2)
          rfl
  · clear CN
    (have zc1 := aw; refine WW ?_; clear zc1)
    exact fin_ret [] rfl rfl rfl rfl
end Av
end Go.Proofs.Ytkliodbbcblobaa
