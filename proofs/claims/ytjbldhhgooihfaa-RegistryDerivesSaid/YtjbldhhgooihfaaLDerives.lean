
/- The law RegistryDerives. -/
import Derived.Test.YtjbldhhgooihfaaRhC
import Derived.Test.YtjbldhhgooihfaaLUnits
import Derived.Test.YtjbldhhgooihfaaRgF
namespace Go.Proofs.Ytjbldhhgooihfaa
namespace Av
set_option linter.unusedSimpArgs false
set_option linter.unusedVariables false
set_option maxRecDepth 4000
set_option maxHeartbeats 4000000
def T1 (R : Int) : Tk := ⟨true, secF 5, 0, orI R 4, 3, 0⟩
def T2 (R c u : Int) : Tk := ⟨true, secF 6, 1, R, c, u⟩
def T0 (a : Ag) : Tk := ⟨true, a.sec, -1, a.rights, a.cls, 0⟩
def L1 (a : Ag) (R : Int) : List Tk := [T0 a, T1 R, frT, frT, frT, frT, frT, frT]
def L2 (a : Ag) (R c u : Int) : List Tk := [T0 a, T1 R, T2 R c u, frT, frT, frT, frT, frT]
theorem fin64 : ∀ R : _root_.Fin 64, (rvF (orI R.val 4) && (wiF (orI R.val 4) 63 && (wiF R.val (orI R.val 4) && rvF R.val))) = true := by decide +kernel
theorem bits64 (R : Int) (h : 0 ≤ R ∧ R < 64) : rvF (orI R 4) = true ∧ wiF (orI R 4) 63 = true ∧ wiF R (orI R 4) = true ∧ rvF R = true := by
  have := fin64 ⟨R.toNat, by omega⟩
  dsimp only at this
  rw [show ((R.toNat : Nat) : Int) = R by omega] at this
  simp only [Bool.and_eq_true] at this
  exact ⟨this.1, this.2.1, this.2.2.1, this.2.2.2⟩
theorem root_t (a : Ag) (h : AgV a) : rootF (T0 a) = true := by
  obtain ⟨h1, h2, h3, h4, h5, h6, h7, h8, h9⟩ := h
  have hrv : rvF a.rights = true := decide_eq_true h4
  have hs2 : so2F ⟨true, a.sec, -1, a.rights, a.cls, 0⟩ = true := decide_eq_true ⟨h1, h5.1, h5.2, (show (0 : Int) ≤ 0 by omega), (show (0 : Int) ≤ 2147483648 by omega)⟩
  show (true && decide ((-1 : Int) = -1 ∧ (0 : Int) = 0) && (rvF a.rights && so2F ⟨true, a.sec, -1, a.rights, a.cls, 0⟩)) = true
  rw [hrv, hs2]; rfl
theorem tok1 (a : Ag) (h63 : a.rights = 63) (h3 : a.cls = 3) (R : Int) (hR : 0 ≤ R ∧ R < 64) (l : List Tk) (hd : deF l 1 0 = true) (h1 : l.getD 1 default = T1 R) (h0 : l.getD 0 default = T0 a) : tokF l 1 = true := by
  obtain ⟨b1, b2, b3, b4⟩ := bits64 R hR
  have hso : soF (T1 R) = true := by
    have : so2F (T1 R) = true := decide_eq_true ⟨by show (((secF 5).length : Nat) : Int) = 8; rw [secF_len]; rfl, by show (0 : Int) ≤ 3; omega, by show (3 : Int) ≤ 3; omega, by show (0 : Int) ≤ 0; omega, by show (0 : Int) ≤ 2147483648; omega⟩
    show (rvF (orI R 4) && so2F (T1 R)) = true
    rw [b1, this]; rfl
  unfold tokF
  rw [show (1 : Int).toNat = 1 from rfl, h1, show (T1 R).par.toNat = 0 from rfl, h0, if_pos (show (T1 R).used = true from rfl), hso, hd]
  show (true && true && (wiF (orI R 4) a.rights && decide ((3 : Int) ≤ a.cls) && !laF 0 0)) = true
  rw [h63, h3, b2]
  rfl
theorem tv1 (a : Ag) (h : AgV a) (h63 : a.rights = 63) (h3 : a.cls = 3) (R : Int) (hR : 0 ≤ R ∧ R < 64) : tvF (L1 a R) = true := by
  have ht := tok1 a h63 h3 R hR (L1 a R) rfl rfl rfl
  have hall : ((List.range 7).all fun i => tokF (L1 a R) ((i : Int) + 1)) = true := List.all_eq_true.2 fun i hi => by
    have hi := List.mem_range.1 hi
    match i, hi with
    | 0, _ => exact ht
    | 1, _ => rfl
    | 2, _ => rfl
    | 3, _ => rfl
    | 4, _ => rfl
    | 5, _ => rfl
    | 6, _ => rfl
  unfold tvF
  rw [hall, show (L1 a R).getD 0 default = T0 a from rfl, root_t a h]
  rfl
theorem tv2 (a : Ag) (h : AgV a) (h63 : a.rights = 63) (h3 : a.cls = 3) (R c u : Int) (hR : 0 ≤ R ∧ R < 64) (hc : 0 ≤ c ∧ c ≤ 3) (hu : 0 ≤ u ∧ u ≤ 1000) : tvF (L2 a R c u) = true := by
  have ht := tok1 a h63 h3 R hR (L2 a R c u) rfl rfl rfl
  obtain ⟨b1, b2, b3, b4⟩ := bits64 R hR
  have ht2 : tokF (L2 a R c u) 2 = true := by
    have hso : soF (T2 R c u) = true := by
      have : so2F (T2 R c u) = true := decide_eq_true ⟨by show (((secF 6).length : Nat) : Int) = 8; rw [secF_len]; rfl, hc.1, hc.2, hu.1, by show u ≤ 2147483648; omega⟩
      show (rvF R && so2F (T2 R c u)) = true
      rw [b4, this]; rfl
    unfold tokF
    rw [show (2 : Int).toNat = 2 from rfl, show (L2 a R c u).getD 2 default = T2 R c u from rfl, show (T2 R c u).par.toNat = 1 from rfl, show (L2 a R c u).getD 1 default = T1 R from rfl, if_pos (show (T2 R c u).used = true from rfl), hso, show deF (L2 a R c u) 2 0 = true from rfl]
    show (true && true && (wiF R (orI R 4) && decide (c ≤ 3) && !laF u 0)) = true
    rw [b3, decide_eq_true hc.2]
    rfl
  have hall : ((List.range 7).all fun i => tokF (L2 a R c u) ((i : Int) + 1)) = true := List.all_eq_true.2 fun i hi => by
    have hi := List.mem_range.1 hi
    match i, hi with
    | 0, _ => exact ht
    | 1, _ => exact ht2
    | 2, _ => rfl
    | 3, _ => rfl
    | 4, _ => rfl
    | 5, _ => rfl
    | 6, _ => rfl
  unfold tvF
  rw [hall, show (L2 a R c u).getD 0 default = T0 a from rfl, root_t a h]
  rfl
def rgY (a : Ag) (l : List Tk) : Rg := ⟨1, a, l, [], ⟨a.burst, a.rate, a.burst⟩⟩
theorem rgY_o (a : Ag) (h : AgV a) (l : List Tk) (hv : tvF l = true) (hb : TkB l) : RgO (rgY a l) := by
  have h1 := h.s
  have h2 := h.l
  have h8 := h.b
  have h9 := h.t
  refine ⟨⟨hb, by show a.sec.length ≤ 1000000; omega, by show a.lim.length ≤ 1000000; omega, by show (0 : Nat) ≤ 1000000; omega⟩, ⟨by show (0 : Int) ≤ 1; omega, by show (1 : Int) < 4; omega⟩, h, hv, rfl, ?_, rfl, rfl⟩
  show bvF ⟨a.burst, a.rate, a.burst⟩ = true
  unfold bvF
  exact decide_eq_true (by dsimp only; omega)
theorem tkB_1 (a : Ag) (h : AgV a) (R : Int) : TkB (L1 a R) := by
  have h1 := h.s
  refine ⟨by show (8 : Nat) ≤ 1000000; omega, fun t ht => ?_⟩
  simp only [L1, List.mem_cons, List.mem_nil_iff, or_false] at ht
  rcases ht with rfl | rfl | rfl | rfl | rfl | rfl | rfl | rfl
  · show a.sec.length ≤ 1000000; omega
  · show (secF 5).length ≤ 1000000; rw [secF_len]; omega
  all_goals (show (0 : Nat) ≤ 1000000; omega)
theorem tkB_2 (a : Ag) (h : AgV a) (R c u : Int) : TkB (L2 a R c u) := by
  have h1 := h.s
  refine ⟨by show (8 : Nat) ≤ 1000000; omega, fun t ht => ?_⟩
  simp only [L2, List.mem_cons, List.mem_nil_iff, or_false] at ht
  rcases ht with rfl | rfl | rfl | rfl | rfl | rfl | rfl | rfl
  · show a.sec.length ≤ 1000000; omega
  · show (secF 5).length ≤ 1000000; rw [secF_len]; omega
  · show (secF 6).length ≤ 1000000; rw [secF_len]; omega
  all_goals (show (0 : Nat) ≤ 1000000; omega)
/-- The agency's own token passes for all kinds. -/
theorem wide_ok (a : Ag) (h : AgV a) (h63 : a.rights = 63) (R c u k now : Int) (hb : 1 ≤ a.burst) : opE (rgY a (L2 a R c u)) ⟨k, 1 :: 0 :: a.sec, [], []⟩ now = 0 := by
  have hs := h.s
  have hck : ckB (L2 a R c u) 1 (1 :: 0 :: a.sec) k now = true := by
    unfold ckB
    rw [decide_eq_true ⟨by simp; omega, rfl⟩]
    have h1 : usF (L2 a R c u) ((1 :: 0 :: a.sec).getD 1 default) = true := rfl
    have h2 : eqY ((1 :: 0 :: a.sec).drop 2) (tkOf (L2 a R c u) (1 :: 0 :: a.sec)).sec = true := eqY_refl _
    have h3 : exF (tkOf (L2 a R c u) (1 :: 0 :: a.sec)) now = false := decide_eq_false (fun h => h.1 rfl)
    have h4 : (tkOf (L2 a R c u) (1 :: 0 :: a.sec)).rights = 63 := h63
    rw [h1, h2, h3, h4, pe63]
    rfl
  unfold opE
  rw [show (rgY a (L2 a R c u)).tk = L2 a R c u from rfl, show (rgY a (L2 a R c u)).num = 1 from rfl, hck, if_pos rfl, if_neg]
  rintro ⟨_, k2⟩
  have : (rgY a (L2 a R c u)).bk.level = a.burst := rfl
  omega
/-- What was derived is gone with what it came from. -/
theorem gone (a : Ag) (R c u k now : Int) : opE (rgY a (rvS (L2 a R c u) 1 (L2 a R c u).length)) ⟨k, 1 :: 2 :: secF 6, [], []⟩ now = 9 := by
  have hus : usF (rvS (L2 a R c u) 1 (L2 a R c u).length) ((1 :: 2 :: secF 6).getD 1 default) = false := rfl
  have hck : ckB (rvS (L2 a R c u) 1 (L2 a R c u).length) 1 (1 :: 2 :: secF 6) k now = false := by
    unfold ckB
    rw [hus, Bool.and_false, Bool.false_and]
  unfold opE
  rw [show (rgY a (rvS (L2 a R c u) 1 (L2 a R c u).length)).tk = rvS (L2 a R c u) 1 (L2 a R c u).length from rfl, show (rgY a (rvS (L2 a R c u) 1 (L2 a R c u).length)).num = 1 from rfl, hck, if_neg Bool.false_ne_true]
theorem derives_c (l : List Int) (hl : l.length ≤ 9223372036854775807) (rg cl lf nw kd : Int) : CallSim Try.prog 6 [slA iA l, iA rg, iA cl, iA lf, iA nw, iA kd] [] (bA true) [] := by
  have aw := awake17_c
  have hn := new_c l hl
  generalize (⟨l, 0, Nat.zero_le _, hl⟩ : Dk) = d0 at *
  have ca := agency_c d0 1 63 (by omega) (by omega)
  have hv := agV_agF d0 1 63 (by omega)
  have hby : BY (agF d0 1 63).sec := secF_by _
  have h63 : (agF d0 1 63).rights = 63 := rfl
  have h3 : (agF d0 1 63).cls = 3 := rfl
  have hbu : 1 ≤ (agF d0 1 63).burst ∧ (agF d0 1 63).burst ≤ 100 := by
    have q1 := nx_bd (ad (ad (ad (ad (ad (ad d0)))))) (3 - 1 + 1) (by omega)
    have q2 := nx_bd (ad7 d0) 5 (by omega)
    unfold agF; dsimp only; omega
  generalize agF d0 1 63 = a at *
  generalize ad (ad7 d0) = d1 at *
  have hs8 := hv.s
  have hl4 := hv.l
  have cr := gnew2_c 1 a (by omega) (by omega)
  rw [show rgN 1 a = rgY a (tkN a) from rfl] at cr
  have m1 := mod_c rg 64 (by omega) (by omega)
  have m2 := mod_c cl 4 (by omega) (by omega)
  have m3 := mod_c lf 30 (by omega) (by omega)
  have m4 := mod_c nw 30 (by omega) (by omega)
  have m5 := mod_c kd 13 (by omega) (by omega)
  have b1 : 0 ≤ rg % 64 ∧ rg % 64 < 64 := by omega
  have b2 : 0 ≤ cl % 4 ∧ cl % 4 ≤ 3 := by omega
  have b3 : 0 ≤ lf % 30 ∧ lf % 30 < 30 := by omega
  have b4 : 0 ≤ nw % 30 ∧ nw % 30 < 30 := by omega
  have b5 : 0 ≤ kd % 13 ∧ kd % 13 < 13 := by omega
  generalize rg % 64 = R at *
  generalize cl % 4 = c at *
  generalize lf % 30 = life at *
  generalize nw % 30 = now at *
  generalize kd % 13 = kind at *
  obtain ⟨f1, f2, f3, f4⟩ := bits64 R b1
  have f5 : 0 ≤ orI R 4 ∧ orI R 4 ≤ 63 := by unfold rvF at f1; exact of_decide_eq_true f1
  have hu : 0 ≤ unF life now ∧ unF life now ≤ 1000 := by unfold unF; split <;> omega
  have s5 := secret_c 5
  have s6 := secret_c 6
  have l5 := secF_len 5
  have l6 := secF_len 6
  have y5 := secF_by 5
  have y6 := secF_by 6
  have by0 := bytes2_c 1 0 a.sec (by omega) (by omega) (by omega) (by omega) (by omega)
  have v1 := tv1 a hv h63 h3 R b1
  have v2 := tv2 a hv h63 h3 R c (unF life now) b1 b2 hu
  have O0 := rgY_o a hv (tkN a) (tvF_new a hv) (rgN_b 1 a hv).tk
  have O1 := rgY_o a hv (L1 a R) v1 (tkB_1 a hv R)
  have O2 := rgY_o a hv (L2 a R c (unF life now)) v2 (tkB_2 a hv R c (unF life now))
  have bt0 : BY (1 :: 0 :: a.sec) := by_tok ⟨by omega, by omega⟩ ⟨by omega, by omega⟩ hby
  have bt2 : BY (1 :: 2 :: secF 6) := by_tok ⟨by omega, by omega⟩ ⟨by omega, by omega⟩ y6
  -- the first token
  have k1 : CallSim Try.prog 30 [rgA (rgY a (tkN a)), msA ⟨2, 1 :: 0 :: a.sec, [orI R 4, 3, 0], []⟩, iA 0, iA now, slA yA (secF 5)] [] (.tup [rgA (rgY a (L1 a R)), msA ⟨16, [], [1], 1 :: 1 :: secF 5⟩, bA true, iA 0]) [] :=
    dod_c (rgY a (tkN a)) O0 ⟨2, 1 :: 0 :: a.sec, [orI R 4, 3, 0], []⟩ rfl (by simp; omega) rfl 0 (orI R 4) 3 0 rfl ⟨f5.1, by omega⟩ (by omega) (secF 5) (by rw [l5]; rfl) now ⟨b4.1, by omega⟩ rfl (by show wiF (orI R 4) a.rights = true; rw [h63]; exact f2) ⟨by omega, by show (3 : Int) ≤ a.cls; omega⟩ ⟨by omega, by omega⟩ rfl 1 (by omega) (by show (1 : Nat) < 8; omega) (fun i hi => by
      have : i = 0 := by omega
      subst this; rfl) rfl
  -- the second
  have k2 : CallSim Try.prog 30 [rgA (rgY a (L1 a R)), msA ⟨2, 1 :: 1 :: secF 5, [R, c, life], []⟩, iA 1, iA now, slA yA (secF 6)] [] (.tup [rgA (rgY a (L2 a R c (unF life now))), msA ⟨16, [], [2], 1 :: 2 :: secF 6⟩, bA true, iA 0]) [] :=
    dod_c (rgY a (L1 a R)) O1 ⟨2, 1 :: 1 :: secF 5, [R, c, life], []⟩ rfl (by simp; omega) rfl 1 R c life rfl ⟨b1.1, by omega⟩ (by omega) (secF 6) (by rw [l6]; rfl) now ⟨b4.1, by omega⟩ rfl f3 ⟨b2.1, b2.2⟩ ⟨b3.1, by omega⟩ (decide_eq_false (fun h => h.1 rfl)) 2 (by omega) (by show (2 : Nat) < 8; omega) (fun i hi => by
      have : i = 0 ∨ i = 1 := by omega
      rcases this with rfl | rfl <;> rfl) rfl
  -- revoked
  have k3 : CallSim Try.prog 30 [rgA (rgY a (L2 a R c (unF life now))), msA ⟨3, 1 :: 0 :: a.sec, [1], []⟩, iA 0, iA now, slA yA []] [] (.tup [rgA (rgY a (rvS (L2 a R c (unF life now)) 1 (L2 a R c (unF life now)).length)), msA ⟨14, [], [3, 1], []⟩, bA false, iA 0]) [] :=
    dor_c (rgY a (L2 a R c (unF life now))) O2 ⟨3, 1 :: 0 :: a.sec, [1], []⟩ rfl (by simp; omega) rfl 0 1 rfl ⟨by omega, by omega⟩ now rfl rfl rfl
  -- opened
  have o1 := open_c (rgY a (L2 a R c (unF life now))) ⟨kind, 1 :: 2 :: secF 6, [], []⟩ now O2.b bt2 (by show a.burst ≤ 1000000; omega)
  have o2 := open_c (rgY a (L2 a R c (unF life now))) ⟨kind, 1 :: 0 :: a.sec, [], []⟩ now O2.b bt0 (by show a.burst ≤ 1000000; omega)
  rw [wide_ok a hv h63 R c (unF life now) kind now hbu.1] at o2
  have hb3 : RgB (rgY a (rvS (L2 a R c (unF life now)) 1 (L2 a R c (unF life now)).length)) := by
    refine ⟨⟨by show (rvS _ _ _).length ≤ 1000000; rw [rvS_len]; show (8 : Nat) ≤ 1000000; omega, fun t ht => ?_⟩, O2.b.s, O2.b.l, O2.b.v⟩
    unfold rgY rvS at ht
    dsimp only at ht
    obtain ⟨i, hi, rfl⟩ := List.mem_map.1 ht
    have hi := List.mem_range.1 hi
    unfold rvAt
    have hg : ((L2 a R c (unF life now)).getD i default).sec.length ≤ 1000000 := O2.b.tk.s _ (by rw [List.getD_eq_getElem?_getD, List.getElem?_eq_getElem hi]; exact List.getElem_mem _)
    have hf : frT.sec.length ≤ 1000000 := by show (0 : Nat) ≤ 1000000; omega
    (repeat' split) <;> first | exact hg | exact hf
  have o3 := open_c (rgY a (rvS (L2 a R c (unF life now)) 1 (L2 a R c (unF life now)).length)) ⟨kind, 1 :: 2 :: secF 6, [], []⟩ now hb3 bt2 (by show a.burst ≤ 1000000; omega)
  rw [gone a R c (unF life now) kind now] at o3
  have q1 : ((1 :: 1 :: secF 5).map yA).length = 10 := by simp [l5]
  have q2 : ((1 :: 2 :: secF 6).map yA).length = 10 := by simp [l6]
  have q3 : (([1] : List Int).map iA).length = 1 := rfl
  have q4 : (([1] : List Int).map iA)[(0 : Int).toNat]? = some (iA 1) := rfl
  clear O0 O1 O2 v1 v2 f1 f2 f3 f4 bt0 bt2 hb3 hv hby
  generalize rvS (L2 a R c (unF life now)) 1 (L2 a R c (unF life now)).length = l3 at *
  generalize L2 a R c (unF life now) = l2 at *
  generalize L1 a R = l1 at *
  generalize opR (rgY a l2) ⟨kind, 1 :: 2 :: secF 6, [], []⟩ now = oa at *
  generalize opR (rgY a l2) ⟨kind, 1 :: 0 :: a.sec, [], []⟩ now = ob at *
  generalize opR (rgY a l3) ⟨kind, 1 :: 2 :: secF 6, [], []⟩ now = oc at *
  generalize opS (rgY a l2) ⟨kind, 1 :: 2 :: secF 6, [], []⟩ now = pa at *
  generalize opS (rgY a l2) ⟨kind, 1 :: 0 :: a.sec, [], []⟩ now = pb at *
  generalize opS (rgY a l3) ⟨kind, 1 :: 2 :: secF 6, [], []⟩ now = pc at *
  generalize opE (rgY a l2) ⟨kind, 1 :: 2 :: secF 6, [], []⟩ now = ea at *
  generalize rgY a l3 = r3 at *
  generalize rgY a l2 = r2 at *
  generalize rgY a l1 = r1 at *
  generalize rgY a (tkN a) = r0 at *
  generalize secF 5 = w5 at *
  generalize secF 6 = w6 at *
  rw [show ∀ k x d, msA ⟨k, [], [x], d⟩ = .agg [iA k, .sl false [], .sl false (([x] : List Int).map iA), slA yA d] from fun _ _ _ => rfl] at *
  by_cases hea : ea = 0
  · subst hea
    (refine callSim_of tok Try.func6 rfl (fun args w => Try.call6 args w) rfl rfl rfl (fun F hF => ?_))
    (repeat' (first | (refine is_ops ?_; first | refine x_auto tok rfl rfl ?_ | (refine is_call ?_; (first | (refine is_fn 8 ?_; first | refine x_q (stp_call (hn) rfl rfl rfl rfl rfl) rfl ?_ | refine x_w (stp_call (hn) rfl rfl rfl rfl rfl) rfl rfl rfl ?_ | refine x_d (stp_call (hn) rfl rfl rfl rfl rfl) rfl rfl rfl ?_) | (refine is_fn 28 ?_; first | refine x_q (stp_call (ca) rfl rfl rfl rfl rfl) rfl ?_ | refine x_w (stp_call (ca) rfl rfl rfl rfl rfl) rfl rfl rfl ?_ | refine x_d (stp_call (ca) rfl rfl rfl rfl rfl) rfl rfl rfl ?_) | (refine is_fn 23 ?_; first | refine x_q (stp_call (cr) rfl rfl rfl rfl rfl) rfl ?_ | refine x_w (stp_call (cr) rfl rfl rfl rfl rfl) rfl rfl rfl ?_ | refine x_d (stp_call (cr) rfl rfl rfl rfl rfl) rfl rfl rfl ?_) | (refine is_fn 10 ?_; first | refine x_q (stp_call (m1) rfl rfl rfl rfl rfl) rfl ?_ | refine x_w (stp_call (m1) rfl rfl rfl rfl rfl) rfl rfl rfl ?_ | refine x_d (stp_call (m1) rfl rfl rfl rfl rfl) rfl rfl rfl ?_) | (refine is_fn 10 ?_; first | refine x_q (stp_call (m2) rfl rfl rfl rfl rfl) rfl ?_ | refine x_w (stp_call (m2) rfl rfl rfl rfl rfl) rfl rfl rfl ?_ | refine x_d (stp_call (m2) rfl rfl rfl rfl rfl) rfl rfl rfl ?_) | (refine is_fn 10 ?_; first | refine x_q (stp_call (m3) rfl rfl rfl rfl rfl) rfl ?_ | refine x_w (stp_call (m3) rfl rfl rfl rfl rfl) rfl rfl rfl ?_ | refine x_d (stp_call (m3) rfl rfl rfl rfl rfl) rfl rfl rfl ?_) | (refine is_fn 10 ?_; first | refine x_q (stp_call (m4) rfl rfl rfl rfl rfl) rfl ?_ | refine x_w (stp_call (m4) rfl rfl rfl rfl rfl) rfl rfl rfl ?_ | refine x_d (stp_call (m4) rfl rfl rfl rfl rfl) rfl rfl rfl ?_) | (refine is_fn 10 ?_; first | refine x_q (stp_call (m5) rfl rfl rfl rfl rfl) rfl ?_ | refine x_w (stp_call (m5) rfl rfl rfl rfl rfl) rfl rfl rfl ?_ | refine x_d (stp_call (m5) rfl rfl rfl rfl rfl) rfl rfl rfl ?_) | (refine is_fn 11 ?_; first | refine x_q (stp_call (by0) rfl rfl rfl rfl rfl) rfl ?_ | refine x_w (stp_call (by0) rfl rfl rfl rfl rfl) rfl rfl rfl ?_ | refine x_d (stp_call (by0) rfl rfl rfl rfl rfl) rfl rfl rfl ?_) | (refine is_fn 13 ?_; first | refine x_q (stp_call (s5) rfl rfl rfl rfl rfl) rfl ?_ | refine x_w (stp_call (s5) rfl rfl rfl rfl rfl) rfl rfl rfl ?_ | refine x_d (stp_call (s5) rfl rfl rfl rfl rfl) rfl rfl rfl ?_) | (refine is_fn 13 ?_; first | refine x_q (stp_call (s6) rfl rfl rfl rfl rfl) rfl ?_ | refine x_w (stp_call (s6) rfl rfl rfl rfl rfl) rfl rfl rfl ?_ | refine x_d (stp_call (s6) rfl rfl rfl rfl rfl) rfl rfl rfl ?_) | (refine is_fn 30 ?_; first | refine x_q (stp_call (k1) rfl rfl rfl rfl rfl) rfl ?_ | refine x_w (stp_call (k1) rfl rfl rfl rfl rfl) rfl rfl rfl ?_ | refine x_d (stp_call (k1) rfl rfl rfl rfl rfl) rfl rfl rfl ?_) | (refine is_fn 30 ?_; first | refine x_q (stp_call (k2) rfl rfl rfl rfl rfl) rfl ?_ | refine x_w (stp_call (k2) rfl rfl rfl rfl rfl) rfl rfl rfl ?_ | refine x_d (stp_call (k2) rfl rfl rfl rfl rfl) rfl rfl rfl ?_) | (refine is_fn 30 ?_; first | refine x_q (stp_call (k3) rfl rfl rfl rfl rfl) rfl ?_ | refine x_w (stp_call (k3) rfl rfl rfl rfl rfl) rfl rfl rfl ?_ | refine x_d (stp_call (k3) rfl rfl rfl rfl rfl) rfl rfl rfl ?_) | (refine is_fn 15 ?_; first | refine x_q (stp_call (o1) rfl rfl rfl rfl rfl) rfl ?_ | refine x_w (stp_call (o1) rfl rfl rfl rfl rfl) rfl rfl rfl ?_ | refine x_d (stp_call (o1) rfl rfl rfl rfl rfl) rfl rfl rfl ?_) | (refine is_fn 15 ?_; first | refine x_q (stp_call (o2) rfl rfl rfl rfl rfl) rfl ?_ | refine x_w (stp_call (o2) rfl rfl rfl rfl rfl) rfl rfl rfl ?_ | refine x_d (stp_call (o2) rfl rfl rfl rfl rfl) rfl rfl rfl ?_) | (refine is_fn 15 ?_; first | refine x_q (stp_call (o3) rfl rfl rfl rfl rfl) rfl ?_ | refine x_w (stp_call (o3) rfl rfl rfl rfl rfl) rfl rfl rfl ?_ | refine x_d (stp_call (o3) rfl rfl rfl rfl rfl) rfl rfl rfl ?_) | (refine is_fn 7 ?_; first | refine x_q (stp_call (aw) rfl rfl rfl rfl rfl) rfl ?_ | refine x_w (stp_call (aw) rfl rfl rfl rfl rfl) rfl rfl rfl ?_ | refine x_d (stp_call (aw) rfl rfl rfl rfl rfl) rfl rfl rfl ?_))) | (refine is_grd ?_; first | refine x_on rfl rfl ?_ | refine x_off rfl rfl rfl rfl ?_ | (refine x_gsplit rfl rfl (fun hc => ?_) (fun hc => ?_) <;> (try simp only [cmpB, decide_eq_true_eq, decide_eq_false_iff_not, beq_iff_eq, bne_iff_ne, ne_eq, Bool.not_eq_true, beq_eq_false_iff_ne, bne_eq_false_iff_eq, Int.not_lt, Int.not_le, Decidable.not_not] at hc))) | (refine is_bin ?_; first | refine x_q (stp_cmp_t rfl rfl rfl (by unfold cmpP; omega)) rfl ?_ | refine x_q (stp_cmp_f rfl rfl rfl (by unfold cmpP; omega)) rfl ?_ | refine x_q (stp_cmp rfl rfl rfl) rfl ?_ | refine x_q (stp_add rfl rfl ⟨by omega, by omega⟩) rfl ?_ | refine x_q (stp_sub rfl rfl ⟨by omega, by omega⟩) rfl ?_ | refine x_q (stp_mul rfl rfl ⟨by omega, by omega⟩) rfl ?_ | refine x_q (stp_quo rfl rfl (by assumption) (by omega)) rfl ?_ | refine x_q (stp_rem rfl rfl (by omega)) rfl ?_ | refine x_q (stp_xor rfl rfl) rfl ?_ | refine x_q (stp_shlI rfl rfl (by omega)) rfl ?_ | refine x_q (stp_shrI rfl rfl (by omega)) rfl ?_ | refine x_q (stp_shift (.inl ⟨rfl, rfl⟩) rfl rfl (by omega)) rfl ?_ | refine x_q (stp_shift (.inr ⟨rfl, rfl⟩) rfl rfl (by omega)) rfl ?_ | refine x_q (stp_bool2 tok rfl rfl rfl rfl (.inl ⟨rfl, rfl⟩)) rfl ?_ | refine x_q (stp_bool2 tok rfl rfl rfl rfl (.inr ⟨rfl, rfl⟩)) rfl ?_ | refine x_q (stp_eqlNil tok (.inl ⟨rfl, rfl⟩) rfl rfl rfl) rfl ?_ | refine x_q (stp_eqlNil_not tok (.inl ⟨rfl, rfl⟩) rfl rfl rfl rfl) rfl ?_ | refine x_q (stp_andI rfl rfl) rfl ?_ | refine x_q (stp_orI rfl rfl) rfl ?_ | refine x_q (stp_bicI rfl rfl) rfl ?_ | refine x_q (stp_strEqV rfl rfl (by assumption)) rfl ?_ | refine x_q (stp_strEq rfl rfl) rfl ?_ | refine x_q (stp_strNeV rfl rfl (by assumption)) rfl ?_ | refine x_q (stp_strNe rfl rfl) rfl ?_) | (refine is_idx ?_; first | refine x_q (stp_indexAddr_sl tok rfl rfl rfl rfl rfl (by omega) (by first | rfl | assumption) rfl rfl) rfl ?_ | refine x_q (stp_indexAddr_r0 tok rfl rfl rfl rfl rfl rfl (by omega) (by omega) rfl) rfl ?_ | refine x_q (stp_indexAddr_box tok rfl rfl rfl rfl rfl rfl (by omega) (by omega)) rfl ?_) | (refine is_load ?_; first | refine x_q (stp_load_fp1 tok rfl rfl rfl (by first | rfl | assumption) rfl) rfl ?_ | refine x_q (stp_load_fpa tok rfl rfl rfl (by first | rfl | assumption) rfl) rfl ?_ | refine x_q (stp_load_arr1 tok rfl rfl rfl rfl (by first | rfl | assumption) rfl) rfl ?_ | refine x_q (stp_load_arra tok rfl rfl rfl rfl (by first | rfl | assumption) rfl) rfl ?_) | (refine is_fad ?_; first | refine x_q (stp_fieldAddr_arr tok rfl rfl rfl rfl rfl rfl rfl rfl) rfl ?_ | refine x_q (stp_fieldAddr_fp tok rfl (by first | rfl | assumption) rfl rfl rfl rfl rfl rfl) rfl ?_) | (refine is_app ?_; first | refine x_appref0 tok rfl rfl rfl rfl rfl rfl rfl (by first | (intro y hy; cases hy; rfl) | exact map_hd _ _ (fun _ => rfl)) rfl rfl rfl (by first | omega | (simp; done) | (simp; omega)) rfl ?_ | refine x_appref tok rfl rfl rfl rfl rfl rfl rfl rfl rfl rfl rfl (by first | (intro y hy; cases hy; rfl) | exact map_hd _ _ (fun _ => rfl)) (by first | omega | (simp; done) | (simp; omega)) rfl ?_) | (refine is_un ?_; first | refine x_q (stp_neg rfl ⟨by omega, by omega⟩) rfl ?_) | (refine is_conv ?_; first | refine x_q (stp_conv_in tok rfl rfl rfl rfl ⟨by omega, by omega⟩) rfl ?_ | refine x_q (stp_conv tok rfl rfl rfl rfl) rfl ?_ | refine x_q (stp_convStr tok rfl rfl rfl rfl rfl rfl rfl (by first | rfl | assumption)) rfl ?_) | (refine is_slc ?_; first | refine x_slcL tok rfl rfl rfl rfl rfl (by first | (intro y hy; cases hy; rfl) | exact map_hd _ _ (fun _ => rfl) | (simp; done)) (by omega) (by simp; omega) (by first | exact List.map_drop.symm | rfl) rfl ?_ | refine x_slcH tok rfl rfl rfl rfl rfl (by first | (intro y hy; cases hy; rfl) | exact map_hd _ _ (fun _ => rfl) | (simp; done)) (by omega) (by simp; omega) (by first | exact List.map_take.symm | rfl) rfl ?_) | (refine is_bsl ?_; refine x_lit tok rfl rfl ?_) | (refine is_app ?_; refine x_appnilF tok rfl rfl rfl rfl rfl rfl (by first | (intro y hy; cases hy; rfl) | exact map_hd _ _ (fun _ => rfl)) rfl rfl rfl (by first | omega | (simp; done) | (simp; omega)) rfl ?_) | (refine is_mks ?_; refine x_mks tok rfl rfl rfl rfl rfl rfl rfl rfl rfl rfl rfl rfl rfl (by omega) (by omega) rfl rfl rfl ?_) | refine x_autow tok rfl rfl rfl rfl ?_ | (refine is_sto ?_; first | refine x_autos tok rfl rfl rfl ?_ | refine x_stoa tok rfl rfl rfl (by first | rfl | assumption) rfl rfl rfl rfl rfl rfl ?_ | refine x_sto1 tok rfl rfl rfl (by first | rfl | assumption) rfl rfl rfl rfl rfl rfl rfl rfl ?_) | refine x_nil ?_ | refine x_nilD (by kernel_rfl) ?_) | (first | refine sim_seq ?_ | refine x_region ?_ | refine x_draw rfl ?_ | refine sim_cond_true rfl ?_ | refine sim_cond_false rfl ?_ | (refine sim_cond rfl (fun hc => ?_) (fun hc => ?_) <;> (try simp only [cmpB, decide_eq_true_eq, decide_eq_false_iff_not, beq_iff_eq, bne_iff_ne, ne_eq, Bool.not_eq_true, beq_eq_false_iff_ne, bne_eq_false_iff_eq, Int.not_lt, Int.not_le, Decidable.not_not] at hc)) | refine sim_skip ?_ | refine sim_ret ?_ | refine sim_exit ?_ | refine sim_block ?_)))
    exact fin_ret [] rfl rfl rfl rfl
  · (refine callSim_of tok Try.func6 rfl (fun args w => Try.call6 args w) rfl rfl rfl (fun F hF => ?_))
    (repeat' (first | (refine is_ops ?_; first | refine x_auto tok rfl rfl ?_ | (refine is_call ?_; (first | (refine is_fn 8 ?_; first | refine x_q (stp_call (hn) rfl rfl rfl rfl rfl) rfl ?_ | refine x_w (stp_call (hn) rfl rfl rfl rfl rfl) rfl rfl rfl ?_ | refine x_d (stp_call (hn) rfl rfl rfl rfl rfl) rfl rfl rfl ?_) | (refine is_fn 28 ?_; first | refine x_q (stp_call (ca) rfl rfl rfl rfl rfl) rfl ?_ | refine x_w (stp_call (ca) rfl rfl rfl rfl rfl) rfl rfl rfl ?_ | refine x_d (stp_call (ca) rfl rfl rfl rfl rfl) rfl rfl rfl ?_) | (refine is_fn 23 ?_; first | refine x_q (stp_call (cr) rfl rfl rfl rfl rfl) rfl ?_ | refine x_w (stp_call (cr) rfl rfl rfl rfl rfl) rfl rfl rfl ?_ | refine x_d (stp_call (cr) rfl rfl rfl rfl rfl) rfl rfl rfl ?_) | (refine is_fn 10 ?_; first | refine x_q (stp_call (m1) rfl rfl rfl rfl rfl) rfl ?_ | refine x_w (stp_call (m1) rfl rfl rfl rfl rfl) rfl rfl rfl ?_ | refine x_d (stp_call (m1) rfl rfl rfl rfl rfl) rfl rfl rfl ?_) | (refine is_fn 10 ?_; first | refine x_q (stp_call (m2) rfl rfl rfl rfl rfl) rfl ?_ | refine x_w (stp_call (m2) rfl rfl rfl rfl rfl) rfl rfl rfl ?_ | refine x_d (stp_call (m2) rfl rfl rfl rfl rfl) rfl rfl rfl ?_) | (refine is_fn 10 ?_; first | refine x_q (stp_call (m3) rfl rfl rfl rfl rfl) rfl ?_ | refine x_w (stp_call (m3) rfl rfl rfl rfl rfl) rfl rfl rfl ?_ | refine x_d (stp_call (m3) rfl rfl rfl rfl rfl) rfl rfl rfl ?_) | (refine is_fn 10 ?_; first | refine x_q (stp_call (m4) rfl rfl rfl rfl rfl) rfl ?_ | refine x_w (stp_call (m4) rfl rfl rfl rfl rfl) rfl rfl rfl ?_ | refine x_d (stp_call (m4) rfl rfl rfl rfl rfl) rfl rfl rfl ?_) | (refine is_fn 10 ?_; first | refine x_q (stp_call (m5) rfl rfl rfl rfl rfl) rfl ?_ | refine x_w (stp_call (m5) rfl rfl rfl rfl rfl) rfl rfl rfl ?_ | refine x_d (stp_call (m5) rfl rfl rfl rfl rfl) rfl rfl rfl ?_) | (refine is_fn 11 ?_; first | refine x_q (stp_call (by0) rfl rfl rfl rfl rfl) rfl ?_ | refine x_w (stp_call (by0) rfl rfl rfl rfl rfl) rfl rfl rfl ?_ | refine x_d (stp_call (by0) rfl rfl rfl rfl rfl) rfl rfl rfl ?_) | (refine is_fn 13 ?_; first | refine x_q (stp_call (s5) rfl rfl rfl rfl rfl) rfl ?_ | refine x_w (stp_call (s5) rfl rfl rfl rfl rfl) rfl rfl rfl ?_ | refine x_d (stp_call (s5) rfl rfl rfl rfl rfl) rfl rfl rfl ?_) | (refine is_fn 13 ?_; first | refine x_q (stp_call (s6) rfl rfl rfl rfl rfl) rfl ?_ | refine x_w (stp_call (s6) rfl rfl rfl rfl rfl) rfl rfl rfl ?_ | refine x_d (stp_call (s6) rfl rfl rfl rfl rfl) rfl rfl rfl ?_) | (refine is_fn 30 ?_; first | refine x_q (stp_call (k1) rfl rfl rfl rfl rfl) rfl ?_ | refine x_w (stp_call (k1) rfl rfl rfl rfl rfl) rfl rfl rfl ?_ | refine x_d (stp_call (k1) rfl rfl rfl rfl rfl) rfl rfl rfl ?_) | (refine is_fn 30 ?_; first | refine x_q (stp_call (k2) rfl rfl rfl rfl rfl) rfl ?_ | refine x_w (stp_call (k2) rfl rfl rfl rfl rfl) rfl rfl rfl ?_ | refine x_d (stp_call (k2) rfl rfl rfl rfl rfl) rfl rfl rfl ?_) | (refine is_fn 30 ?_; first | refine x_q (stp_call (k3) rfl rfl rfl rfl rfl) rfl ?_ | refine x_w (stp_call (k3) rfl rfl rfl rfl rfl) rfl rfl rfl ?_ | refine x_d (stp_call (k3) rfl rfl rfl rfl rfl) rfl rfl rfl ?_) | (refine is_fn 15 ?_; first | refine x_q (stp_call (o1) rfl rfl rfl rfl rfl) rfl ?_ | refine x_w (stp_call (o1) rfl rfl rfl rfl rfl) rfl rfl rfl ?_ | refine x_d (stp_call (o1) rfl rfl rfl rfl rfl) rfl rfl rfl ?_) | (refine is_fn 15 ?_; first | refine x_q (stp_call (o2) rfl rfl rfl rfl rfl) rfl ?_ | refine x_w (stp_call (o2) rfl rfl rfl rfl rfl) rfl rfl rfl ?_ | refine x_d (stp_call (o2) rfl rfl rfl rfl rfl) rfl rfl rfl ?_) | (refine is_fn 15 ?_; first | refine x_q (stp_call (o3) rfl rfl rfl rfl rfl) rfl ?_ | refine x_w (stp_call (o3) rfl rfl rfl rfl rfl) rfl rfl rfl ?_ | refine x_d (stp_call (o3) rfl rfl rfl rfl rfl) rfl rfl rfl ?_) | (refine is_fn 7 ?_; first | refine x_q (stp_call (aw) rfl rfl rfl rfl rfl) rfl ?_ | refine x_w (stp_call (aw) rfl rfl rfl rfl rfl) rfl rfl rfl ?_ | refine x_d (stp_call (aw) rfl rfl rfl rfl rfl) rfl rfl rfl ?_))) | (refine is_grd ?_; first | refine x_on rfl rfl ?_ | refine x_off rfl rfl rfl rfl ?_ | (refine x_gsplit rfl rfl (fun hc => ?_) (fun hc => ?_) <;> (try simp only [cmpB, decide_eq_true_eq, decide_eq_false_iff_not, beq_iff_eq, bne_iff_ne, ne_eq, Bool.not_eq_true, beq_eq_false_iff_ne, bne_eq_false_iff_eq, Int.not_lt, Int.not_le, Decidable.not_not] at hc))) | (refine is_bin ?_; first | refine x_q (stp_cmp_t rfl rfl rfl (by unfold cmpP; omega)) rfl ?_ | refine x_q (stp_cmp_f rfl rfl rfl (by unfold cmpP; omega)) rfl ?_ | refine x_q (stp_cmp rfl rfl rfl) rfl ?_ | refine x_q (stp_add rfl rfl ⟨by omega, by omega⟩) rfl ?_ | refine x_q (stp_sub rfl rfl ⟨by omega, by omega⟩) rfl ?_ | refine x_q (stp_mul rfl rfl ⟨by omega, by omega⟩) rfl ?_ | refine x_q (stp_quo rfl rfl (by assumption) (by omega)) rfl ?_ | refine x_q (stp_rem rfl rfl (by omega)) rfl ?_ | refine x_q (stp_xor rfl rfl) rfl ?_ | refine x_q (stp_shlI rfl rfl (by omega)) rfl ?_ | refine x_q (stp_shrI rfl rfl (by omega)) rfl ?_ | refine x_q (stp_shift (.inl ⟨rfl, rfl⟩) rfl rfl (by omega)) rfl ?_ | refine x_q (stp_shift (.inr ⟨rfl, rfl⟩) rfl rfl (by omega)) rfl ?_ | refine x_q (stp_bool2 tok rfl rfl rfl rfl (.inl ⟨rfl, rfl⟩)) rfl ?_ | refine x_q (stp_bool2 tok rfl rfl rfl rfl (.inr ⟨rfl, rfl⟩)) rfl ?_ | refine x_q (stp_eqlNil tok (.inl ⟨rfl, rfl⟩) rfl rfl rfl) rfl ?_ | refine x_q (stp_eqlNil_not tok (.inl ⟨rfl, rfl⟩) rfl rfl rfl rfl) rfl ?_ | refine x_q (stp_andI rfl rfl) rfl ?_ | refine x_q (stp_orI rfl rfl) rfl ?_ | refine x_q (stp_bicI rfl rfl) rfl ?_ | refine x_q (stp_strEqV rfl rfl (by assumption)) rfl ?_ | refine x_q (stp_strEq rfl rfl) rfl ?_ | refine x_q (stp_strNeV rfl rfl (by assumption)) rfl ?_ | refine x_q (stp_strNe rfl rfl) rfl ?_) | (refine is_idx ?_; first | refine x_q (stp_indexAddr_sl tok rfl rfl rfl rfl rfl (by omega) (by first | rfl | assumption) rfl rfl) rfl ?_ | refine x_q (stp_indexAddr_r0 tok rfl rfl rfl rfl rfl rfl (by omega) (by omega) rfl) rfl ?_ | refine x_q (stp_indexAddr_box tok rfl rfl rfl rfl rfl rfl (by omega) (by omega)) rfl ?_) | (refine is_load ?_; first | refine x_q (stp_load_fp1 tok rfl rfl rfl (by first | rfl | assumption) rfl) rfl ?_ | refine x_q (stp_load_fpa tok rfl rfl rfl (by first | rfl | assumption) rfl) rfl ?_ | refine x_q (stp_load_arr1 tok rfl rfl rfl rfl (by first | rfl | assumption) rfl) rfl ?_ | refine x_q (stp_load_arra tok rfl rfl rfl rfl (by first | rfl | assumption) rfl) rfl ?_) | (refine is_fad ?_; first | refine x_q (stp_fieldAddr_arr tok rfl rfl rfl rfl rfl rfl rfl rfl) rfl ?_ | refine x_q (stp_fieldAddr_fp tok rfl (by first | rfl | assumption) rfl rfl rfl rfl rfl rfl) rfl ?_) | (refine is_app ?_; first | refine x_appref0 tok rfl rfl rfl rfl rfl rfl rfl (by first | (intro y hy; cases hy; rfl) | exact map_hd _ _ (fun _ => rfl)) rfl rfl rfl (by first | omega | (simp; done) | (simp; omega)) rfl ?_ | refine x_appref tok rfl rfl rfl rfl rfl rfl rfl rfl rfl rfl rfl (by first | (intro y hy; cases hy; rfl) | exact map_hd _ _ (fun _ => rfl)) (by first | omega | (simp; done) | (simp; omega)) rfl ?_) | (refine is_un ?_; first | refine x_q (stp_neg rfl ⟨by omega, by omega⟩) rfl ?_) | (refine is_conv ?_; first | refine x_q (stp_conv_in tok rfl rfl rfl rfl ⟨by omega, by omega⟩) rfl ?_ | refine x_q (stp_conv tok rfl rfl rfl rfl) rfl ?_ | refine x_q (stp_convStr tok rfl rfl rfl rfl rfl rfl rfl (by first | rfl | assumption)) rfl ?_) | (refine is_slc ?_; first | refine x_slcL tok rfl rfl rfl rfl rfl (by first | (intro y hy; cases hy; rfl) | exact map_hd _ _ (fun _ => rfl) | (simp; done)) (by omega) (by simp; omega) (by first | exact List.map_drop.symm | rfl) rfl ?_ | refine x_slcH tok rfl rfl rfl rfl rfl (by first | (intro y hy; cases hy; rfl) | exact map_hd _ _ (fun _ => rfl) | (simp; done)) (by omega) (by simp; omega) (by first | exact List.map_take.symm | rfl) rfl ?_) | (refine is_bsl ?_; refine x_lit tok rfl rfl ?_) | (refine is_app ?_; refine x_appnilF tok rfl rfl rfl rfl rfl rfl (by first | (intro y hy; cases hy; rfl) | exact map_hd _ _ (fun _ => rfl)) rfl rfl rfl (by first | omega | (simp; done) | (simp; omega)) rfl ?_) | (refine is_mks ?_; refine x_mks tok rfl rfl rfl rfl rfl rfl rfl rfl rfl rfl rfl rfl rfl (by omega) (by omega) rfl rfl rfl ?_) | refine x_autow tok rfl rfl rfl rfl ?_ | (refine is_sto ?_; first | refine x_autos tok rfl rfl rfl ?_ | refine x_stoa tok rfl rfl rfl (by first | rfl | assumption) rfl rfl rfl rfl rfl rfl ?_ | refine x_sto1 tok rfl rfl rfl (by first | rfl | assumption) rfl rfl rfl rfl rfl rfl rfl rfl ?_) | refine x_nil ?_ | refine x_nilD (by kernel_rfl) ?_) | (first | refine sim_seq ?_ | refine x_region ?_ | refine x_draw rfl ?_ | refine sim_cond_true rfl ?_ | refine sim_cond_false rfl ?_ | (refine sim_cond rfl (fun hc => ?_) (fun hc => ?_) <;> (try simp only [cmpB, decide_eq_true_eq, decide_eq_false_iff_not, beq_iff_eq, bne_iff_ne, ne_eq, Bool.not_eq_true, beq_eq_false_iff_ne, bne_eq_false_iff_eq, Int.not_lt, Int.not_le, Decidable.not_not] at hc)) | refine sim_skip ?_ | refine sim_ret ?_ | refine sim_exit ?_ | refine sim_block ?_)))
    exact fin_ret [] rfl rfl rfl rfl
end Av
end Go.Proofs.Ytjbldhhgooihfaa
