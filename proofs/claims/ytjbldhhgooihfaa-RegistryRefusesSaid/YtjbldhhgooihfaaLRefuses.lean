/- The law RegistryRefuses. -/
import Derived.Test.YtjbldhhgooihfaaRgO
namespace Go.Proofs.Ytjbldhhgooihfaa
namespace Av
set_option linter.unusedSimpArgs false
set_option linter.unusedVariables false
set_option maxRecDepth 4000
set_option maxHeartbeats 1000000
theorem by_row {w : World} {a : Option Addr} {len cap : Nat} {zs : List Int}
    (h : (a = none ∧ len = 0 ∧ cap = 0 ∧ zs = []) ∨ ∃ x, a = some x ∧ len ≤ cap ∧ cap ≤ maxLen ∧ zs.length = cap ∧ (∀ i, i < zs.length → w.cell? (x.add i) = some (.int .u8 (zs.getD i 0))) ∧ ∀ n ∈ zs, (Lit.int .u8 n).wf = true) : BY (zs.take len) := by
  rcases h with ⟨rfl, rfl, rfl, rfl⟩ | ⟨x, rfl, _, _, _, _, h5⟩
  · intro y hy; simp at hy
  · intro y hy
    have h6 := h5 y (List.mem_of_mem_take hy)
    unfold Lit.wf at h6
    rw [Bool.and_eq_true, decide_eq_true_eq, decide_eq_true_eq] at h6
    have e1 : IntKind.u8.min = 0 := by decide
    have e2 : IntKind.u8.max = 255 := by decide
    omega
def t1F (r : Rg) (x : List Int) (need now : Int) (j : Nat) : Bool :=
  (r.tk.getD j default).used && (eqY x (r.num :: j :: (r.tk.getD j default).sec) && (decide ((r.tk.getD j default).til = 0 ∨ now ≤ (r.tk.getD j default).til) && (andI (r.tk.getD j default).rights need == need)))
def okN (r : Rg) (x : List Int) (need now : Int) : Nat → Bool
  | 0 => false
  | j + 1 => okN r x need now j || t1F r x need now j
theorem okN_any (r : Rg) (x : List Int) (need now : Int) : ∀ n, okN r x need now n = true ↔ ∃ j, j < n ∧ t1F r x need now j = true
  | 0 => by simp [okN]
  | n + 1 => by
    rw [okN, Bool.or_eq_true, okN_any r x need now n]
    constructor
    · rintro (⟨j, h1, h2⟩ | h)
      · exact ⟨j, by omega, h2⟩
      · exact ⟨n, by omega, h⟩
    · rintro ⟨j, h1, h2⟩
      rcases Nat.lt_or_ge j n with h | h
      · exact .inl ⟨j, h, h2⟩
      · exact .inr (by rw [show n = j by omega]; exact h2)
/-- What the law asks of a token is what Check asks. -/
theorem ok_ck (r : Rg) (hr : RgS r) (x : List Int) (hx : BY x) (k now : Int) : okN r x (ndF k) now 8 = ckB r.tk r.num x k now := by
  have hn := hr.n
  have h8 := hr.t.n
  rw [Bool.eq_iff_iff, okN_any]
  unfold ckB
  constructor
  · rintro ⟨j, hj, h⟩
    have hm := hr.t.y (r.tk.getD j default) (getD_mem2 r.tk j (by omega))
    unfold t1F at h
    simp only [Bool.and_eq_true, decide_eq_true_eq] at h
    obtain ⟨hu, he, ht, hp⟩ := h
    obtain ⟨g1, g2, g3, g4⟩ := hm.2.2 hu
    rw [eqY_iff hx (by_tok (by omega) (by omega) hm.1)] at he
    have he := of_decide_eq_true he
    subst he
    have e1 : (r.num :: (j : Int) :: (r.tk.getD j default).sec).getD 1 default = (j : Int) := rfl
    have e2 : tkOf r.tk (r.num :: (j : Int) :: (r.tk.getD j default).sec) = r.tk.getD j default := rfl
    rw [e1, e2]
    simp only [Bool.and_eq_true, decide_eq_true_eq]
    refine ⟨⟨⟨by rw [List.length_cons, List.length_cons]; omega, rfl⟩, ?_⟩, ⟨eqY_refl _, ?_⟩, ?_⟩
    · unfold usF
      rw [decide_eq_true (by omega)]
      exact hu
    · unfold exF
      rw [Bool.not_eq_true', decide_eq_false_iff_not]
      omega
    · unfold peF
      rw [g2]
      exact hp
  · intro h
    simp only [Bool.and_eq_true, decide_eq_true_eq] at h
    obtain ⟨⟨⟨hl, h0⟩, hu⟩, ⟨he, hxp⟩, hp⟩ := h
    obtain ⟨x0, x1, y, rfl⟩ : ∃ x0 x1 y, x = x0 :: x1 :: y := by
      match x, hl with
      | x0 :: x1 :: y, _ => exact ⟨x0, x1, y, rfl⟩
      | [], h => simp at h
      | [_], h => simp at h
    have e1 : (x0 :: x1 :: y).getD 1 default = x1 := rfl
    have e0 : (x0 :: x1 :: y).getD 0 default = x0 := rfl
    have e2 : (x0 :: x1 :: y).drop 2 = y := rfl
    have e3 : tkOf r.tk (x0 :: x1 :: y) = r.tk.getD x1.toNat default := rfl
    rw [e1] at hu
    rw [e2, e3] at he
    rw [e3] at hxp hp
    rw [e0] at h0
    unfold usF at hu
    simp only [Bool.and_eq_true, decide_eq_true_eq] at hu
    obtain ⟨⟨u0, u1⟩, hu⟩ := hu
    rw [h8] at u1
    obtain ⟨j, rfl⟩ : ∃ j : Nat, x1 = j := ⟨x1.toNat, by omega⟩
    rw [Int.toNat_natCast] at he hxp hp hu
    have hm := hr.t.y (r.tk.getD j default) (getD_mem2 r.tk j (by omega))
    rw [eqY_iff (fun z hz => hx z (by simp [hz])) hm.1] at he
    have he := of_decide_eq_true he
    refine ⟨j, by omega, ?_⟩
    unfold t1F
    simp only [Bool.and_eq_true, decide_eq_true_eq]
    subst h0
    subst he
    refine ⟨hu, eqY_refl _, ?_, ?_⟩
    · unfold exF at hxp
      rw [Bool.not_eq_true', decide_eq_false_iff_not] at hxp
      omega
    · unfold peF at hp
      simp only [Bool.and_eq_true] at hp
      exact hp.2
theorem opE_eq (r : Rg) (m : Ms) (now : Int) : (ckB r.tk r.num m.tok m.kind now = false → opE r m now = 9) ∧ (ckB r.tk r.num m.tok m.kind now = true → costs m.kind = true → r.bk.level ≤ 0 → opE r m now = 13) ∧ (ckB r.tk r.num m.tok m.kind now = true → (costs m.kind = true → ¬ r.bk.level ≤ 0) → opE r m now = 0) := by
  unfold opE
  refine ⟨fun h => by rw [h]; rfl, fun h h1 h2 => by rw [h, if_pos rfl, if_pos ⟨h1, h2⟩], fun h h1 => by rw [h, if_pos rfl, if_neg (fun h2 => h1 h2.1 h2.2)]⟩
theorem nd_at (k : Int) (h : 1 ≤ k ∧ k ≤ 12) : ([AV.s (.int .i64 0), AV.s (.int .i64 0), AV.s (.int .i64 4), AV.s (.int .i64 8), AV.s (.int .i64 2), AV.s (.int .i64 2), AV.s (.int .i64 1), AV.s (.int .i64 1), AV.s (.int .i64 1), AV.s (.int .i64 0), AV.s (.int .i64 16), AV.s (.int .i64 32), AV.s (.int .i64 0)] : List AV)[k.toNat]? = some (AV.s (.int .i64 (ndF k))) := by
  have : k = 1 ∨ k = 2 ∨ k = 3 ∨ k = 4 ∨ k = 5 ∨ k = 6 ∨ k = 7 ∨ k = 8 ∨ k = 9 ∨ k = 10 ∨ k = 11 ∨ k = 12 := by omega
  rcases this with rfl | rfl | rfl | rfl | rfl | rfl | rfl | rfl | rfl | rfl | rfl | rfl <;> rfl
theorem refuses_c (l : List Int) (hl : l.length ≤ 9223372036854775807) (b : List Int) (hb : b.length ≤ 9223372036854775807) (hby : BY b) (kind now : Int) : CallSim Try.prog 3 [slA iA l, slA yA b, iA kind, iA now] [] (bA true) [] := by
  have aw := awake17_c
  have hlb := map_len yA b
  by_cases h60 : 60 < (b.length : Int)
  · (refine callSim_of tok Try.func3 rfl (fun args w => Try.call3 args w) rfl rfl rfl (fun F hF => ?_))
    (have zc1 := aw; refine WL ?_; clear zc1)
    exact fin_ret [] rfl rfl rfl rfl
  have hn := new_c l hl
  generalize (⟨l, 0, Nat.zero_le _, hl⟩ : Dk) = d0 at *
  obtain ⟨r, d1, hr, _, cr⟩ := registered_ex d0
  have ck := mod_c kind 12 (by omega) (by omega)
  have cn := mod_c now 30 (by omega) (by omega)
  have bk : 0 ≤ kind % 12 ∧ kind % 12 < 12 := by omega
  have bn : 0 ≤ now % 30 ∧ now % 30 < 30 := by omega
  generalize kind % 12 = k0 at *
  generalize now % 30 = now1 at *
  have hnd := nd_at (1 + k0) (by omega)
  have hl13 : ([AV.s (.int .i64 0), AV.s (.int .i64 0), AV.s (.int .i64 4), AV.s (.int .i64 8), AV.s (.int .i64 2), AV.s (.int .i64 2), AV.s (.int .i64 1), AV.s (.int .i64 1), AV.s (.int .i64 1), AV.s (.int .i64 0), AV.s (.int .i64 16), AV.s (.int .i64 32), AV.s (.int .i64 0)] : List AV).length = 13 := rfl
  have n1 := next_c d1 8 (by omega) (by omega)
  have w1 := nx_bd d1 8 (by omega)
  have n2 := next_c (ad d1) 9 (by omega) (by omega)
  generalize nx (ad d1) 9 = q at *
  generalize nx d1 8 = s1 at *
  generalize ad d1 = d2 at *
  generalize ad d2 = d3 at *
  have cs := secret_c q
  have hrn := hr.n
  have cb := bytes2_c r.num s1 (secF q) (by rw [secF_len]; omega) (by omega) (by omega) (by omega) (by omega)
  have by1 : BY (r.num :: s1 :: secF q) := by_tok (by omega) (by omega) (secF_by _)
  generalize secF q = se at *
  obtain ⟨m, d4, by2, _, _, cm⟩ := message17_ex r hr d3
  obtain ⟨mk, mt, ma, md⟩ := m
  dsimp only at by2
  have hxs : ∀ x ∈ [b, r.num :: s1 :: se, mt], BY x := by
    intro x hx
    simp only [List.mem_cons, List.mem_nil_iff, or_false] at hx
    rcases hx with rfl | rfl | rfl <;> assumption
  have hx3 : [b, r.num :: s1 :: se, mt].length = 3 := rfl
  obtain ⟨N3, hN3⟩ : ∃ N : Nat, N = 3 := ⟨3, rfl⟩
  obtain ⟨N8, hN8⟩ : ∃ N : Nat, N = 8 := ⟨8, rfl⟩
  (refine callSim_of tok Try.func3 rfl (fun args w => Try.call3 args w) rfl rfl rfl (fun F hF => ?_))
  (have zc1 := aw; have zc2 := hn; have zc3 := cr; have zc4 := ck; have zc5 := cn; have zc6 := n1; have zc7 := n2; have zc8 := cs; have zc9 := cb; have zc10 := cm; refine WL ?_; clear zc1 zc2 zc3 zc4 zc5 zc6 zc7 zc8 zc9 zc10)
  (refine sim_cnt (N3) [10] [10] [2, 3, 10, 11] [53, 51, 52, 2, 3, 10, 11] rfl (fun i T U => ⟨(53, iA i) :: (51, .sl false ([b, r.num :: s1 :: se, mt].map fun x => slA yA x)) :: (52, iA N3) :: T, U⟩) ?_; (conv => whnf); refine ⟨by (rw [hN3]; rfl), ?_, ?_⟩)
  · intro u hu
    have hy := map_at (fun x => slA yA x) [b, r.num :: s1 :: se, mt] u (by omega)
    have hbx := hxs _ (getD_mem2 [b, r.num :: s1 :: se, mt] u (by omega))
    have hlx := map_len (fun x => slA yA x) [b, r.num :: s1 :: se, mt]
    rw [hx3] at hlx
    generalize [b, r.num :: s1 :: se, mt].getD u default = x at *
    generalize [b, r.num :: s1 :: se, mt] = xs at *
    have hi3 : u < 3 := by omega
    clear aw hn cr ck cn hnd hl13 n1 n2 cs cb cm hxs
    have hlt := map_len tkA r.tk
    have ht := hr.t
    have ht8 := ht.n
    have hck := ok_ck r hr x hbx (1 + k0) now1
    generalize ndF (1 + k0) = nd at *
    (refine WL ?_)
    (refine sim_cnt (N8) [10] [10] [2, 3, 10, 11, 13, 51, 52, 53, 58, 59] [14, 60, 2, 3, 10, 11, 13, 51, 52, 53, 58, 59] rfl (fun i T U => ⟨(14, bA (okN r x nd now1 i)) :: (60, iA i) :: T, U⟩) ?_; (conv => whnf); refine ⟨by rfl, ?_, ?_⟩)
    · intro j hj
      have hyt := map_at tkA r.tk j (by omega)
      have hmt := ht.y (r.tk.getD j default) (getD_mem2 r.tk j (by omega))
      have cb := bytes2_c r.num j (r.tk.getD j default).sec (by omega) (by omega) (by omega) (by omega) (by omega)
      have eS : okN r x nd now1 (j + 1) = (okN r x nd now1 j || t1F r x nd now1 j) := rfl
      unfold t1F at eS
      rw [eS]
      generalize okN r x nd now1 j = o at *
      generalize r.tk.getD j default = t at *
      cases o with
      | true =>
        (refine WL ?_)
        rfl
      | false =>
      rw [show tkA t = .agg [bA t.used, slA yA t.sec, iA t.par, iA t.rights, iA t.cls, iA t.til] from rfl] at hyt
      generalize hbo : eqY x (r.num :: j :: t.sec) = q at *
      generalize t.used = uu at *
      cases uu with
      | false =>
        (refine WL ?_)
        rfl
      | true =>
      cases q with
      | false =>
        (have zc1 := cb; refine WL ?_; clear zc1)
        rfl
      | true =>
      by_cases ha : andI t.rights nd = nd
      · rw [show (andI t.rights nd == nd) = true by rw [beq_iff_eq]; exact ha]
        by_cases h1 : t.til = 0
        · rw [decide_eq_true (.inl h1)]
          (have zc1 := cb; refine WL ?_; clear zc1)
          rfl
        by_cases h2 : now1 ≤ t.til
        · rw [decide_eq_true (.inr h2)]
          (have zc1 := cb; refine WL ?_; clear zc1)
          rfl
        · rw [decide_eq_false (by omega)]
          (have zc1 := cb; refine WL ?_; clear zc1)
          rfl
      · rw [show (andI t.rights nd == nd) = false by rw [beq_eq_false_iff_ne]; exact ha]
        by_cases h1 : t.til = 0
        · rw [decide_eq_true (.inl h1)]
          (have zc1 := cb; refine WL ?_; clear zc1)
          rfl
        by_cases h2 : now1 ≤ t.til
        · rw [decide_eq_true (.inr h2)]
          (have zc1 := cb; refine WL ?_; clear zc1)
          rfl
        · rw [decide_eq_false (by omega)]
          (have zc1 := cb; refine WL ?_; clear zc1)
          rfl
    · rw [hN8, hck]
      have hlv := hr.l
      have hbu := hr.bu
      have hab := hr.a.b
      have co := open_c r ⟨1 + k0, x, [], []⟩ now1 hr.b' hbx (by omega)
      have cts := tsame_c r.tk (by omega)
      have cop := opE_eq r ⟨1 + k0, x, [], []⟩ now1
      have hlv2 : r.bk.level ≤ 1000 := by omega
      clear hbx hck hrn ht hab hr by1 by2 hbu
      dsimp only at cop
      generalize ckB r.tk r.num x (1 + k0) now1 = o at *
      cases o with
      | false =>
        rw [opR, opS, cop.1 rfl] at co
        rw [if_neg (by decide), if_neg (by decide)] at co
        by_cases h2 : 2 ≤ 1 + k0
        · by_cases h8 : 1 + k0 ≤ 8
          · (have zc1 := co; refine WL ?_; clear zc1)
            rfl
          · (have zc1 := co; refine WL ?_; clear zc1)
            rfl
        · (have zc1 := co; refine WL ?_; clear zc1)
          rfl
      | true =>
      by_cases hcs : 2 ≤ 1 + k0 ∧ 1 + k0 ≤ 8
      · have hc1 : costs (1 + k0) = true := decide_eq_true hcs
        by_cases hl0 : r.bk.level ≤ 0
        · rw [opR, opS, cop.2.1 rfl hc1 hl0] at co
          rw [if_neg (by decide), if_neg (by decide)] at co
          (have zc1 := co; refine WL ?_; clear zc1)
          rfl
        · rw [opR, opS, cop.2.2 rfl (fun _ => hl0)] at co
          rw [if_pos rfl, if_pos rfl, if_pos hc1, tak1, if_neg hl0] at co
          rw [show rgA ⟨r.num, r.ag, r.tk, r.vh, ⟨r.bk.level - 1, r.bk.rate, r.bk.burst⟩⟩ = .agg [iA r.num, slA yA r.ag.sec, iA r.ag.rights, iA r.ag.cls, slA iA r.ag.lim, iA r.ag.req, iA r.ag.ses, iA r.ag.rate, iA r.ag.burst, slA tkA r.tk, slA vhA r.vh, iA (r.bk.level - 1), iA r.bk.rate, iA r.bk.burst] from rfl] at co
          generalize x.getD 1 default = sx at *
          (have zc1 := co; have zc2 := cts; refine WL ?_; clear zc1 zc2)
          rfl
      · have hc1 : costs (1 + k0) = false := decide_eq_false hcs
        rw [opR, opS, cop.2.2 rfl (fun h => by rw [hc1] at h; cases h)] at co
        rw [if_pos rfl, if_pos rfl, if_neg (by rw [hc1]; decide)] at co
        generalize x.getD 1 default = sx at *
        by_cases h2 : 2 ≤ 1 + k0
        · (have zc1 := co; have zc2 := cts; refine WL ?_; clear zc1 zc2)
          rfl
        · (have zc1 := co; have zc2 := cts; refine WL ?_; clear zc1 zc2)
          rfl
  · rw [hN3]
    (have zc1 := aw; refine WL ?_; clear zc1)
    exact fin_ret [] rfl rfl rfl rfl
end Av
end Go.Proofs.Ytjbldhhgooihfaa
