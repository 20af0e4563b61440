
/- The law RegistryDoes. -/
import Derived.Test.YtjbldhhgooihfaaGreatRhP
import Derived.Test.YtjbldhhgooihfaaGreatRgU
import Derived.Test.YtjbldhhgooihfaaGreatRgT
namespace Go.Proofs.YtjbldhhgooihfaaGreat
namespace Av
set_option linter.unusedSimpArgs false
set_option linter.unusedVariables false
set_option maxRecDepth 4000
set_option maxHeartbeats 4000000
instance : Inhabited Rg := ⟨rg0⟩
instance : Inhabited Ms := ⟨ms0⟩
def kA (k : Int × Int) : AV := .agg [iA k.1, iA k.2]
theorem int_ne_self (n : Int) : (n != n) = false := by simp
/-- The arguments that a kind is given. -/
def aF (K a b c e g h i : Int) (l : List Int) : List Int :=
  if K ≤ 2 then [a, b, c] else if K = 3 then [e] else if K = 4 then [g, h] else if K = 5 then [i] else l
def asL (a b c e g h i : Int) (l : List Int) : List (List Int) := [[a, b, c], [e], [g, h], [i], l]
theorem as_at (K a b c e g h i : Int) (l : List Int) (hK : 1 ≤ K ∧ K ≤ 12) : ((asL a b c e g h i l).map (slA iA))[(min 4 (max 0 (K - 2))).toNat]? = some (slA iA (aF K a b c e g h i l)) := by
  unfold aF asL
  by_cases h1 : K ≤ 2
  · rw [if_pos h1, show min 4 (max 0 (K - 2)) = 0 by omega]; rfl
  rw [if_neg h1]
  by_cases h2 : K = 3
  · rw [if_pos h2, show min 4 (max 0 (K - 2)) = 1 by omega]; rfl
  rw [if_neg h2]
  by_cases h3 : K = 4
  · rw [if_pos h3, show min 4 (max 0 (K - 2)) = 2 by omega]; rfl
  rw [if_neg h3]
  by_cases h4 : K = 5
  · rw [if_pos h4, show min 4 (max 0 (K - 2)) = 3 by omega]; rfl
  rw [if_neg h4, show min 4 (max 0 (K - 2)) = 4 by omega]; rfl
theorem aF_len (K a b c e g h i : Int) (l : List Int) (hl : l.length ≤ 1000) : (aF K a b c e g h i l).length ≤ 1000 := by
  unfold aF
  repeat' split
  all_goals first | exact hl | (simp; done)
theorem kd_at (n k : Int) (hn : 0 ≤ n ∧ n < 5) (hk : 1 ≤ k ∧ k ≤ 12) : ∃ K, (1 ≤ K ∧ K ≤ 12) ∧ (([2, 3, 4, 5, k] : List Int).map iA)[n.toNat]? = some (iA K) := by
  have : n = 0 ∨ n = 1 ∨ n = 2 ∨ n = 3 ∨ n = 4 := by omega
  rcases this with rfl | rfl | rfl | rfl | rfl
  · exact ⟨2, by omega, rfl⟩
  · exact ⟨3, by omega, rfl⟩
  · exact ⟨4, by omega, rfl⟩
  · exact ⟨5, by omega, rfl⟩
  · exact ⟨k, hk, rfl⟩
theorem does_c (raw : Rg) (m : Ms) (l : List Int) (hl : l.length ≤ 9223372036854775807) (slot now : Int) (sec : List Int) : CallSim Tryz.prog 3 [rgA raw, msA m, slA iA l, iA slot, iA now, slA yA sec] [] (bA true) [] := by
  have aw := awake17_c
  have cl := light_c raw
  have l1 := map_len iA m.args
  have l2 := map_len yA m.tok
  have l3 := map_len yA m.data
  have l4 := map_len yA sec
  rw [show msA m = .agg [iA m.kind, slA yA m.tok, slA iA m.args, slA yA m.data] from rfl]
  cases hli : liF raw
  · rw [hli] at cl
    (refine callSim_of tok Tryz.func3 rfl (fun args w => Tryz.call3 args w) rfl rfl rfl (fun F hF => ?_))
    (have zc1 := cl; have zc2 := aw; refine WL ?_; clear zc1 zc2)
    exact fin_ret [] rfl rfl rfl rfl
  rw [hli] at cl
  unfold liF at hli
  rw [decide_eq_true_eq] at hli
  by_cases g1 : 50 < m.args.length
  · (refine callSim_of tok Tryz.func3 rfl (fun args w => Tryz.call3 args w) rfl rfl rfl (fun F hF => ?_))
    (have zc1 := cl; have zc2 := aw; refine WL ?_; clear zc1 zc2)
    exact fin_ret [] rfl rfl rfl rfl
  by_cases g2 : 50 < m.tok.length
  · (refine callSim_of tok Tryz.func3 rfl (fun args w => Tryz.call3 args w) rfl rfl rfl (fun F hF => ?_))
    (have zc1 := cl; have zc2 := aw; refine WL ?_; clear zc1 zc2)
    exact fin_ret [] rfl rfl rfl rfl
  by_cases g3 : 300 < m.data.length
  · (refine callSim_of tok Tryz.func3 rfl (fun args w => Tryz.call3 args w) rfl rfl rfl (fun F hF => ?_))
    (have zc1 := cl; have zc2 := aw; refine WL ?_; clear zc1 zc2)
    exact fin_ret [] rfl rfl rfl rfl
  by_cases g4 : 50 < sec.length
  · (refine callSim_of tok Tryz.func3 rfl (fun args w => Tryz.call3 args w) rfl rfl rfl (fun F hF => ?_))
    (have zc1 := cl; have zc2 := aw; refine WL ?_; clear zc1 zc2)
    exact fin_ret [] rfl rfl rfl rfl
  have hn := new_c l hl
  generalize (⟨l, 0, Nat.zero_le _, hl⟩ : Dk) = d0 at *
  obtain ⟨r, d1, hr, _, cr⟩ := registered_ex d0
  have hv8 := hr.v
  have hrs : ∀ x ∈ [raw, r], x.vh.length ≤ 1000 := by
    intro x hx
    simp only [List.mem_cons, List.mem_nil_iff, or_false] at hx
    rcases hx with rfl | rfl
    · omega
    · omega
  have m1 := mod_c slot 4 (by omega) (by omega)
  have m2 := mod_c now 30 (by omega) (by omega)
  generalize slot % 4 = s4 at *
  generalize now % 30 = n30 at *
  have cs7 := secret_c 7
  have l7 := secF_len 7
  generalize secF 7 = s7 at *
  obtain ⟨N2, hN2⟩ : ∃ N : Nat, N = 2 := ⟨2, rfl⟩
  obtain ⟨N3, hN3⟩ : ∃ N : Nat, N = 3 := ⟨3, rfl⟩
  (refine callSim_of tok Tryz.func3 rfl (fun args w => Tryz.call3 args w) rfl rfl rfl (fun F hF => ?_))
  (have zc1 := cl; have zc2 := aw; have zc3 := hn; have zc4 := cr; refine WL ?_; clear zc1 zc2 zc3 zc4)
  (refine sim_cntP (N2) [1000, 7, 14] [7, 14] [3, 4, 5, 7, 13, 14] [67, 65, 66, 3, 4, 5, 7, 13, 14] rfl (fun i T U zs => ∃ (d : Dk), zs = ⟨(67, iA i) :: (65, .sl false ([raw, r].map rgA)) :: (66, iA N2) :: T, (1000, dkE d) :: U⟩) ?_; (conv => whnf); refine ⟨?_, ?_, ?_⟩)
  · rw [hN2]; exact ⟨d1, rfl⟩
  · rintro u _ hu ⟨d, rfl⟩
    have hy := map_at rgA [raw, r] u (by simpa [hN2] using hu)
    have hx := hrs _ (getD_mem2 [raw, r] u (by simpa [hN2] using hu))
    have hlx : ([raw, r].map rgA).length = 2 := rfl
    generalize [raw, r].getD u default = x at *
    generalize [raw, r] = xs at *
    clear hrs aw cl cr
    rw [show rgA x = .agg [iA x.num, slA yA x.ag.sec, iA x.ag.rights, iA x.ag.cls, slA iA x.ag.lim, iA x.ag.req, iA x.ag.ses, iA x.ag.rate, iA x.ag.burst, slA tkA x.tk, slA vhA x.vh, iA x.bk.level, iA x.bk.rate, iA x.bk.burst] from rfl] at hy
    (refine WL ?_)
    (refine sim_cntP (N3) [1000, 7, 14, 16] [7, 14, 16] [3, 4, 5, 7, 13, 14, 16, 65, 66, 67] [71, 3, 4, 5, 7, 13, 14, 16, 65, 66, 67] rfl (fun i T U zs => ∃ (d : Dk), zs = ⟨(71, iA i) :: T, (1000, dkE d) :: U⟩) ?_; (conv => whnf); refine ⟨?_, ?_, ?_⟩)
    · exact ⟨d, rfl⟩
    · rintro q _ hq ⟨d, rfl⟩
      clear hy hlx
      obtain ⟨y0, d2, _, hk0, hL, _, cm⟩ := message17_exL r hr d
      have n1 := next_c d2 5 (by omega) (by omega)
      have b1 := nx_bd d2 5 (by omega)
      obtain ⟨K, hK, hKy⟩ := kd_at (nx d2 5) y0.kind (by omega) hk0
      have e1 := ad d2
      have n2 := next_c (ad d2) 64 (by omega) (by omega)
      have n3 := next_c (ad (ad d2)) 4 (by omega) (by omega)
      have n4 := next_c (ad (ad (ad d2))) 30 (by omega) (by omega)
      have n5 := next_c (ad (ad (ad (ad d2)))) 9 (by omega) (by omega)
      have n6 := next_c (ad (ad (ad (ad (ad d2))))) 9 (by omega) (by omega)
      have n7 := next_c (ad (ad (ad (ad (ad (ad d2)))))) 5 (by omega) (by omega)
      have n8 := next_c (ad (ad (ad (ad (ad (ad (ad d2))))))) 9 (by omega) (by omega)
      generalize hD9 : ad (ad (ad (ad (ad (ad (ad (ad d2))))))) = d9 at *
      generalize ad (ad (ad (ad (ad (ad (ad d2)))))) = d8 at *
      generalize ad (ad (ad (ad (ad (ad d2))))) = d7 at *
      generalize ad (ad (ad (ad (ad d2)))) = d6 at *
      generalize ad (ad (ad (ad d2))) = d5 at *
      generalize ad (ad (ad d2)) = d4 at *
      generalize ad (ad d2) = d3 at *
      generalize ad d2 = d2' at *
      generalize nx d2 5 = n at *
      generalize nx d2' 64 = a at *
      generalize nx d3 4 = b at *
      generalize nx d4 30 = c at *
      generalize nx d5 9 = e at *
      generalize nx d6 9 = g at *
      generalize nx d7 5 = h at *
      generalize nx d8 9 = i8 at *
      have hA := as_at K a b c e g h i8 y0.args hK
      have hAl := aF_len K a b c e g h i8 y0.args hL.2.1
      generalize aF K a b c e g h i8 y0.args = A at *
      have hla : ((asL a b c e g h i8 y0.args).map (slA iA)).length = 5 := rfl
      unfold asL at hA hla
      rw [show msA y0 = .agg [iA y0.kind, slA yA y0.tok, slA iA y0.args, slA yA y0.data] from rfl] at cm
      have t1 := hL.1
      have t3 := hL.2.2
      generalize y0.tok = yt at *
      generalize y0.data = yd at *
      generalize y0.args = ya at *
      generalize y0.kind = yk at *
      clear hL
      (have zc1 := cm; have zc2 := n1; have zc3 := n2; have zc4 := n3; have zc5 := n4; have zc6 := n5; have zc7 := n6; have zc8 := n7; have zc9 := n8; refine WL ?_; clear zc1 zc2 zc3 zc4 zc5 zc6 zc7 zc8 zc9)
      have hzs : ∀ z ∈ [m, (⟨K, yt, A, yd⟩ : Ms)], MsB z := by
        intro z hz
        simp only [List.mem_cons, List.mem_nil_iff, or_false] at hz
        rcases hz with rfl | rfl
        · exact ⟨by omega, by omega, by omega⟩
        · exact ⟨t1, hAl, t3⟩
      clear cm n1 n2 n3 n4 n5 n6 n7 n8 hA hla hKy
      (refine sim_cnt (N2) [7, 14, 16, 1000] [7, 14, 16, 1000] [3, 4, 5, 7, 13, 14, 16, 65, 66, 67, 71] [117, 115, 116, 3, 4, 5, 7, 13, 14, 16, 65, 66, 67, 71] rfl (fun i T U => ⟨(117, iA i) :: (115, .sl false ([m, (⟨K, yt, A, yd⟩ : Ms)].map msA)) :: (116, iA N2) :: T, U⟩) ?_; (conv => whnf); refine ⟨by (rw [hN2]; rfl), ?_, ?_⟩)
      · intro v hv
        have hy := map_at msA [m, (⟨K, yt, A, yd⟩ : Ms)] v (by simpa [hN2] using hv)
        have hz := hzs _ (getD_mem2 [m, (⟨K, yt, A, yd⟩ : Ms)] v (by simpa [hN2] using hv))
        have hlx : ([m, (⟨K, yt, A, yd⟩ : Ms)].map msA).length = 2 := rfl
        generalize [m, (⟨K, yt, A, yd⟩ : Ms)].getD v default = z at *
        generalize [m, (⟨K, yt, A, yd⟩ : Ms)] = zs at *
        clear hzs
        rw [show msA z = .agg [iA z.kind, slA yA z.tok, slA iA z.args, slA yA z.data] from rfl] at hy
        (have zc1 := cs7; refine WL ?_; clear zc1)
        clear hy hlx cs7
        (refine sim_cnt (N3) [7, 14, 16, 19, 1000] [7, 14, 16, 19, 1000] [3, 4, 5, 7, 13, 14, 16, 19, 65, 66, 67, 71, 115, 116, 117] [125, 123, 124, 3, 4, 5, 7, 13, 14, 16, 19, 65, 66, 67, 71, 115, 116, 117] rfl (fun i T U => ⟨(125, iA i) :: (123, .sl false [slA yA sec, .s (.slice none 0 0), slA yA s7]) :: (124, iA N3) :: T, U⟩) ?_; (conv => whnf); refine ⟨by (rw [hN3]; rfl), ?_, ?_⟩)
        · intro y hy3
          obtain ⟨sv, s, hsv, hwk, hsl⟩ : ∃ (sv : AV) (s : List Int), ([slA yA sec, .s (.slice none 0 0), slA yA s7] : List AV)[y]? = some sv ∧ (sv = slA yA s ∨ (sv = .s (.slice none 0 0) ∧ s = [])) ∧ s.length ≤ 1000 := by
            have : y = 0 ∨ y = 1 ∨ y = 2 := by omega
            rcases this with rfl | rfl | rfl
            · exact ⟨_, sec, rfl, .inl rfl, by omega⟩
            · exact ⟨_, [], rfl, .inr ⟨rfl, rfl⟩, Nat.zero_le _⟩
            · exact ⟨_, s7, rfl, .inl rfl, by omega⟩
          have hls : ([slA yA sec, .s (.slice none 0 0), slA yA s7] : List AV).length = 3 := rfl
          generalize ([slA yA sec, .s (.slice none 0 0), slA yA s7] : List AV) = ss at *
          rw [hN3] at hy3
          rcases hwk with rfl | ⟨rfl, rfl⟩
          · unfold slA at hsv
            (have zc1 := m1; have zc2 := m2; refine WL ?_; clear zc1 zc2)
            (refine sim_cnt (N3) [7, 14, 16, 19, 1000] [7, 14, 16, 19, 1000] [3, 4, 5, 7, 13, 14, 16, 19, 21, 65, 66, 67, 71, 115, 116, 117, 123, 124, 125] [140, 138, 139, 3, 4, 5, 7, 13, 14, 16, 19, 21, 65, 66, 67, 71, 115, 116, 117, 123, 124, 125] rfl (fun i T U => ⟨(140, iA i) :: (138, .sl false (([(slot, now), (s4, n30), (0, 1)] : List (Int × Int)).map kA)) :: (139, iA N3) :: T, U⟩) ?_; (conv => whnf); refine ⟨by (rw [hN3]; rfl), ?_, ?_⟩)
            · intro b5 hb5
              have hy := map_at kA ([(slot, now), (s4, n30), (0, 1)] : List (Int × Int)) b5 (by simpa [hN3] using hb5)
              have hlx : (([(slot, now), (s4, n30), (0, 1)] : List (Int × Int)).map kA).length = 3 := rfl
              generalize ([(slot, now), (s4, n30), (0, 1)] : List (Int × Int)).getD b5 default = k at *
              generalize ([(slot, now), (s4, n30), (0, 1)] : List (Int × Int)) = ks at *
              obtain ⟨r2, p2, u2, e2, hr2, hp2, f1, f2⟩ := do_both x hx z hz k.1 k.2 s hsl
              have f3 := gsame_c r2 hr2
              have f4 := msame_c p2 hp2
              unfold kA at hy
              rw [show (fun k : Int × Int => AV.agg [iA k.1, iA k.2]) = kA from rfl] at *
              rw [show rgA r2 = .agg [iA r2.num, slA yA r2.ag.sec, iA r2.ag.rights, iA r2.ag.cls, slA iA r2.ag.lim, iA r2.ag.req, iA r2.ag.ses, iA r2.ag.rate, iA r2.ag.burst, slA tkA r2.tk, slA vhA r2.vh, iA r2.bk.level, iA r2.bk.rate, iA r2.bk.burst] from rfl, show msA p2 = .agg [iA p2.kind, slA yA p2.tok, slA iA p2.args, slA yA p2.data] from rfl] at f1 f2
              cases u2
              · (have zc1 := f1; have zc2 := f2; have zc3 := f3; have zc4 := f4; refine WL ?_; clear zc1 zc2 zc3 zc4)
                rfl
              · (have zc1 := f1; have zc2 := f2; have zc3 := f3; have zc4 := f4; refine WL ?_; clear zc1 zc2 zc3 zc4)
                rfl
            · rw [hN3]
              (refine WL ?_)
              rfl
          · (have zc1 := m1; have zc2 := m2; refine WL ?_; clear zc1 zc2)
            refine sim_wk 21 (v' := slA yA []) rfl rfl rfl ?_
            (refine sim_cnt (N3) [7, 14, 16, 19, 1000] [7, 14, 16, 19, 1000] [3, 4, 5, 7, 13, 14, 16, 19, 21, 65, 66, 67, 71, 115, 116, 117, 123, 124, 125] [140, 138, 139, 3, 4, 5, 7, 13, 14, 16, 19, 21, 65, 66, 67, 71, 115, 116, 117, 123, 124, 125] rfl (fun i T U => ⟨(140, iA i) :: (138, .sl false (([(slot, now), (s4, n30), (0, 1)] : List (Int × Int)).map kA)) :: (139, iA N3) :: T, U⟩) ?_; (conv => whnf); refine ⟨by (rw [hN3]; rfl), ?_, ?_⟩)
            · intro b5 hb5
              have hy := map_at kA ([(slot, now), (s4, n30), (0, 1)] : List (Int × Int)) b5 (by simpa [hN3] using hb5)
              have hlx : (([(slot, now), (s4, n30), (0, 1)] : List (Int × Int)).map kA).length = 3 := rfl
              generalize ([(slot, now), (s4, n30), (0, 1)] : List (Int × Int)).getD b5 default = k at *
              generalize ([(slot, now), (s4, n30), (0, 1)] : List (Int × Int)) = ks at *
              obtain ⟨r2, p2, u2, e2, hr2, hp2, f1, f2⟩ := do_both x hx z hz k.1 k.2 [] hsl
              have f3 := gsame_c r2 hr2
              have f4 := msame_c p2 hp2
              unfold kA at hy
              rw [show (fun k : Int × Int => AV.agg [iA k.1, iA k.2]) = kA from rfl] at *
              rw [show rgA r2 = .agg [iA r2.num, slA yA r2.ag.sec, iA r2.ag.rights, iA r2.ag.cls, slA iA r2.ag.lim, iA r2.ag.req, iA r2.ag.ses, iA r2.ag.rate, iA r2.ag.burst, slA tkA r2.tk, slA vhA r2.vh, iA r2.bk.level, iA r2.bk.rate, iA r2.bk.burst] from rfl, show msA p2 = .agg [iA p2.kind, slA yA p2.tok, slA iA p2.args, slA yA p2.data] from rfl] at f1 f2
              cases u2
              · (have zc1 := f1; have zc2 := f2; have zc3 := f3; have zc4 := f4; refine WL ?_; clear zc1 zc2 zc3 zc4)
                rfl
              · (have zc1 := f1; have zc2 := f2; have zc3 := f3; have zc4 := f4; refine WL ?_; clear zc1 zc2 zc3 zc4)
                rfl
            · rw [hN3]
              (refine WL ?_)
              rfl
        · rw [hN3]
          (refine WL ?_)
          rfl
      · rw [hN2]
        (refine WL ?_)
        exact ⟨d9, rfl⟩
    · rintro _ ⟨d, rfl⟩
      rw [hN3]
      (refine WL ?_)
      exact ⟨d, rfl⟩
  · rintro _ ⟨d, rfl⟩
    rw [hN2]
    (have zc1 := aw; refine WL ?_; clear zc1)
    exact fin_ret [] rfl rfl rfl rfl
theorem by_row {w : World} {a : Option Addr} {len cap : Nat} {zs : List Int}
    (h : (a = none ∧ len = 0 ∧ cap = 0 ∧ zs = []) ∨ ∃ x, a = some x ∧ len ≤ cap ∧ cap ≤ maxLen ∧ zs.length = cap ∧ (∀ i, i < zs.length → w.cell? (x.add i) = some (.int .u8 (zs.getD i 0))) ∧ ∀ n ∈ zs, (Lit.int .u8 n).wf = true) : BY (zs.take len) := by
  rcases h with ⟨rfl, rfl, rfl, rfl⟩ | ⟨x, rfl, _, _, _, _, h5⟩
  · intro y hy; simp at hy
  · intro y hy
    have h6 := h5 y (List.mem_of_mem_take hy)
    unfold Lit.wf at h6
    rw [Bool.and_eq_true, decide_eq_true_eq, decide_eq_true_eq] at h6
    have e1 : IntKind.u8.min = 0 := by decide
    have e2 : IntKind.u8.max = 255 := by decide
    omega
section
variable {H : Type} {eh : TypeId × Value → H} {w : World}
def msE (m : Ms) : List AV := [iA m.kind, slA yA m.tok, slA iA m.args, slA yA m.data]
theorem reads_ms : Reads eh Tryz.prog w 33 msE (fun _ => True) :=
  (reads_struct Tryz.underlying33 (by kernel_rfl) (.cons 1 reads_i rfl (by kernel_rfl) (fun _ => rfl) (.cons 1 reads_ys rfl (by kernel_rfl) (fun _ => rfl) (.cons 1 reads_is rfl (by kernel_rfl) (fun _ => rfl) (.cons 1 reads_ys rfl (by kernel_rfl) (fun _ => rfl) (.nil 4)))))).map (fun p => ⟨p.1, p.2.1, p.2.2.1, p.2.2.2.1⟩) (fun _ => rfl) (fun _ _ => trivial)
end
theorem does_w (raw : Rg) (_ : True) (m : Ms) (_ : True) (l : List Int) (hl : l.length ≤ 9223372036854775807) (slot now : Int) (sec : List Int) (_ : sec.length ≤ 9223372036854775807) (_ : BY sec) : CallSim Tryz.prog 3 [rgA raw, msA m, slA iA l, iA slot, iA now, slA yA sec] [] (bA true) [] := does_c raw m l hl slot now sec
end Av
end Go.Proofs.YtjbldhhgooihfaaGreat
