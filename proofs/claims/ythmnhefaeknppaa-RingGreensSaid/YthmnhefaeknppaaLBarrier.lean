/- The law RingBarrier. -/
import Derived.Test.YthmnhefaeknppaaRiL
import Derived.Test.YthmnhefaeknppaaAvq
namespace Go.Proofs.Ythmnhefaeknppaa
namespace Av
set_option linter.unusedSimpArgs false
set_option linter.unusedVariables false
set_option maxRecDepth 4000
set_option maxHeartbeats 1000000
/-- The controls of a list of targets. -/
def tgC (j : Jn) (ts : List Int) : Nat → Ct
  | 0 => inF j
  | i + 1 => stF j (tgC j ts i) ((ts.getD i default) % (j.ph.length + 2) - 1)
theorem tgC_v {j : Jn} (J : JV j) (ts : List Int) : ∀ i, CV j (tgC j ts i) ∧ GV j (tgC j ts i)
  | 0 => ⟨cv_in J, gv_in j⟩
  | i + 1 => ⟨cv_st J (tgC_v J ts i).1 _, gv_st J (tgC_v J ts i).1 (tgC_v J ts i).2 _⟩
theorem barrier_c (l : List Int) (hl : l.length ≤ 9223372036854775807) (ts : List Int) (hts : ts.length ≤ 9223372036854775807) : CallSim Try.prog 9 [slA iA l, slA iA ts] [] (bA true) [] := by
  have aw := awake09_c
  have hlt := map_len iA ts
  by_cases h150 : 150 < (ts.length : Int)
  · (refine callSim_of tok Try.func9 rfl (fun args w => Try.call9 args w) rfl rfl rfl (fun F hF => ?_))
    (have zc1 := aw; refine WL ?_; clear zc1)
    exact fin_ret [] rfl rfl rfl rfl
  have hn := new_c l hl
  generalize (⟨l, 0, Nat.zero_le _, hl⟩ : Dk) = d0 at *
  have cj := junction_c d0
  have J := jv_jnF d0
  generalize jnF d0 = j at *
  generalize jnD d0 = d1 at *
  have hjn := J.n
  have ci := init_c j (by omega)
  have hlp := map_len phA j.ph
  rw [show inF j = tgC j ts 0 from rfl] at ci
  (refine callSim_of tok Try.func9 rfl (fun args w => Try.call9 args w) rfl rfl rfl (fun F hF => ?_))
  (have zc1 := aw; have zc2 := hn; have zc3 := cj; have zc4 := ci; refine WL ?_; clear zc1 zc2 zc3 zc4)
  (refine sim_cnt (ts.length) [6, 5] [5] [5, 6, 24, 25] [26, 5, 6, 24, 25] rfl (fun i T U => ⟨(26, iA i) :: T, (6, .box [slA liA (tgC j ts i).li, iA (tgC j ts i).gr, slA iA (tgC j ts i).nx, iA (tgC j ts i).wt]) :: U⟩) ?_; (conv => whnf); refine ⟨by rfl, ?_, ?_⟩)
  · intro u hu
    have hy := map_at iA ts u hu
    have cm := mod_c (ts.getD u default) (j.ph.length + 2) (by omega) (by omega)
    obtain ⟨C, _⟩ := tgC_v J ts u
    obtain ⟨C2, G2⟩ := tgC_v J ts (u + 1)
    have cs := step_c j J (tgC j ts u) C ((ts.getD u default) % (j.ph.length + 2) - 1)
    rw [show stF j (tgC j ts u) ((ts.getD u default) % (j.ph.length + 2) - 1) = tgC j ts (u + 1) from rfl] at cs
    have bm := Int.emod_nonneg (ts.getD u default) (show ((j.ph.length : Int) + 2) ≠ 0 by omega)
    have bm2 := Int.emod_lt_of_pos (ts.getD u default) (show 0 < ((j.ph.length : Int) + 2) by omega)
    rw [← hlp] at cm bm2 cs bm
    generalize (ts.getD u default) % ((j.ph.map phA).length + 2) = t at *
    generalize tgC j ts (u + 1) = c2 at *
    generalize tgC j ts u = c1 at *
    generalize ts.getD u default = t0 at *
    have hc2 := C2.n
    have hl2 := map_len liA c2.li
    clear aw hn cj ci C
    (have zc1 := cm; have zc2 := cs; refine WL ?_; clear zc1 zc2)
    (refine sim_cnt (c2.li.length) [5, 6] [5, 6] [5, 6, 24, 25, 26, 48, 49] [50, 5, 6, 24, 25, 26, 48, 49] rfl (fun i T U => ⟨(50, iA i) :: T, U⟩) ?_; (conv => whnf); refine ⟨by rfl, ?_, ?_⟩)
    · intro v hv
      have hyv := map_at liA c2.li v hv
      change (c2.li.map liA)[v]? = some (liA (liO c2 v)) at hyv
      (refine WL ?_)
      (refine sim_cnt (c2.li.length) [5, 6, 10] [5, 6, 10] [5, 6, 9, 10, 24, 25, 26, 48, 49, 50, 56, 57] [58, 5, 6, 9, 10, 24, 25, 26, 48, 49, 50, 56, 57] rfl (fun i T U => ⟨(58, iA i) :: T, U⟩) ?_; (conv => whnf); refine ⟨by rfl, ?_, ?_⟩)
      · intro x hx
        have hyx := map_at liA c2.li x hx
        change (c2.li.map liA)[x]? = some (liA (liO c2 x)) at hyx
        have hpv := map_at phA j.ph v (by omega)
        have hpx := map_at phA j.ph x (by omega)
        change (j.ph.map phA)[v]? = some (phA (phO j v)) at hpv
        change (j.ph.map phA)[x]? = some (phA (phO j x)) at hpx
        have hG := G2 v (by omega)
        have hX := fun h => C2.x v x (by omega) (by omega) h
        have hA := fun h => J.ap v x (by omega) (by omega) h
        by_cases h1 : v = x
        · have hne : (v : Int) = x := by omega
          clear hX hA
          generalize liO c2 v = a at *
          generalize liO c2 x = b at *
          generalize phO j v = p at *
          generalize phO j x = q at *
          by_cases h2 : a.lamp = 0
          · (refine WL ?_)
            rfl
          · have hg := hG h2
            (refine WL ?_)
            rfl
        have hne : ¬ (v : Int) = x := by omega
        by_cases h2 : (liO c2 v).lamp = 0
        · clear hX hA
          generalize liO c2 v = a at *
          generalize liO c2 x = b at *
          generalize phO j v = p at *
          generalize phO j x = q at *
          (refine WL ?_)
          rfl
        have hg := hG h2
        by_cases h3 : (liO c2 x).lamp = 0
        · clear hX hA
          generalize liO c2 v = a at *
          generalize liO c2 x = b at *
          generalize phO j v = p at *
          generalize phO j x = q at *
          (refine WL ?_)
          rfl
        have h4 := hX h1 h2 h3
        have hr : ¬ (phO j v).ring = (phO j x).ring := fun h => by
          rw [hA h1 (.inl h)] at h4
          cases h4
        have hgr : (phO j v).group = (phO j x).group := Classical.byContradiction fun h => by
          rw [hA h1 (.inr h)] at h4
          cases h4
        clear hX hA h4 hG
        generalize liO c2 v = a at *
        generalize liO c2 x = b at *
        generalize phO j v = p at *
        generalize phO j x = q at *
        (refine WL ?_)
        rfl
      · have hG := G2 v (by omega)
        have hpv := map_at phA j.ph v (by omega)
        change (j.ph.map phA)[v]? = some (phA (phO j v)) at hpv
        generalize liO c2 v = a at *
        generalize phO j v = p at *
        by_cases h2 : a.lamp = 0
        · (refine WL ?_)
          rfl
        · have hg := hG h2
          (refine WL ?_)
          rfl
    · (refine WL ?_)
      rfl
  · (have zc1 := aw; refine WL ?_; clear zc1)
    exact fin_ret [] rfl rfl rfl rfl
end Av
end Go.Proofs.Ythmnhefaeknppaa
