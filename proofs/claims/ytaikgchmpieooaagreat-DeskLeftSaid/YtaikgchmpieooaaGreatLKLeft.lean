/- law26: DeskLeft. -/
import Derived.Test.YtaikgchmpieooaaGreatP42
import Derived.Test.YtaikgchmpieooaaGreatP43
namespace Go.Proofs.YtaikgchmpieooaaGreat
namespace Av
set_option linter.unusedSimpArgs false
set_option linter.unusedVariables false
set_option maxRecDepth 4000
set_option maxHeartbeats 4000000
theorem left_h {c : Cf} {d : Dsk} (hI : DskI c d) (s now : Int) {p : List Int} (hR : Rt c d 12 now [] p) : CallSim Tryz.prog 16 [cfA c, dskA d, iA s, itA ⟨0, 12, p⟩, iA now] [] (hdT d.rg.num 12 ⟨d, leftM d, -1, 0⟩) [] := by
 have hrq := hI.a.q
 have hd : rtD d 12 = d := rfl
 have k5 := hP_tell c d s now 12 p _ [] hR.k0.1 hR.k0.2 hR.dec _ 0 hR.open' (.inr (.inr rfl)) (leftM d) (by rw [hR.dk, hd]; exact tellLeft_c d 12 now (by decide) (by decide) hI.bd (by omega) (by omega))
 rw [hR.dk, hd] at k5
 have k6 := HP_of c d s now ⟨0, 12, p⟩ hI.bd _ _ _ _ k5
 rw [hdM_yes] at k6
 exact k6
theorem kleft_c (l : List Int) (hl : l.length ≤ 9223372036854775807) (now : Int) : CallSim Tryz.prog 6 [slA iA l, iA now] [] (bA true) [] := by
 have ka := awake26_c
 have kn := new_c l hl
 generalize (⟨l, 0, Nat.zero_le _, hl⟩ : Dk) = d0 at *
 obtain ⟨x, e, hM, km⟩ := made_ex d0 63 (by omega)
 have hag := cfF_ag d0 63 (by omega)
 generalize cfF d0 63 = c at *
 have hI := hM.i
 have hA := hag _ hM.r.1 hM.r.2
 rw [← hM.a] at hA
 have hn := hM.n
 have hT := hM.t
 have h3 := hM.r
 generalize nx (cfD d0 63) (c.ags.length : Int) = k at *
 have m1 := mod_c now 40 (by omega) (by omega)
 generalize now % 40 = nw at *
 clear hM hag
 have hnum := hI.n
 have hsl : x.rg.ag.sec.length = 8 := by have := hI.a.s; omega
 obtain ⟨p, hR, ke⟩ := rt_msg hI hT (by rw [hA.1.s]; exact secF_by _) 12 nw [] (by omega) (fun x hx => by simp at hx) 0 (by omega) (fun h => absurd rfl h) rfl (by rw [hA.2]; exact pe63 12 (by omega)) (fun h => by simp [costs] at h)
 have kh := left_h hI 0 nw hR
 have kb := bytes2_c x.rg.num 0 x.rg.ag.sec (by omega) (by omega) (by omega) (by omega) (by omega)
 have ks := dsame_c x hI.bd
 have hlt := map_len tkA x.rg.tk
 have hlv := map_len vhA x.rg.vh
 have hlq := map_len rqA x.rq
 have hrq := hI.a.q
 have hq := hI.q
 have hv := hI.vh
 have hb := hI.bl
 have hb2 := hI.a.b
 have ht8 := hI.t8
 clear hR hA hT hI
 unfold hdT leftM at kh
 rw [← hlv, ← hlq] at kh
 unfold dskA dskX enA itA msA at *
 unfold cfA at *
 dsimp only at *
 (refine eN Tryz.func6 Tryz.call6 fun F hF => ?_)
 (have zc1 := kn; have zc2 := km; have zc3 := kb; have zc4 := ke; have zc5 := m1; have zc6 := kh; refine WL ?_; clear zc1 zc2 zc3 zc4 zc5 zc6)
 (refine sim_rng (x.rg.tk) [7, 10, 11] [7, 10, 11] [7, 10, 11, 51, 52] [14, 53, 7, 10, 11, 51, 52] rfl (fun i pre T U => ⟨(14, iA (freN pre)) :: (53, iA i) :: T, U⟩) ?_; (conv => whnf); refine ⟨by rfl, ?_, ?_⟩)
 ·intro i pre x post hx hi
  have hy := rng_at tkA hx hi
  have hlt2 := rng_lt hx hi
  have hle : freN pre ≤ i := by rw [← hi]; exact List.length_filter_le _ _
  have e := freN_snoc pre x
  clear hx
  cases hu : x.used with
  | true =>
   rw [hu, if_pos rfl, Nat.add_zero] at e
   rw [e]
   generalize freN pre = m at *
   obtain ⟨us, sec, par, ri, cl, ti⟩ := x
   cases hu
   (refine WW ?_)
   rfl
  | false =>
   rw [hu, if_neg Bool.false_ne_true] at e
   rw [e]
   generalize freN pre = m at *
   obtain ⟨us, sec, par, ri, cl, ti⟩ := x
   cases hu
   (refine WW ?_)
   rfl
 ·(have zc1 := ks; have zc2 := ka; refine WL ?_; clear zc1 zc2)
  exact fr0
end Av
end Go.Proofs.YtaikgchmpieooaaGreat
