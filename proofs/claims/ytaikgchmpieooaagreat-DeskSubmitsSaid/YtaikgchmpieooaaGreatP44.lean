/- Part 44: contracts of the functions, and what they rest upon. -/
import Derived.Test.YtaikgchmpieooaaGreatP30
import Derived.Test.YtaikgchmpieooaaGreatP18
namespace Go.Proofs.YtaikgchmpieooaaGreat
namespace Av
set_option linter.unusedSimpArgs false
set_option linter.unusedVariables false
set_option maxRecDepth 4000
set_option maxHeartbeats 2000000
def cfO (g : Cf) : AV := .agg [slA jnA g.js, .ref 1002 0 (g.ags.map agA).length, iA g.per, iA g.cap, iA g.hold, iA g.lock]
theorem config_own (d : Dk) (rights : Int) : CallSim Tryz.prog 29 [.ptr 1000 0 0, iA rights] [(1000, dkE d)] (cfO (cfF d rights)) [(1000, dkE (cfD d rights)), (1002, .arr 8 ((cfF d rights).ags.map agA) false)] := by
 have hn := nx_bd (ad4 d) 2 (by omega)
 have hm := nx_bd (cfJ d).2 3 (by omega)
 have en : 1 + nx (ad4 d) 2 = (cfN d : Int) := (Int.toNat_of_nonneg (by omega)).symm
 have em : 1 + nx (cfJ d).2 3 = (cfM d : Int) := (Int.toNat_of_nonneg (by omega)).symm
 have ej : cfJ d = cjL (ad (ad4 d)) (cfN d) := rfl
 have eg : cfG d rights = caL (ad (cfJ d).2) rights (cfM d) := rfl
 have ef : cfF d rights = ⟨(cfJ d).1, (cfG d rights).1, 1 + nx d (4 - 1 + 1), nx (ad d) 4, 1 + nx (ad (ad d)) (3 - 1 + 1), nx (ad (ad (ad d))) 5⟩ := rfl
 have ed : cfD d rights = (cfG d rights).2 := rfl
 rw [ef, ed]
 unfold ad4 at *
 generalize cfJ d = jj at *
 generalize cfG d rights = gg at *
 generalize cfN d = N at *
 generalize cfM d = M at *
 have jc := fun i => junction_c (cjL (ad (ad (ad (ad (ad d))))) i).2
 (refine eN Tryz.func29 Tryz.call29 fun F hF => ?_)
 (repeat' (first | refine WZ ?_ | refine SG0 (I2 (fun hc => ?_) (fun hc => ?_)) | (refine is_ops ?_; refine is_call ?_; (first | (refine is_fn 32 ?_; first | refine x_q (stp_call (range_c _ _ _ (by omega) (by omega) (by omega)) rfl rfl rfl rfl rfl) rfl ?_ | refine x_w (stp_call (range_c _ _ _ (by omega) (by omega) (by omega)) rfl rfl rfl rfl rfl) rfl rfl rfl ?_ | refine x_d (stp_call (range_c _ _ _ (by omega) (by omega) (by omega)) rfl rfl rfl rfl rfl) rfl rfl rfl ?_) | (refine is_fn 13 ?_; first | refine x_q (stp_call (next_c _ _ (by omega) (by omega)) rfl rfl rfl rfl rfl) rfl ?_ | refine x_w (stp_call (next_c _ _ (by omega) (by omega)) rfl rfl rfl rfl rfl) rfl rfl rfl ?_ | refine x_d (stp_call (next_c _ _ (by omega) (by omega)) rfl rfl rfl rfl rfl) rfl rfl rfl ?_))) | refine SR ?_ | refine SK0 (I2 (fun hc => ?_) (fun hc => ?_)) | fail))
 generalize nx d (4 - 1 + 1) = c1 at *
 generalize nx (ad d) 4 = c2 at *
 generalize nx (ad (ad d)) (3 - 1 + 1) = c3 at *
 generalize nx (ad (ad (ad d))) 5 = c4 at *
 generalize nx (ad (ad (ad (ad d)))) 2 = n0 at *
 generalize ad (ad (ad (ad (ad d)))) = d5 at *
 refine sim_virtB 5 0 1001 3 rfl rfl rfl rfl rfl ?_
 refine sim_loop_r (fun n st => ∃ i : Nat, n + i = N ∧ st = ⟨[(0, .ptr 1000 0 0), (1, iA rights), (4, .ptr 4 0 0), (5, .ptr 5 0 0), (6, iA (1 + n0 - i))],
   [(1000, dkE (cjL d5 i).2), (4, .box [.s (.slice none 0 0), .s (.slice none 0 0), iA 0, iA 0, iA 0, iA 0]), (5, .box [.ref 1001 0 ((cjL d5 i).1.map jnA).length, .s (.slice none 0 0), iA (1 + c1), iA c2, iA (1 + c3), iA c4]), (1001, .arr 3 ((cjL d5 i).1.map jnA) true)]⟩)
  N [1000, 4, 5, 1001] [0, 1, 4, 5, 6] rfl ⟨0, rfl, by rw [show 1 + n0 - (0 : Nat) = 1 + n0 by omega]; rfl⟩ ?_
 rintro n st ⟨i, hi, rfl⟩
 by_cases hlt : i < N
 ·have hm2 : (cjL d5 (i + 1)).1.map jnA = (cjL d5 i).1.map jnA ++ [jnA (jnF (cjL d5 i).2)] := List.map_append
  have hd2 : (cjL d5 (i + 1)).2 = jnD (cjL d5 i).2 := rfl
  have c := jc i
  have hle := cjL_len d5 i
  generalize hq' : cjL d5 (i + 1) = q' at hm2 hd2
  generalize cjL d5 i = q at *
  obtain ⟨ql, qd⟩ := q
  dsimp only at hm2 hd2 hle c ⊢
  generalize jnF qd = jf at *
  generalize jnD qd = jd at *
  (repeat' (first | refine WZ ?_ | refine SG0 (I2 (fun hc => ?_) (fun hc => ?_)) | (refine is_ops ?_; refine is_call ?_; (first | (refine is_fn 60 ?_; first | refine x_q (stp_call (c) rfl rfl rfl rfl rfl) rfl ?_ | refine x_w (stp_call (c) rfl rfl rfl rfl rfl) rfl rfl rfl ?_ | refine x_d (stp_call (c) rfl rfl rfl rfl rfl) rfl rfl rfl ?_))) | refine SR ?_ | refine SK0 (I2 (fun hc => ?_) (fun hc => ?_)) | fail))
  exact ⟨n - 1, by omega, i + 1, by omega, by rw [hq', hm2, hd2, show 1 + n0 - ((i + 1 : Nat) : Int) = 1 + n0 - i - 1 by omega]; rfl⟩
 obtain rfl : i = N := by omega
 have hjl : jj.1.length = i := by rw [ej]; exact cjL_len _ _
 rw [← ej]
 clear ej jc ef ed
 obtain ⟨js, dj⟩ := jj
 dsimp only at *
 have hlp : (js.map jnA).length = js.length := by simp
 have hal := caL_len (ad dj) rights M
 have ac := fun k (hk : k < M) => agency_c (caL (ad dj) rights k).2 k rights (by omega) (by omega)
 rw [← eg] at hal
 (repeat' (first | refine WZ ?_ | refine SG0 (I2 (fun hc => ?_) (fun hc => ?_)) | (refine is_ops ?_; refine is_call ?_; (first | (refine is_fn 13 ?_; first | refine x_q (stp_call (next_c _ _ (by omega) (by omega)) rfl rfl rfl rfl rfl) rfl ?_ | refine x_w (stp_call (next_c _ _ (by omega) (by omega)) rfl rfl rfl rfl rfl) rfl rfl rfl ?_ | refine x_d (stp_call (next_c _ _ (by omega) (by omega)) rfl rfl rfl rfl rfl) rfl rfl rfl ?_))) | refine SR ?_ | refine SK0 (I2 (fun hc => ?_) (fun hc => ?_)) | fail))
 generalize nx dj 3 = n3 at *
 generalize ad dj = dk at *
 refine sim_restr (st' := ⟨[(0, .ptr 1000 0 0), (1, iA rights), (4, .ptr 4 0 0), (5, .ptr 5 0 0), (33, iA (1 + n3)), (34, iA 0)],
   [(1000, dkE dk), (4, .box [.s (.slice none 0 0), .s (.slice none 0 0), iA 0, iA 0, iA 0, iA 0]), (5, .box [slA jnA js, .s (.slice none 0 0), iA (1 + c1), iA c2, iA (1 + c3), iA c4])]⟩) [1000, 4, 5] [0, 1, 4, 5, 33, 34] rfl (by
  have e1 : slA jnA js = .sl false (List.take (js.map jnA).length (List.drop 0 (js.map jnA))) := by
   rw [List.drop_zero, List.take_length]
   rfl
  rw [e1]
  rfl) ?_
 refine sim_virtB 5 1 1002 8 rfl rfl rfl rfl rfl ?_
 refine sim_loop_r (fun n st => ∃ k : Nat, n + k = M ∧ st = ⟨[(0, .ptr 1000 0 0), (1, iA rights), (4, .ptr 4 0 0), (5, .ptr 5 0 0), (33, iA (1 + n3)), (34, iA k)],
   [(1000, dkE (caL dk rights k).2), (4, .box [.s (.slice none 0 0), .s (.slice none 0 0), iA 0, iA 0, iA 0, iA 0]), (5, .box [slA jnA js, .ref 1002 0 ((caL dk rights k).1.map agA).length, iA (1 + c1), iA c2, iA (1 + c3), iA c4]), (1002, .arr 8 ((caL dk rights k).1.map agA) true)]⟩)
  M [1000, 4, 5, 1002] [0, 1, 4, 5, 33, 34] rfl ⟨0, rfl, rfl⟩ ?_
 clear n hi hlt
 rintro n st ⟨k, hk, rfl⟩
 by_cases hlt : k < M
 ·have hm2 : (caL dk rights (k + 1)).1.map agA = (caL dk rights k).1.map agA ++ [agA (agF (caL dk rights k).2 k rights)] := by rw [caL_s1]; exact List.map_append
  have hd2 : (caL dk rights (k + 1)).2 = ad (ad7 (caL dk rights k).2) := caL_s2 dk rights k
  have c := ac k hlt
  have hle := caL_len dk rights k
  clear ac
  generalize hq' : caL dk rights (k + 1) = q' at hm2 hd2
  generalize caL dk rights k = q at *
  obtain ⟨ql, qd⟩ := q
  dsimp only at hm2 hd2 hle c ⊢
  generalize agF qd k rights = jf at *
  generalize ad (ad7 qd) = jd at *
  (repeat' (first | refine WZ ?_ | refine SG0 (I2 (fun hc => ?_) (fun hc => ?_)) | (refine is_ops ?_; refine is_call ?_; (first | (refine is_fn 61 ?_; first | refine x_q (stp_call (c) rfl rfl rfl rfl rfl) rfl ?_ | refine x_w (stp_call (c) rfl rfl rfl rfl rfl) rfl rfl rfl ?_ | refine x_d (stp_call (c) rfl rfl rfl rfl rfl) rfl rfl rfl ?_))) | refine SR ?_ | refine SK0 (I2 (fun hc => ?_) (fun hc => ?_)) | fail))
  exact ⟨n - 1, by omega, k + 1, by omega, by rw [hq', hm2, hd2]; rfl⟩
 obtain rfl : k = M := by omega
 rw [← eg]
 clear eg ac
 refine sim_whole 1002 rfl rfl (by simp [WholeT, Whole, iA]) (by simp [WholeH, WholeL, Whole, dkE, iA, slA]) ?_
 (repeat' (first | refine WZ ?_ | refine SG0 (I2 (fun hc => ?_) (fun hc => ?_)) | refine SR ?_ | refine SK0 (I2 (fun hc => ?_) (fun hc => ?_)) | fail))
 exact fin_own [1000, 1002] rfl rfl rfl rfl
end Av
end Go.Proofs.YtaikgchmpieooaaGreat
