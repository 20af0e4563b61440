
/- law17: what RegistryOpens needs besides. -/
import Derived.Test.YtjbldhhgooihfaaGreatRgR
import Derived.Test.YtjbldhhgooihfaaGreatRgO
namespace Go.Proofs.YtjbldhhgooihfaaGreat
namespace Av
set_option linter.unusedSimpArgs false
set_option linter.unusedVariables false
set_option maxRecDepth 4000
set_option maxHeartbeats 1000000
def rgC (r : Rg) (v : AV) : List AV := [iA r.num, slA yA r.ag.sec, iA r.ag.rights, iA r.ag.cls, slA iA r.ag.lim, iA r.ag.req, iA r.ag.ses, iA r.ag.rate, iA r.ag.burst, v, slA vhA r.vh, iA r.bk.level, iA r.bk.rate, iA r.bk.burst]
theorem copyG_own (r : Rg) (hb : RgB r) : CallSim Tryz.prog 35 [rgA r] [] (.agg (rgC r (.ref 1001 0 (r.tk.map tkA).length))) [(1001, .arr 6 (r.tk.map tkA) false)] := by
  have c := copyT2_own r.tk hb.tk
  have h1 := hb.s
  have h2 := hb.l
  have h3 := hb.v
  have l1 := map_len yA r.ag.sec
  have l2 := map_len iA r.ag.lim
  have l3 := map_len vhA r.vh
  generalize r.tk.map tkA = xs at *
  unfold rgC
  have er : rgA r = .agg [iA r.num, slA yA r.ag.sec, iA r.ag.rights, iA r.ag.cls, slA iA r.ag.lim, iA r.ag.req, iA r.ag.ses, iA r.ag.rate, iA r.ag.burst, slA tkA r.tk, slA vhA r.vh, iA r.bk.level, iA r.bk.rate, iA r.bk.burst] := rfl
  rw [er]
  (refine callSim_of tok Tryz.func35 rfl (fun args w => Tryz.call35 args w) rfl rfl rfl (fun F hF => ?_))
  (have zc1 := c; refine WL ?_; clear zc1)
  exact fin_ret [1001] rfl rfl rfl rfl
def liF (r : Rg) : Bool := decide (r.tk.length ≤ 20 ∧ r.vh.length ≤ 30 ∧ r.ag.lim.length ≤ 20 ∧ r.ag.sec.length ≤ 50)
theorem light_c (r : Rg) : CallSim Tryz.prog 4 [rgA r] [] (bA (liF r)) [] := by
  have l1 := map_len yA r.ag.sec
  have l2 := map_len iA r.ag.lim
  have l3 := map_len vhA r.vh
  have l4 := map_len tkA r.tk
  unfold liF
  by_cases g1 : r.tk.length ≤ 20
  case neg =>
    rw [decide_eq_false (fun h => g1 h.1)]
    (refine callSim_of tok Tryz.func4 rfl (fun args w => Tryz.call4 args w) rfl rfl rfl (fun F hF => ?_))
    (refine WW ?_)
    exact fin_ret [] rfl rfl rfl rfl
  by_cases g2 : r.vh.length ≤ 30
  case neg =>
    rw [decide_eq_false (fun h => g2 h.2.1)]
    (refine callSim_of tok Tryz.func4 rfl (fun args w => Tryz.call4 args w) rfl rfl rfl (fun F hF => ?_))
    (refine WW ?_)
    exact fin_ret [] rfl rfl rfl rfl
  by_cases g3 : r.ag.lim.length ≤ 20
  case neg =>
    rw [decide_eq_false (fun h => g3 h.2.2.1)]
    (refine callSim_of tok Tryz.func4 rfl (fun args w => Tryz.call4 args w) rfl rfl rfl (fun F hF => ?_))
    (refine WW ?_)
    exact fin_ret [] rfl rfl rfl rfl
  by_cases g4 : r.ag.sec.length ≤ 50
  · rw [decide_eq_true ⟨g1, g2, g3, g4⟩]
    (refine callSim_of tok Tryz.func4 rfl (fun args w => Tryz.call4 args w) rfl rfl rfl (fun F hF => ?_))
    (refine WW ?_)
    exact fin_ret [] rfl rfl rfl rfl
  · rw [decide_eq_false (fun h => g4 h.2.2.2)]
    (refine callSim_of tok Tryz.func4 rfl (fun args w => Tryz.call4 args w) rfl rfl rfl (fun F hF => ?_))
    (refine WW ?_)
    exact fin_ret [] rfl rfl rfl rfl
theorem gvF_S {r : Rg} (h : RgS r) : gvF r = true := by
  have h1 := h.n
  have h2 := h.a.b
  have h3 := h.a.t
  have h4 := h.l
  have h5 := h.ra
  have h6 := h.bu
  unfold gvF
  rw [decide_eq_true ⟨h1.1, by omega⟩, (avF_iff _).2 h.a, tv_eq, (tv_iff _).2 h.t.v, h.vv]
  have hb : bvF r.bk = true := by
    unfold bvF
    exact decide_eq_true ⟨by omega, by omega, by omega, by omega, by omega, by omega⟩
  rw [hb, decide_eq_true ⟨h5, h6⟩]
  rfl
theorem opR_b {r : Rg} (h : RgB r) (m : Ms) (now : Int) : RgB (opR r m now) := by
  unfold opR
  split
  · split
    · exact ⟨h.tk, h.s, h.l, h.v⟩
    · exact h
  · exact ⟨⟨by simp [rgZ], fun t ht => by simp [rgZ] at ht⟩, by simp [rgZ], by simp [rgZ], by simp [rgZ]⟩
theorem expF_b {l : List Tk} (h : TkB l) (now : Int) : TkB (expF l now) := by
  refine ⟨by simp only [expF, List.length_map, List.length_range]; exact h.n, fun t ht => ?_⟩
  unfold expF at ht
  rw [List.mem_map] at ht
  obtain ⟨j, hj, rfl⟩ := ht
  rw [List.mem_range] at hj
  unfold exAt
  split
  · simp [frT]
  · exact h.s _ (getD_mem2 l j hj)
theorem rtF_b {r : Rg} (h : RgB r) (now : Int) : RgB (rtF r now) := ⟨expF_b h.tk now, h.s, h.l, h.v⟩
noncomputable def mgR (r : Rg) (d : Dk) : Ms × Dk := open Classical in if h : RgS r then ((message17_ex r h d).choose, (message17_ex r h d).choose_spec.choose) else (⟨0, [], [], []⟩, d)
theorem mgR_c {r : Rg} (h : RgS r) (d : Dk) : BY (mgR r d).1.tok ∧ CallSim Tryz.prog 8 [.ptr 1000 0 0, rgA r] [(1000, dkE d)] (msA (mgR r d).1) [(1000, dkE (mgR r d).2)] := by
  unfold mgR
  rw [dif_pos h]
  obtain ⟨a, _, _, b⟩ := (message17_ex r h d).choose_spec.choose_spec
  exact ⟨a, b⟩
noncomputable def mgD (r : Rg) (d : Dk) : Nat → Dk
  | 0 => d
  | i + 1 => (mgR r (mgD r d i)).2
end Av
end Go.Proofs.YtjbldhhgooihfaaGreat
