/- Abstract values: a range over a function: a round. -/
import Derived.Test.YtjbldhhgooihfaaAvx
namespace Go.Proofs.Ytjbldhhgooihfaa
namespace Av
set_option linter.unusedSimpArgs false
set_option linter.unusedVariables false

theorem Keep.evo {K0 : List Nat} {F : Fr K0} {h : Heap} {β : Map} {w : World} {X : Nat → Prop} (hX : XOK F X) (G : Goes X F.w0 F.h0 F.β0 w h β) : Evo F.w0 (Dom F.X F.β0) F.h0 F.β0 w (Dom X β) h β :=
  ⟨G.size, fun b hb hd => ⟨G.keep b hb fun k n hm => hd (.inr ⟨k, n, hm⟩), fun h' => by
    rcases h' with hx | ⟨k, n, hm⟩
    · rcases hX.2 b hx with hx | hx
      · exact hd (.inl hx)
      · omega
    · rcases G.own k b n hm with ⟨k', n', h2⟩ | h2
      · exact hd (.inr ⟨k', n', h2⟩)
      · omega⟩, G.bs, G.key⟩
/-- What holds of the world, for the function that ranges, while the iterator runs: O are the blocks that the iterator owns, X those that it takes for others'. -/
structure Core {K0 : List Nat} (F : Fr K0) (T : List (Nat × AV)) (a : Act) (l : Nat) (hc : List (Nat × Ent)) (rec : Loop) (O X : Nat → Prop) (W : World) : Prop where
  ex : ∃ Xc βc, XOK F Xc ∧ HOK Xc (lookE hc) βc W ∧ (∀ t, RepV W (Dom Xc βc) (lookE hc) βc (look T t) (a.eval (.tmp t))) ∧ Keep F (lookE hc) βc W ∧
    (∃ bs : List Nat, a.defers = bs.map (fun b => { target := .collected b, args := #[] }) ∧ bs.Nodup ∧ ∀ b, b ∈ bs → Xc b ∧ F.w0.heap.size ≤ b ∧ W.heap[b]? = some (.deferred (some [])) ∧ ¬ O b) ∧
    (∀ b, O b → Xc b ∧ F.w0.heap.size ≤ b ∧ ¬ F.X b) ∧ (∀ b, Own βc b → X b) ∧ (∀ b, Xc b → X b ∨ O b) ∧ Xc l
  lx : X l
  lo : ¬ O l
  lh : W.heap[l]? = some (.loop rec)
  ll : F.w0.heap.size ≤ l
  xl : ∀ b, X b → b < W.heap.size
  nd : ∀ k, lookE hc k ≠ some .dead
section
variable {K0 : List Nat} {F : Fr K0} {T : List (Nat × AV)} {a : Act} {l : Nat} {hc : List (Nat × Ent)} {rec : Loop} {O O' X : Nat → Prop} {W W' : World}
theorem Core.stab (C : Core F T a l hc rec O X W) (hs : W.heap.size ≤ W'.heap.size) (hk : ∀ b, b < W.heap.size → ¬ O b → W'.heap[b]? = W.heap[b]?) (ho : ∀ b, O' b → O b ∨ W.heap.size ≤ b) (hl : ∀ b, O' b → b < W'.heap.size) (o1 : W'.os = W.os) (o2 : W'.tape = W.tape) (o3 : W'.output = W.output) : Core F T a l hc rec O' X W' := by
  obtain ⟨⟨Xc, βc, c1, c2, c3, c4, ⟨bs, d1, d2, d3⟩, c6, c8, c10, c11⟩, lx, lo, lh, ll, xl, nd⟩ := C
  have hlW : l < W.heap.size := xl l lx
  have own : ∀ k b n, (b, n) ∈ βc k → ¬ O b := fun k b n hm hO => c2.free k b n hm (c6 b hO).1
  have E : Evo W (Dom Xc βc) (lookE hc) βc W' (Dom (fun b => (Xc b ∧ ¬ O b) ∨ O' b) βc) (lookE hc) βc := by
    refine ⟨hs, fun b hb hd => ⟨hk b hb fun hO => hd (.inl (c6 b hO).1), fun h' => ?_⟩, fun k b n hm => ?_, keyRefl _ _⟩
    · rcases h' with (hx | hx) | hx
      · exact hd (.inl hx.1)
      · rcases ho b hx with hO | hO
        · exact hd (.inl (c6 b hO).1)
        · omega
      · exact hd (.inr hx)
    · unfold bsize World.shape?
      rw [hk b (c2.lt b (.inr ⟨k, n, hm⟩)) (own k b n hm)]
  refine ⟨⟨fun b => (Xc b ∧ ¬ O b) ∨ O' b, βc, ⟨fun b hb => .inl ⟨c1.1 b hb, fun hO => (c6 b hO).2.2 hb⟩, fun b hb => ?_⟩, ⟨fun k e he => (c2.ent k e he).evo E rfl fun b n hm => hk b (c2.lt b (.inr ⟨k, n, hm⟩)) (own k b n hm), c2.off, c2.disj, fun k b n hm hx => ?_, fun b hd => ?_⟩, fun t => (c3 t).evo E, ⟨c4.knd, Nat.le_trans c4.size hs, fun b hb hi hn => ?_, c4.own, c4.pas, fun k b n hm => ?_, o1.trans c4.os, o2.trans c4.tape, o3.trans c4.output⟩,
    ⟨bs, d1, d2, fun b hb => ?_⟩, fun b hb => ?_, c8, fun b hb => ?_, .inl ⟨c11, lo⟩⟩, lx, fun h => ?_, by rw [hk l hlW lo]; exact lh, ll, fun b hb => Nat.lt_of_lt_of_le (xl b hb) hs, nd⟩
  · rcases hb with hb | hb
    · exact c1.2 b hb.1
    · rcases ho b hb with hO | hO
      · exact c1.2 b (c6 b hO).1
      · exact .inr (Nat.le_trans c4.size hO)
  · rcases hx with hx | hx
    · exact c2.free k b n hm hx.1
    · rcases ho b hx with hO | hO
      · exact own k b n hm hO
      · have := c2.lt b (.inr ⟨k, n, hm⟩); omega
  · rcases hd with (hx | hx) | hx
    · exact Nat.lt_of_lt_of_le (c2.lt b (.inl hx.1)) hs
    · exact hl b hx
    · exact Nat.lt_of_lt_of_le (c2.lt b (.inr hx)) hs
  · rw [hk b (Nat.lt_of_lt_of_le hb c4.size) fun hO => by have := (c6 b hO).2.1; omega]
    exact c4.keep b hb hi hn
  · obtain ⟨n', _, hm'⟩ := c4.pas k b n hm
    rw [E.bs k b n' hm', c4.bs k b n hm]
  · obtain ⟨q1, q2, q3, q4⟩ := d3 b hb
    refine ⟨.inl ⟨q1, q4⟩, q2, by rw [hk b (c2.lt b (.inl q1)) q4]; exact q3, fun h => ?_⟩
    rcases ho b h with hO | hO
    · exact q4 hO
    · have := c2.lt b (.inl q1); omega
  · refine ⟨.inr hb, ?_⟩
    rcases ho b hb with hO | hO
    · exact (c6 b hO).2
    · exact ⟨Nat.le_trans c4.size hO, fun hx => by have := c2.lt b (.inl (c1.1 b hx)); omega⟩
  · rcases hb with hb | hb
    · exact (c10 b hb.1).imp id fun hO => absurd hO hb.2
    · exact .inr hb
  · rcases ho l h with hO | hO
    · exact lo hO
    · omega
/-- How a round is left. -/
def jumpOf (e : Exit) (c : Code) : Prop := (e = .ret ∧ c = .ret) ∨ ∃ id, e = .exit id ∧ c = .exit id
theorem Core.round {P : Program} {m : Nat} {ps : Array Tmp} {assign body : Code} {fn : FuncId} {bd : Nat} {Ks : List Nat} {ys : List AV} {cs : Array Value} {Rq : Exit → List (Nat × Ent) → Prop} (hps : ∀ p, p ∈ ps.toList → p < m) (hm : a.tmps.size = m) (gs : m ≤ GS)
    (hrec : rec = { state := .ready, pending := none, fn := fn, tmps := a.tmps, params := ps, assign := assign, body := body, defers := bd }) (C : Core F T a l hc rec O X W) (hT : ∀ t h', frzV Ks h' (look T t) = look T t) (hKs : ∀ k, k ∈ K0 → k ∈ Ks)
    (hys : cs.size = ys.length) (hpl : ps.size = ys.length) (hrep : ∀ (j : Nat) v, ys[j]? = some v → RepF W (fun b => X b ∨ O b) v (cs.getD j undef)) (hRq : ∀ e h, Rq e h → e = .normal ∨ e = .ret ∨ ∃ id, e = .exit id)
    (sim : ∀ (F1 : Fr (keys hc)), F1.it = true → F1.ro = some l → Sim P F1 m assign ⟨setTm ps.toList ys T, hc⟩ (fun e s => e = .normal ∧ ∀ (F2 : Fr (keys s.h)), F2.it = true → F2.ro = some l → Sim P F2 m body s (fun e s' => Rq e (restrH Ks (lookE s'.h))))) :
    YieldAt Fence.wide 0 P l cs W fun e W' => (e = .returned (.bool true) ∧ ∃ X', Quiet X X' W W' ∧ ∃ h', Rq .normal h' ∧ Core F T a l h' rec O X' W') ∨
      (e = .returned (.bool false) ∧ ∃ X', Quiet X X' W W' ∧ ∃ h' x c, jumpOf x c ∧ Rq x h' ∧ Core F T a l h' { rec with state := .done, pending := some c } O X' W') := by
  obtain ⟨⟨Xc, βc, c1, c2, c3, c4, ⟨bs, d1, d2, d3⟩, c6, c8, c10, c11⟩, lx, lo, lh, ll, xl, nd⟩ := C
  have hlW : l < W.heap.size := xl l lx
  subst hrec
  refine ⟨_, _, _, _, run_yield lh (by simpa using hys.trans hpl.symm), ?_⟩
  dsimp only
  refine roundIn_of_wpIn (F := Fence.wide) (n := 0) trivial ?_
  let F1 : Fr (keys hc) := ⟨Xc, W, βc, lookE hc, fun k b n hm => by
    cases hk : lookE hc k with
    | none => rw [c2.off k hk] at hm; simp at hm
    | some e => exact lookE_mem hk, fun k e he => lookE_mem he, some l, true, fun _ => False, fun _ _ _ _ => True, fun _ _ _ _ _ _ _ _ _ _ _ _ _ _ => trivial⟩
  have refl1 : ∀ {K1 : List Nat} (F : Fr K1), F.it = true → HOK F.X F.h0 F.β0 F.w0 → (∀ k, F.h0 k ≠ some .dead) → Keep F F.h0 F.β0 F.w0 := fun F _ H nd =>
    ⟨fun k e he => by
      cases e with
      | dead => exact absurd he (nd k)
      | box cs => exact ⟨cs, he⟩
      | arr sz xs sl => exact ⟨xs, sl, he, Nat.le_refl _⟩, Nat.le_refl _, fun _ _ _ _ => rfl, fun k b n hm => .inl ⟨k, n, hm⟩, fun k b n hm => ⟨n, Nat.le_refl _, hm⟩, fun _ _ _ _ => rfl, rfl, rfl, rfl⟩
  have fold_size : ∀ (z : List (Nat × Value)) (tm : Array Value), (z.foldl (fun tmps (p : Nat × Value) => tmps.setIfInBounds p.1 p.2) tm).size = tm.size := by
    intro z
    induction z with
    | nil => exact fun _ => rfl
    | cons p z ih => intro tm; rw [List.foldl_cons, ih]; simp
  have hfold : (ps.zip cs).foldl (fun tmps (p : Nat × Value) => tmps.setIfInBounds p.1 p.2) a.tmps = (ps.toList.zip cs.toList).foldl (fun tmps (p : Nat × Value) => tmps.setIfInBounds p.1 p.2) a.tmps := by
    rw [← Array.foldl_toList, Array.toList_zip]
  have R1 : RelS F1 m ⟨setTm ps.toList ys T, hc⟩ { tmps := (ps.zip cs).foldl (fun tmps (p : Nat × Value) => tmps.setIfInBounds p.1 p.2) a.tmps, defers := [] } W := by
    refine ⟨⟨Xc, βc, ⟨fun _ h => h, fun _ h => .inl h⟩, c2, fun t => ?_, refl1 F1 rfl c2 nd, fun _ _ => trivial, [], rfl, fun _ => rfl, List.nodup_nil, fun b hb => by simp at hb⟩, nd, gs, by rw [hfold, fold_size]; exact hm⟩
    rw [hfold]
    refine setTm_rep ps.toList ys cs.toList T a.tmps (by simpa using hys.symm) (fun j v c h1 h2 => ?_) (fun p hp => by rw [hm]; exact hps p hp) c3 t
    have h3 := hrep j v h1
    have e : cs.getD j undef = c := getD_of (by simpa using h2)
    rw [e] at h3
    exact .fz _ _ (h3.less fun b hd => hd.elim (c10 b) fun ho => .inl (c8 b ho))
  refine Code.wpIn_mono (fun e a1 w1 q => ?_) ((sim F1 rfl rfl).run _ _ R1)
  obtain ⟨s, ⟨rfl, hs⟩, ⟨⟨X1, β1, hX1, H1, Ht1, K1, _, bs1, hd1, hb1, _⟩, nd1, gs1, hl1⟩⟩ := q
  have := hb1 rfl
  subst this
  have G1 := K1.toGoes (fun _ h => h) c2 H1 nd
  have E1 := Keep.evo hX1 G1
  have hl1' : w1.heap[l]? = W.heap[l]? := K1.keep l hlW (fun h => h) fun k n hm => c2.free k l n hm c11
  have hX1l : X1 l := hX1.1 l c11
  refine ⟨_, run_beginRound (hl1'.trans lh) rfl, ?_⟩
  generalize hw2 : w1.putObj l _ = w2
  have sz2 : w2.heap.size = w1.heap.size := by rw [← hw2]; simp
  have kp2 : ∀ b, b ≠ l → w2.heap[b]? = w1.heap[b]? := fun b hb => by rw [← hw2]; exact World.putObj_heap_other hb
  have lb2 : w2.heap[l]? = some (.loop { state := .busy, pending := none, fn := fn, tmps := a.tmps, params := ps, assign := assign, body := body, defers := bd }) := by
    rw [← hw2]; exact World.putObj_heap_same (Nat.lt_of_lt_of_le hlW K1.size)
  have oth2 : w2.os = w1.os ∧ w2.tape = w1.tape ∧ w2.output = w1.output := by rw [← hw2]; exact ⟨rfl, rfl, rfl⟩
  have kp2' : ∀ b, b < w1.heap.size → ¬ X1 b → w2.heap[b]? = w1.heap[b]? := fun b _ hx => kp2 b fun e => hx (e ▸ hX1l)
  have H1' := H1.turn (Nat.le_of_eq sz2.symm) kp2'
  have E2 := turnEvo H1 (Nat.le_of_eq sz2.symm) kp2'
  let F2 : Fr (keys s.h) := ⟨X1, w2, β1, lookE s.h, fun k b n hm => by
    cases hk : lookE s.h k with
    | none => rw [H1.off k hk] at hm; simp at hm
    | some e => exact lookE_mem hk, fun k e he => lookE_mem he, some l, true, fun _ => False, fun _ _ _ _ => True, fun _ _ _ _ _ _ _ _ _ _ _ _ _ _ => trivial⟩
  have R2 : RelS F2 m s a1 w2 := ⟨⟨X1, β1, ⟨fun _ h => h, fun _ h => .inl h⟩, H1', fun t => (Ht1 t).evo E2, refl1 F2 rfl H1' nd1, fun _ _ => trivial, [], hd1, fun _ => rfl, List.nodup_nil, fun b hb => by simp at hb⟩, nd1, gs1, hl1⟩
  refine Code.wpIn_mono (fun e a2 w3 q => ?_) ((hs F2 rfl rfl).run _ _ R2)
  obtain ⟨s3, hq, ⟨⟨X3, β3, hX3, H3, _, K3, _⟩, nd3, _, _⟩⟩ := q
  have G3 := K3.toGoes (fun _ h => h) H1' H3 nd1
  have E3 := Keep.evo hX3 G3
  have lb3 := (K3.keep l (by show l < w2.heap.size; rw [sz2]; exact Nat.lt_of_lt_of_le hlW K1.size) (fun h => h) fun k n hm => H1.free k l n hm hX1l).trans lb2
  have hl3 : l < w3.heap.size := Nat.lt_of_lt_of_le (by rw [sz2]; exact Nat.lt_of_lt_of_le hlW K1.size) K3.size
  have hX3l : X3 l := hX3.1 l hX1l
  have s13 : W.heap.size ≤ w3.heap.size := Nat.le_trans K1.size (by rw [← sz2]; exact K3.size)
  have key : ∀ rec' : Loop, ∃ X', Quiet X X' W (w3.putObj l (.loop rec')) ∧ Core F T a l (restrH Ks (lookE s3.h)) rec' O X' (w3.putObj l (.loop rec')) := by
    intro rec'
    generalize hw4 : w3.putObj l (.loop rec') = w4
    have sz4 : w4.heap.size = w3.heap.size := by rw [← hw4]; simp
    have kp4 : ∀ b, b ≠ l → w4.heap[b]? = w3.heap[b]? := fun b hb => by rw [← hw4]; exact World.putObj_heap_other hb
    have lb4 : w4.heap[l]? = some (.loop rec') := by rw [← hw4]; exact World.putObj_heap_same hl3
    have oth4 : w4.os = w3.os ∧ w4.tape = w3.tape ∧ w4.output = w3.output := by rw [← hw4]; exact ⟨rfl, rfl, rfl⟩
    have kp4' : ∀ b, b < w3.heap.size → ¬ X3 b → w4.heap[b]? = w3.heap[b]? := fun b _ hx => kp4 b fun e => hx (e ▸ hX3l)
    obtain ⟨H4, hv4⟩ := H3.restr Ks
    have H5 := H4.turn (Nat.le_of_eq sz4.symm) kp4'
    have E5 := turnEvo H4 (Nat.le_of_eq sz4.symm) kp4'
    have oc : ∀ b, X3 b → Xc b ∨ W.heap.size ≤ b := fun b hb => by
      rcases hX3.2 b hb with h | h
      · exact hX1.2 b h
      · have h2 : w2.heap.size ≤ b := h
        rw [sz2] at h2
        exact .inr (Nat.le_trans K1.size h2)
    -- a block that was there, and that the iterator does not take for others', lies as it lay
    have old : ∀ b, b < W.heap.size → b ≠ l → ¬ Own βc b → w4.heap[b]? = W.heap[b]? := fun b hb hne hno => by
      rw [kp4 b hne]
      have h1 : ∀ k n, (b, n) ∉ β1 k := fun k n hm => by
        rcases K1.own k b n hm with ⟨k', n', h⟩ | h
        · exact hno ⟨k', n', h⟩
        · have : W.heap.size ≤ b := h; omega
      have q1 := K3.keep b (by show b < w2.heap.size; rw [sz2]; exact Nat.lt_of_lt_of_le hb K1.size) (fun h => h) h1
      have q2 := K1.keep b hb (fun h => h) fun k n hm => hno ⟨k, n, hm⟩
      exact q1.trans ((kp2 b hne).trans q2)
    have KF : Keep F (lookE (restrH Ks (lookE s3.h))) (βr Ks β3) w4 := by
      have k1 : Keep F (lookE s.h) β1 w1 := c4.goes G1 nd1 fun k b n hm => K1.pas k b n hm
      have k2 : Keep F (lookE s.h) β1 w2 := k1.turn H1 sz2 kp2' (fun b hb => kp2 b fun e => by omega) oth2.1 oth2.2.1 oth2.2.2
      have k3 : Keep F (lookE s3.h) β3 w3 := k2.goes G3 nd3 fun k b n hm => K3.pas k b n hm
      have k4 := k3.restr Ks hKs
      exact k4.turn H4 sz4 kp4' (fun b hb => kp4 b fun e => by omega) oth4.1 oth4.2.1 oth4.2.2
    refine ⟨fun b => X b ∨ Own (βr Ks β3) b ∨ (X3 b ∧ ¬ O b), ⟨by omega, fun b hb hx => ⟨old b hb (fun e => hx (e ▸ lx)) fun ho => hx (c8 b ho), fun h' => ?_⟩, fun b hb => .inl hb, fun b hb => ?_, ?_, ?_, ?_⟩, ⟨X3, βr Ks β3, ⟨fun b hb => hX3.1 b (hX1.1 b (c1.1 b hb)), fun b hb => ?_⟩, H5, fun t => ?_, KF, ⟨bs, d1, d2, fun b hb => ?_⟩, fun b hb => ?_, fun b hb => .inr (.inl hb), fun b hb => ?_, hX3l⟩, .inl lx, lo, lb4, ll, fun b hb => ?_, fun k => ?_⟩
    · rcases h' with h | ⟨k, n, hm⟩ | ⟨h, hO⟩
      · exact hx h
      · have hm := (βr_mem hm).2
        rcases K3.own k b n hm with ⟨k', n', h⟩ | h
        · rcases K1.own k' b n' h with ⟨k2, n2, h⟩ | h
          · exact hx (c8 b ⟨k2, n2, h⟩)
          · have : W.heap.size ≤ b := h; omega
        · have h2 : w2.heap.size ≤ b := h
          have := K1.size
          have : W.heap.size ≤ w1.heap.size := this
          omega
      · rcases oc b h with h | h
        · exact (c10 b h).elim hx hO
        · omega
    · rcases hb with h | ⟨k, n, hm⟩ | ⟨h, hO⟩
      · have := xl b h; omega
      · rw [sz4]; exact H3.lt b (.inr ⟨k, n, (βr_mem hm).2⟩)
      · rw [sz4]; exact H3.lt b (.inl h)
    · exact oth4.1.trans (K3.os.trans (oth2.1.trans K1.os))
    · exact oth4.2.1.trans (K3.tape.trans (oth2.2.1.trans K1.tape))
    · exact oth4.2.2.trans (K3.output.trans (oth2.2.2.trans K1.output))
    · rcases oc b hb with h | h
      · exact c1.2 b h
      · exact .inr (Nat.le_trans c4.size h)
    · have := hv4 _ _ ((((c3 t).evo E1).evo E2).evo E3)
      rw [hT] at this
      exact this.evo E5
    · obtain ⟨q1, q2, q3, q4⟩ := d3 b hb
      refine ⟨hX3.1 b (hX1.1 b q1), q2, ?_, q4⟩
      rw [old b (c2.lt b (.inl q1)) (fun e => by rw [e, lh] at q3; cases q3) fun ⟨k, n, hm⟩ => c2.free k b n hm q1]
      exact q3
    · exact ⟨hX3.1 b (hX1.1 b (c6 b hb).1), (c6 b hb).2⟩
    · by_cases hO : O b
      · exact .inr hO
      · exact .inl (.inr (.inr ⟨hb, hO⟩))
    · rcases hb with h | ⟨k, n, hm⟩ | ⟨h, hO⟩
      · have := xl b h; omega
      · rw [sz4]; exact H3.lt b (.inr ⟨k, n, (βr_mem hm).2⟩)
      · rw [sz4]; exact H3.lt b (.inl h)
    · rw [lookE_restrH]
      split
      · intro h
        rw [Option.map_eq_some_iff] at h
        obtain ⟨e, he, h2⟩ := h
        cases e with
        | dead => exact nd3 k he
        | box cs => cases h2
        | arr sz xs st => cases h2
      · intro h; cases h
  rcases hRq e _ hq with rfl | rfl | ⟨id, rfl⟩
  · obtain ⟨X', q1, q2⟩ := key { state := .ready, pending := none, fn := fn, tmps := a.tmps, params := ps, assign := assign, body := body, defers := bd }
    exact ⟨_, _, run_endRound none lb3, .inl ⟨rfl, X', q1, _, hq, q2⟩⟩
  · obtain ⟨X', q1, q2⟩ := key { state := .done, pending := some .ret, fn := fn, tmps := a.tmps, params := ps, assign := assign, body := body, defers := bd }
    exact ⟨_, _, run_endRound (some .ret) lb3, .inr ⟨rfl, X', q1, _, .ret, .ret, .inl ⟨rfl, rfl⟩, hq, q2⟩⟩
  · obtain ⟨X', q1, q2⟩ := key { state := .done, pending := some (.exit id), fn := fn, tmps := a.tmps, params := ps, assign := assign, body := body, defers := bd }
    exact ⟨_, _, run_endRound (some (.exit id)) lb3, .inr ⟨rfl, X', q1, _, .exit id, .exit id, .inr ⟨id, rfl, rfl⟩, hq, q2⟩⟩
end
end Av
end Go.Proofs.Ytjbldhhgooihfaa
