/- Abstract values: a range over a function: what stays while the iterator runs. -/
import Derived.Test.YtjbldhhgooihfaaAvw
namespace Go.Proofs.Ytjbldhhgooihfaa
namespace Av
set_option linter.unusedSimpArgs false
set_option linter.unusedVariables false

def βr (K : List Nat) (β : Map) : Map := fun k => if k ∈ K then β k else []
theorem βr_in {K : List Nat} {β : Map} {k : Nat} (h : k ∈ K) : βr K β k = β k := by simp [βr, h]
theorem βr_mem {K : List Nat} {β : Map} {k b n : Nat} (h : (b, n) ∈ βr K β k) : k ∈ K ∧ (b, n) ∈ β k := by
  unfold βr at h
  split at h
  · exact ⟨‹_›, h⟩
  · simp at h
/-- Some keys are handed over. -/
theorem lend {X Xc : Nat → Prop} {h : Heap} {β : Map} {w : World} {h0 : List (Nat × Ent)} (HH : HOK X h β w) (hK : ∀ k, k ∈ keys h0 → h k = lookE h0 k) (hclosed : ∀ k cs, lookE h0 k = some (.box cs) → ∀ j, j ∈ refsL cs → j ∈ keys h0)
    (hXc : ∀ b, Xc b → X b ∨ ∃ k n, ¬ k ∈ keys h0 ∧ (b, n) ∈ β k) :
    HOK Xc (lookE h0) (βr (keys h0) β) w ∧ ∀ v c, RepV w (Dom X β) h β v c → (∀ k, k ∈ v.refs → k ∈ keys h0) → RepV w (Dom Xc (βr (keys h0) β)) (lookE h0) (βr (keys h0) β) v c := by
  have hβc : ∀ k, k ∈ keys h0 → βr (keys h0) β k = β k := fun k hk => βr_in hk
  have hDc : ∀ b, Dom Xc (βr (keys h0) β) b → Dom X β b := fun b hd => by
    rcases hd with hx | ⟨k, n, hm⟩
    · exact (hXc b hx).imp id fun ⟨k, n, _, hm⟩ => ⟨k, n, hm⟩
    · exact .inr ⟨k, n, (βr_mem hm).2⟩
  have hclv : ∀ v c, RepV w (Dom X β) h β v c → (∀ k, k ∈ v.refs → k ∈ keys h0) → RepV w (Dom Xc (βr (keys h0) β)) (lookE h0) (βr (keys h0) β) v c := by
    intro v c hv
    have ef : ∀ {v c}, RepF w (Dom X β) v c → RepF w (Dom Xc (βr (keys h0) β)) v c := fun hf => hf.evo (Nat.le_refl _) fun b _ hd => ⟨rfl, fun h' => hd (hDc b h')⟩
    induction hv with
    | fz v c hf => exact fun _ => .fz _ _ (ef hf)
    | agg cs c hl h1 _ ih => exact fun hr => .agg cs c hl h1 fun i v hv => ih i v hv fun k hk => hr k (by simpa [AV.refs] using refsL_at hv hk)
    | fn f caps c hl _ ih => exact fun hr => .fn f caps c hl fun i v hv => ih i v hv fun k hk => hr k (by simpa [AV.refs] using refsL_at hv hk)
    | tup vs c hl _ ih => exact fun hr => .tup vs c hl fun i v hv => ih i v hv fun k hk => hr k (by simpa [AV.refs] using refsL_at hv hk)
    | dref k off len c hk h1 => exact fun hr => .dref _ _ _ _ ((hK k (hr k (by simp [AV.refs]))) ▸ hk) h1
    | dptr k i off c hk h1 => exact fun hr => .dptr _ _ _ _ ((hK k (hr k (by simp [AV.refs]))) ▸ hk) h1
    | ref k off len sz xs st b n cap hk hb hn hc hs => exact fun hr => .ref k off len sz xs st b n cap ((hK k (hr k (by simp [AV.refs]))) ▸ hk) (by rw [hβc k (hr k (by simp [AV.refs]))]; exact hb) hn hc hs
    | ref0 k off sz xs st a hk hn => exact fun hr => .ref0 k off sz xs st a ((hK k (hr k (by simp [AV.refs]))) ▸ hk) hn
    | pbox k off cs b n hk hb => exact fun hr => .pbox k off cs b n ((hK k (hr k (by simp [AV.refs]))) ▸ hk) (by rw [hβc k (hr k (by simp [AV.refs]))]; exact hb)
    | parr k i off sz xs st b n hk hb hi ho => exact fun hr => .parr k i off sz xs st b n ((hK k (hr k (by simp [AV.refs]))) ▸ hk) (by rw [hβc k (hr k (by simp [AV.refs]))]; exact hb) hi ho
  refine ⟨⟨fun k e he => ?_, fun k he => ?_, fun k k' b n n' q1 q2 => HH.disj _ _ _ _ _ (βr_mem q1).2 (βr_mem q2).2, fun k b n hm hx => ?_, fun b hd => HH.lt b (hDc b hd)⟩, hclv⟩
  · have hk := lookE_mem he
    refine (HH.ent k e ((hK k hk).trans he)).lift (hβc k hk) (fun cs hcs i v c hi hv => hclv v c hv fun j hj => hclosed k cs (by rw [he, hcs]) j (refsL_at hi hj)) fun _ _ _ _ _ _ _ _ _ _ _ hf => hf.evo (Nat.le_refl _) fun b _ hd => ⟨rfl, fun h' => hd (hDc b h')⟩
  · unfold βr
    rw [if_neg]
    intro hk
    obtain ⟨e, hk⟩ := mem_lookE hk
    rw [he] at hk; cases hk
  · obtain ⟨hk, hm⟩ := βr_mem hm
    rcases hXc b hx with hx | ⟨k', n', hk', hm'⟩
    · exact HH.free k b n hm hx
    · exact hk' (HH.disj k k' b n n' hm hm' ▸ hk)
/-- The state when only the keys K are kept, the blocks of the keys Kd being others' from now on. -/
theorem HOK.restrX {X X' : Nat → Prop} {h : Heap} {β : Map} {w : World} (H : HOK X h β w) (K Kd : List Nat) (hx : ∀ b, X' b → X b ∨ ∃ k n, k ∈ Kd ∧ (b, n) ∈ β k) (hdis : ∀ k, k ∈ Kd → ¬ k ∈ K)
    (hent : ∀ k cs, k ∈ K → h k = some (.box cs) → ∀ j, j ∈ refsL cs → ¬ j ∈ Kd) :
    HOK X' (lookE (restrH K h)) (βr K β) w ∧ ∀ v c, (∀ j, j ∈ v.refs → ¬ j ∈ Kd) → RepV w (Dom X β) h β v c → RepV w (Dom X' (βr K β)) (lookE (restrH K h)) (βr K β) (frzV K h v) c := by
  have hsub : ∀ b, Dom X' (βr K β) b → Dom X β b := fun b hd => by
    rcases hd with hb | ⟨k, n, hm⟩
    · exact (hx b hb).imp id fun ⟨k, n, _, hm⟩ => ⟨k, n, hm⟩
    · exact .inr ⟨k, n, (βr_mem hm).2⟩
  have hv : ∀ v c, (∀ j, j ∈ v.refs → ¬ j ∈ Kd) → RepV w (Dom X β) h β v c → RepV w (Dom X' (βr K β)) (lookE (restrH K h)) (βr K β) (frzV K h v) c := fun v c hr hv => by
    refine RepV.frz H (K := K) (fun k hk e he => ?_) (fun k hk => βr_in hk) (fun b _ hd h' => hd (hsub b h')) hv fun k hk0 => ?_
    · rw [lookE_restrH, if_pos hk, he]
      cases e with
      | box cs => exact ⟨_, rfl⟩
      | _ => rfl
    · by_cases hk : k ∈ K
      · exact .inl hk
      · refine .inr fun b n hm => ?_
        rintro (hb | ⟨k', n', hm'⟩)
        · rcases hx b hb with hb | ⟨k', n', hk', hm'⟩
          · exact H.free k b n hm hb
          · exact hr k hk0 (H.disj k k' b n n' hm hm' ▸ hk')
        · obtain ⟨hk', hm'⟩ := βr_mem hm'
          exact hk (H.disj k k' b n n' hm hm' ▸ hk')
  have ef : ∀ {v c}, RepF w (Dom X β) v c → RepF w (Dom X' (βr K β)) v c := fun hf => hf.evo (Nat.le_refl _) fun b _ hd => ⟨rfl, fun h' => hd (hsub b h')⟩
  refine ⟨⟨fun k e he => ?_, fun k he => ?_, fun k k' b n n' h1 h2 => H.disj _ _ _ _ _ (βr_mem h1).2 (βr_mem h2).2, fun k b n hm hb => ?_, fun b hd => H.lt b (hsub b hd)⟩, hv⟩
  · rw [lookE_restrH] at he
    split at he
    · rename_i hk
      rw [Option.map_eq_some_iff] at he
      obtain ⟨e0, he0, rfl⟩ := he
      have := H.ent k e0 he0
      cases e0 with
      | dead => show βr K β k = []; rw [βr_in hk]; exact this
      | box cs =>
        obtain ⟨b, c, el, h1, h2, h3, h4, h5⟩ := this
        refine ⟨b, c, el, by rw [βr_in hk]; exact h1, h2, by rw [frzL_length]; exact h3, h4, fun i v hi => ?_⟩
        rw [frzL_at, Option.map_eq_some_iff] at hi
        obtain ⟨u, hu, rfl⟩ := hi
        exact hv u _ (fun j hj => hent k cs hk he0 j (refsL_at hu hj)) (h5 i u hu)
      | arr sz xs st =>
        obtain ⟨g1, g2, g3, g4, g5, f, g6, g7, g8⟩ := this
        exact ⟨g1, g2, by rw [βr_in hk]; exact g3, g4, by rw [βr_in hk]; exact g5, f, fun i x j v hx hy => ef (g6 i x j v hx hy), g7, by rw [βr_in hk]; exact g8⟩
    · cases he
  · unfold βr
    split
    · rename_i hk
      rw [lookE_restrH, if_pos hk] at he
      cases hk' : h k with
      | none => exact H.off k hk'
      | some e => simp [hk'] at he
    · rfl
  · obtain ⟨hk, hm⟩ := βr_mem hm
    rcases hx b hb with hb | ⟨k', n', hk', hm'⟩
    · exact H.free k b n hm hb
    · exact hdis k' hk' (H.disj k k' b n n' hm hm' ▸ hk)
theorem frz_idem (K : List Nat) (h h' : Heap) : ∀ v : AV, frzV K h' (frzV K h v) = frzV K h v := by
  intro v
  refine AV.rec (motive_1 := fun v => frzV K h' (frzV K h v) = frzV K h v) (motive_2 := fun cs => frzL K h' (frzL K h cs) = frzL K h cs) ?_ ?_ ?_ ?_ ?_ ?_ ?_ ?_ ?_ ?_ ?_ ?_ v
  · rfl
  · exact fun _ => rfl
  · exact fun _ => rfl
  · exact fun cs ih => by simp only [frzV]; rw [ih]
  · exact fun _ _ _ => rfl
  · intro k off len
    simp only [frzV]
    cases hc : K.contains k with
    | true => simp only [cond_true, frzV, hc]
    | false =>
      simp only [cond_false]
      split <;> rfl
  · intro k i off
    simp only [frzV]
    cases hc : K.contains k with
    | true => simp only [cond_true, frzV, hc]
    | false => rfl
  · exact fun _ _ _ _ => rfl
  · exact fun f cs ih => by simp only [frzV]; rw [ih]
  · exact fun cs ih => by simp only [frzV]; rw [ih]
  · rfl
  · exact fun v r h1 h2 => by simp only [frzL]; rw [h1, h2]
section
variable {K0 : List Nat} {F : Fr K0} {h : Heap} {β : Map} {w w' : World} {X : Nat → Prop}
theorem Keep.toGoes (hV : ∀ b, ¬ F.V b) (H0 : HOK F.X F.h0 F.β0 F.w0) (H : HOK X h β w) (K : Keep F h β w) (nd : ∀ k, F.h0 k ≠ some .dead) : Goes X F.w0 F.h0 F.β0 w h β where
  size := K.size
  keep b hb hn := K.keep b hb (hV b) hn
  own := K.own
  bs := K.bs
  key k e he := by
    refine .inr ?_
    have h1 := K.knd k e he
    cases e with
    | dead => exact absurd he (nd k)
    | box cs0 =>
      obtain ⟨cs', h2⟩ := h1
      refine ⟨⟨_, h2⟩, fun b n hm => ?_⟩
      obtain ⟨n', hn', hm'⟩ := K.pas k b n hm
      obtain ⟨b2, _, _, e2, _⟩ := H.ent k _ h2
      obtain ⟨b1, _, _, e1, _⟩ := H0.ent k _ he
      rw [e1] at hm
      rw [e2] at hm' ⊢
      simp at hm hm' ⊢
      exact ⟨hm'.1, hm.2⟩
    | arr sz xs sl =>
      obtain ⟨xs', sl', h2, h3⟩ := h1
      exact ⟨⟨xs', sl', h2, h3⟩, fun b n hm => K.pas k b n hm⟩
  hok := H
  os := K.os
  tape := K.tape
  output := K.output
theorem Keep.turn (K : Keep F h β w) (H : HOK X h β w) (hs : w'.heap.size = w.heap.size) (hk : ∀ b, b < w.heap.size → ¬ X b → w'.heap[b]? = w.heap[b]?) (hl : ∀ b, b < F.w0.heap.size → w'.heap[b]? = w.heap[b]?) (o1 : w'.os = w.os) (o2 : w'.tape = w.tape) (o3 : w'.output = w.output) : Keep F h β w' :=
  ⟨K.knd, by rw [hs]; exact K.size, fun b hb hi hn => by rw [hl b hb]; exact K.keep b hb hi hn, K.own, K.pas, fun k b n hm => by
    rw [← K.bs k b n hm]
    obtain ⟨n', _, hm'⟩ := K.pas k b n hm
    unfold bsize World.shape?
    rw [hk b (H.lt b (.inr ⟨k, n', hm'⟩)) (H.free k b n' hm')], o1.trans K.os, o2.trans K.tape, o3.trans K.output⟩
/-- Only the keys K go on. -/
theorem Keep.restr (K : Keep F h β w) (Ks : List Nat) (hK : ∀ k, k ∈ K0 → k ∈ Ks) : Keep F (lookE (restrH Ks h)) (βr Ks β) w := by
  refine ⟨fun k e he => ?_, K.size, K.keep, fun k b n hm => K.own k b n (βr_mem hm).2, fun k b n hm => ?_, K.bs, K.os, K.tape, K.output⟩
  · have hk := hK k (F.hh k e he)
    have h1 := K.knd k e he
    have hr : ∀ e', h k = some e' → lookE (restrH Ks h) k = some (frzE Ks h e') := fun e' h2 => by rw [lookE_restrH, if_pos hk, h2]; rfl
    cases e with
    | dead => exact h1
    | box cs => obtain ⟨cs', h2⟩ := h1; exact ⟨_, hr _ h2⟩
    | arr sz xs sl => obtain ⟨xs', sl', h2, h3⟩ := h1; exact ⟨xs', sl', hr _ h2, h3⟩
  · rw [βr_in (hK k (F.hK k b n hm))]
    exact K.pas k b n hm
end
/-- The parameters of a round in its slots. -/
def setTm (ps : List Nat) (ys : List AV) (T : List (Nat × AV)) : List (Nat × AV) := (ps.zip ys).foldl (fun tm p => p :: tm) T
theorem setTm_rep {w : World} {D : Nat → Prop} {h : Heap} {β : Map} : ∀ (ps : List Nat) (ys : List AV) (cs : List Value) (T : List (Nat × AV)) (tmps : Array Value), ys.length = cs.length → (∀ (j : Nat) v c, ys[j]? = some v → cs[j]? = some c → RepV w D h β v c) → (∀ p, p ∈ ps → p < tmps.size) →
    (∀ t, RepV w D h β (look T t) (tmps.getD t undef)) → ∀ t, RepV w D h β (look (setTm ps ys T) t) (((ps.zip cs).foldl (fun tmps (p : Nat × Value) => tmps.setIfInBounds p.1 p.2) tmps).getD t undef)
  | [], ys, cs, T, tmps, _, _, _, h, t => h t
  | p :: ps, [], cs, T, tmps, hl, _, _, h, t => by
    obtain rfl : cs = [] := List.eq_nil_of_length_eq_zero hl.symm
    exact h t
  | p :: ps, y :: ys, [], T, tmps, hl, _, _, h, t => by simp at hl
  | p :: ps, y :: ys, c :: cs, T, tmps, hl, hr, hp, h, t => by
    have hps := hp p (by simp)
    refine setTm_rep ps ys cs ((p, y) :: T) (tmps.setIfInBounds p c) (by simpa using hl) (fun j v c' h1 h2 => hr (j + 1) v c' (by simpa using h1) (by simpa using h2)) (fun q hq => by simpa using hp q (by simp [hq])) (fun s => ?_) t
    rw [look_cons]
    by_cases hs : s = p
    · subst hs
      rw [if_pos rfl]
      have e : (tmps.setIfInBounds s c).getD s undef = c := by simp [Array.getD_eq_getD_getElem?, hps]
      rw [e]
      exact hr 0 y c rfl rfl
    · rw [if_neg hs]
      have e : (tmps.setIfInBounds p c).getD s undef = tmps.getD s undef := by simp [Array.getD_eq_getD_getElem?, Array.getElem?_setIfInBounds_ne (Ne.symm hs)]
      rw [e]
      exact h s
end Av
end Go.Proofs.Ytjbldhhgooihfaa
