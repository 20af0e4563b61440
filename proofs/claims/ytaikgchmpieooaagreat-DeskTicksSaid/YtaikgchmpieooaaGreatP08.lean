/- Part 8: contracts of the functions, and what they rest upon. -/
import Derived.Test.YtaikgchmpieooaaGreatP07
namespace Go.Proofs.YtaikgchmpieooaaGreat
namespace Av
set_option linter.unusedSimpArgs false
set_option linter.unusedVariables false
mutual
def AV.refs:AV→List Nat
 | .ref k _ _| .ptr k _ _=>[k]
 | .agg cs| .fn _ cs| .tup cs=>refsL cs
 |_=>[]
def refsL:List AV→List Nat
 | []=>[]
 |v::r=>v.refs++refsL r
end
mutual
def AV.nosl:AV→Bool
 | .sl _ _| .slc _ _| .fp _ _ _=>false
 | .agg cs| .fn _ cs| .tup cs=>noslL cs
 |_=>true
def noslL:List AV→Bool
 | []=>true
 |v::r=>v.nosl&&noslL r
end
mutual
def frz0 (K:List Nat) (h:Heap):AV→AV
 | .ref k off len=>bif K.contains k then .ref k off len else match h k with
  |some (.arr _ xs fl)=>bif fl.nest then .bot else .sl false ((xs.drop off).take len)
  |_=> .bot
 | .ptr k i off=>bif K.contains k then .ptr k i off else .bot
 | .agg cs=> .agg (frz0L K h cs)
 | .fn f cs=> .fn f (frz0L K h cs)
 | .tup cs=> .tup (frz0L K h cs)
 |v=>v
def frz0L (K:List Nat) (h:Heap):List AV→List AV
 | []=>[]
 |v::r=>frz0 K h v::frz0L K h r
end
mutual
def frzV (K:List Nat) (h:Heap):AV→AV
 | .ref k off len=>bif K.contains k then .ref k off len else match h k with
  |some (.arr _ xs fl)=>bif fl.nest then(bif nokeys (frz0L K h xs)then .sl false (((frz0L K h xs).drop off).take len)else .bot)else .sl false ((xs.drop off).take len)
  |_=> .bot
 | .ptr k i off=>bif K.contains k then .ptr k i off else .bot
 | .agg cs=> .agg (frzL K h cs)
 | .fn f cs=> .fn f (frzL K h cs)
 | .tup cs=> .tup (frzL K h cs)
 |v=>v
def frzL (K:List Nat) (h:Heap):List AV→List AV
 | []=>[]
 |v::r=>frzV K h v::frzL K h r
end
mutual
def wkV:AV→AV
 | .s v=>match v with
  | .slice none 0 0=> .sl false []
  |v=> .s v
 | .sl _ xs=> .sl false xs
 | .agg cs=> .agg (wkL cs)
 | .fn f cs=> .fn f (wkL cs)
 | .tup cs=> .tup (wkL cs)
 |v=>v
def wkL:List AV→List AV
 | []=>[]
 |v::r=>wkV v::wkL r
end
theorem refsL_at:∀{cs:List AV} {i:Nat} {v:AV} {k:Nat},cs[i]? =some v→k∈v.refs→k∈refsL cs
 | [],_,_,_,h,_=>by simp at h
 |x::r,0,v,k,h,hk=>by simp at h;subst h;simp[refsL,hk]
 |x::r,i+1,v,k,h,hk=>by simp[refsL,refsL_at (show r[i]? =some v by simpa using h) hk]
theorem noslL_at:∀{cs:List AV} {i:Nat} {v:AV},noslL cs=true→cs[i]? =some v→v.nosl=true
 | [],_,_,_,h=>by simp at h
 |x::r,0,v,hk,h=>by simp at h;subst h;simp[noslL]at hk;exact hk.1
 |x::r,i+1,v,hk,h=>by simp[noslL]at hk;exact noslL_at hk.2 (by simpa using h)
theorem frzL_at (K:List Nat) (h:Heap):∀(cs:List AV) (i:Nat),(frzL K h cs)[i]? =(cs[i]?).map (frzV K h)
 | [],i=>by simp[frzL]
 |x::r,0=>by simp[frzL]
 |x::r,i+1=>by simp[frzL,frzL_at K h r i]
theorem frz0L_at (K:List Nat) (h:Heap):∀(cs:List AV) (i:Nat),(frz0L K h cs)[i]? =(cs[i]?).map (frz0 K h)
 | [],i=>by simp[frz0L]
 |x::r,0=>by simp[frz0L]
 |x::r,i+1=>by simp[frz0L,frz0L_at K h r i]
theorem frz0L_length (K:List Nat) (h:Heap):∀(cs:List AV),(frz0L K h cs).length=cs.length
 | []=>rfl
 |x::r=>by simp[frz0L,frz0L_length K h r]
theorem cells_of {v:AV} (h:v.isAgg=false):v.cells=[v]:=by cases v<;>first|rfl|(simp[AV.isAgg]at h)
theorem frz0_cells (K:List Nat) (h:Heap) (x:AV):(frz0 K h x).cells=frz0L K h x.cells:=by
 cases x with
 |agg cs=>rfl
 | ref k off len=>
  refine cells_of ?_
  unfold frz0
  cases K.contains k with
  |true=>rfl
  | false=>
   simp only[cond_false]
   rcases h k with _|(_|⟨_,_,fl⟩|_)
   ·rfl
   ·rfl
   ·dsimp only
    cases fl.nest<;>rfl
   ·rfl
 |ptr k i off=>refine cells_of ?_;unfold frz0;cases K.contains k<;>rfl
 |_=>rfl
theorem frzV_cells (K:List Nat) (h:Heap) (x:AV):(frzV K h x).cells=frzL K h x.cells:=by
 cases x with
 |agg cs=>rfl
 | ref k off len=>
  refine cells_of ?_
  unfold frzV
  cases K.contains k with
  |true=>rfl
  | false=>
   simp only[cond_false]
   rcases h k with _|(_|⟨_,xs,fl⟩|_)
   ·rfl
   ·rfl
   ·dsimp only
    cases fl.nest with
    |false=>rfl
    |true=>
     simp only[cond_true]
     cases nokeys (frz0L K h xs)<;>rfl
   ·rfl
 |ptr k i off=>refine cells_of ?_;unfold frzV;cases K.contains k<;>rfl
 |_=>rfl
theorem nokey_cells {x:AV} (h:x.nokey=true):nokeys x.cells=true:=by
 by_cases ha:x.isAgg=true
 ·cases x<;>first
   |exact h
   |(simp[AV.isAgg]at ha)
 ·rw[cells_of (by simpa using ha)]
  simp[nokeys,h]
theorem frzL_length (K:List Nat) (h:Heap):∀(cs:List AV),(frzL K h cs).length=cs.length
 | []=>rfl
 |x::r=>by simp[frzL,frzL_length K h r]
theorem wkL_at:∀(cs:List AV) (i:Nat),(wkL cs)[i]? =(cs[i]?).map wkV
 | [],i=>by simp[wkL]
 |x::r,0=>by simp[wkL]
 |x::r,i+1=>by simp[wkL,wkL_at r i]
theorem wkL_length:∀(cs:List AV),(wkL cs).length=cs.length
 | []=>rfl
 |x::r=>by simp[wkL,wkL_length r]
theorem RepF.wk {w:World} {D:Nat→Prop}:∀{v:AV} {c:Value},RepF w D v c→RepF w D (wkV v) c:=by
 intro v c hv
 induction hv with
 |bot c=>exact .bot c
 |gh n c=>exact .gh n c
 |s v=>
  unfold wkV
  split
  ·exact .nil _ _
  ·exact .s _
 | agg cs c hl h1 _ ih=>
  exact .agg _ c (by rw[wkL_length];exact hl) h1 fun i v hv=>by
   rw[wkL_at,Option.map_eq_some_iff]at hv
   obtain⟨u,hu,rfl⟩:=hv
   exact ih i u hu
 |nil a cap=>exact .nil _ _
 |nil1 a cap=>exact .nil _ _
 |sl nn xs b o sz cap f hx hL hc hh _=>exact .sl false xs b o sz cap f hx hL hc hh
 |slc cap xs b o sz f hL hc hh _=>exact .slc cap xs b o sz f hL hc hh
 |fp xs b o sz i off f hL hi ho hh _=>exact .fp xs b o sz i off f hL hi ho hh
theorem RepV.wk {w:World} {D:Nat→Prop} {h:Heap} {β:Map}:∀{v:AV} {c:Value},RepV w D h β v c→RepV w D h β (wkV v) c:=by
 intro v c hv
 have key:∀{cs:List AV} {c:Array Value} (ih:∀(i:Nat) v,cs[i]? =some v→RepV w D h β (wkV v) (c.getD i undef)) (i:Nat) v,(wkL cs)[i]? =some v→RepV w D h β v (c.getD i undef):=fun ih i v hv=>by
  rw[wkL_at,Option.map_eq_some_iff]at hv
  obtain⟨u,hu,rfl⟩:=hv
  exact ih i u hu
 induction hv with
 |fz v c hf=>exact .fz _ _ hf.wk
 |agg cs c hl h1 _ ih=>exact .agg _ c (by rw[wkL_length];exact hl) h1 (key ih)
 |fn f caps c hl _ ih=>exact .fn f _ c (by rw[wkL_length];exact hl) (key ih)
 |tup vs c hl _ ih=>exact .tup _ c (by rw[wkL_length];exact hl) (key ih)
 |dref k off len c hk h1=>exact .dref _ _ _ _ hk h1
 |dptr k i off c hk h1=>exact .dptr _ _ _ _ hk h1
 |ref k off len sz xs st b n cap hk hb hn hc hs=>exact .ref k off len sz xs st b n cap hk hb hn hc hs
 |ref0 k off sz xs st a hk hn=>exact .ref0 k off sz xs st a hk hn
 |pbox k off cs b n hk hb=>exact .pbox k off cs b n hk hb
 |parr k i off sz xs st b n hk hb hi ho=>exact .parr k i off sz xs st b n hk hb hi ho
theorem RepF.free {w:World} {D D':Nat→Prop}:∀{v:AV} {c:Value},RepF w D v c→v.nosl=true→RepF w D' v c:=by
 intro v c hv
 induction hv with
 |bot c=>exact fun _=> .bot c
 |gh n c=>exact fun _=> .gh n c
 |s v=>exact fun _=> .s v
 |agg cs c hl h1 _ ih=>exact fun hn=> .agg cs c hl h1 fun i v hv=>ih i v hv (noslL_at (by simpa [AV.nosl]using hn) hv)
 |_=>intro hn;simp[AV.nosl]at hn
theorem RepV.fz0 {w:World} {X:Nat→Prop} {h:Heap} {β:Map} (H:HOK X h β w) {K:List Nat} {h':Heap} {β':Map} {D':Nat→Prop}
  (hk:∀k,k∈K→∀e,h k=some e→match e with| .box _=>∃cs',h' k=some (.box cs')| .arr sz xs _=>∃xs' st',h' k=some (.arr sz xs' st')∧xs.length=xs'.length| .dead=>h' k=some .dead) (hβ:∀k,k∈K→β' k=β k) (hD:∀b,b<w.heap.size→¬Dom X β b→¬D' b)
  {v:AV} {c:Value} (hv:RepV w (Dom X β) h β v c):(∀k,k∈v.refs→k∈K∨∀b n,(b,n)∈β k→¬D' b)→RepV w D' h' β' (frz0 K h v) c:=by
 have key:∀{cs:List AV} {c:Array Value} (ih:∀(i:Nat) v,cs[i]? =some v→(∀k,k∈v.refs→k∈K∨∀b n,(b,n)∈β k→¬D' b)→RepV w D' h' β' (frz0 K h v) (c.getD i undef)) (hr:∀k,k∈refsL cs→k∈K∨∀b n,(b,n)∈β k→¬D' b)
   (i:Nat) v,(frz0L K h cs)[i]? =some v→RepV w D' h' β' v (c.getD i undef):=fun ih hr i v hv=>by
  rw[frz0L_at,Option.map_eq_some_iff]at hv
  obtain⟨u,hu,rfl⟩:=hv
  exact ih i u hu fun k hk=>hr k (refsL_at hu hk)
 have efz:∀{v c},RepF w (Dom X β) v c→RepF w D' v c:=fun hf=>hf.evo (Nat.le_refl _) fun b hb hd=>⟨rfl,hD b hb hd⟩
 have cont:∀{k},K.contains k=true↔k∈K:=fun {k}=>by simp
 induction hv with
 | fz v c hf=>
  intro _
  have:RepF w D' (frz0 K h v) c:=by
   have h2:∀{v c},RepF w (Dom X β) v c→RepF w D' (frz0 K h v) c:=by
    intro v c hf
    induction hf with
    |bot c=>exact .bot c
    |gh n c=>exact .gh n c
    |s v=>exact .s v
    | agg cs c hl h1 _ ih=>
     exact .agg _ c (by rw[frz0L_length];exact hl) h1 fun i v hv=>by
      rw[frz0L_at,Option.map_eq_some_iff]at hv
      obtain⟨u,hu,rfl⟩:=hv
      exact ih i u hu
    |nil a cap=>exact .nil _ _
    |nil1 a cap=>exact .nil1 _ _
    |sl nn xs b o sz cap f hx hL hc hh _=>exact efz (.sl nn xs b o sz cap f hx hL hc hh)
    |slc cap xs b o sz f hL hc hh _=>exact efz (.slc cap xs b o sz f hL hc hh)
    |fp xs b o sz i off f hL hi ho hh _=>exact efz (.fp xs b o sz i off f hL hi ho hh)
   exact h2 hf
  exact .fz _ _ this
 |agg cs c hl h1 _ ih=>exact fun hr=> .agg _ c (by rw[frz0L_length];exact hl) h1 (key ih hr)
 |fn f caps c hl _ ih=>exact fun hr=> .fn f _ c (by rw[frz0L_length];exact hl) (key ih hr)
 |tup vs c hl _ ih=>exact fun hr=> .tup _ c (by rw[frz0L_length];exact hl) (key ih hr)
 |dref k off len c hk' h1=>
  intro hr
  unfold frz0
  cases hc:K.contains k with
  |true=>exact .dref _ _ _ _ (hk k (cont.1 hc) _ hk') h1
  |false=>simp only[hk',cond_false];exact .fz _ _ (.bot _)
 |dptr k i off c hk' h1=>
  intro hr
  unfold frz0
  cases hc:K.contains k with
  |true=>exact .dptr _ _ _ _ (hk k (cont.1 hc) _ hk') h1
  |false=>exact .fz _ _ (.bot _)
 | ref k off len sz xs st b n cap hk' hb hn hc' hs=>
  intro hr
  unfold frz0
  cases hc:K.contains k with
  |true=>obtain⟨xs',st',hk2,_⟩:=hk k (cont.1 hc) _ hk';exact .ref k off len sz xs' st' b n cap hk2 (by rw[hβ k (cont.1 hc)];exact hb) hn hc' hs
  | false=>
   simp only[hk',cond_false]
   cases hnest:st.nest with
   |true=>exact .fz _ _ (.bot _)
   |false=>
   simp only[cond_false]
   have hnK:¬k∈K:=fun h=>by rw[cont.2 h]at hc;cases hc
   have hfree:=(hr k (by simp[AV.refs])).resolve_left hnK
   obtain⟨g1,g2,g3,g4,g5,f,g6,g7,g8⟩:=H.ent k _ hk'
   have hnx:n≤xs.length:=by
    cases hbk:β k with
    |nil=>rw[hbk]at hb;simp at hb
    |cons q rr=>
     obtain⟨b0,n0⟩:=q
     obtain⟨e1,_,e3⟩:=g5 b0 n0 rr hbk
     rw[hbk]at hb
     simp at hb
     rcases hb with⟨_,rfl⟩|hb
     ·omega
     ·exact Nat.le_of_lt (e3 b n hb)
   have hl:((xs.drop off).take len).length=len:=by simp;omega
   by_cases hz:len=0
   ·subst hz;simp only[List.take_zero];exact .fz _ _ (.nil _ _)
   ·have hat:∀(i:Nat) y,((xs.drop off).take len)[i]? =some y→xs[off+i]? =some y:=fun i y hy=>by
     rw[List.getElem?_take]at hy
     split at hy
     ·rwa [List.getElem?_drop]at hy
     ·cases hy
    obtain⟨cc,el,e1,e2,e3,_⟩:=g8 b n hb
    have:=RepF.sl (w:=w) (D:=D') false ((xs.drop off).take len) b (off*sz) sz cap (fun i j=>f (off+i) j) (fun h0=>hz (by rw[←hl,h0];rfl))
     ⟨H.lt b (.inr ⟨k,n,hb⟩),hfree b n hb,g1,by rw[hl];omega,fun i y hy=>g4 _ y (hat i y hy),fun i j hi hj=>by
      rw[hl]at hi
      rw[cell_of_heap e1,show off*sz+i*sz+j=(off+i)*sz+j by rw[Nat.add_mul]]
      exact e3 _ _ (by omega) hj,fun i j hi hj=>g7 _ _ (by rw[hl]at hi;omega) hj⟩ (by rw[hl];exact hc') (fun i y j v hy hv=>efz (g6.toF hnest _ y j v (hat i y hy) hv))
    rw[hl]at this
    exact .fz _ _ this
 | ref0 k off sz xs st a hk' hn=>
  intro hr
  unfold frz0
  cases hc:K.contains k with
  |true=>obtain⟨xs',st',hk2,hl2⟩:=hk k (cont.1 hc) _ hk';exact .ref0 k off sz xs' st' a hk2 (hl2▸hn)
  |false=>
   simp only[hk',cond_false,List.take_zero]
   cases st.nest with
   |true=>exact .fz _ _ (.bot _)
   |false=>exact .fz _ _ (.nil _ _)
 | pbox k off cs b n hk' hb=>
  intro hr
  unfold frz0
  cases hc:K.contains k with
  |true=>
   obtain⟨cs',h2⟩:=hk k (cont.1 hc) _ hk'
   exact .pbox k off cs' b n h2 (by rw[hβ k (cont.1 hc)];exact hb)
  |false=>exact .fz _ _ (.bot _)
 |parr k i off sz xs st b n hk' hb hi ho=>
  intro hr
  unfold frz0
  cases hc:K.contains k with
  |true=>obtain⟨xs',st',hk2,_⟩:=hk k (cont.1 hc) _ hk';exact .parr k i off sz xs' st' b n hk2 (by rw[hβ k (cont.1 hc)];exact hb) hi ho
  |false=>exact .fz _ _ (.bot _)
theorem RepV.frz {w:World} {X:Nat→Prop} {h:Heap} {β:Map} (H:HOK X h β w) {K:List Nat} {h':Heap} {β':Map} {D':Nat→Prop}
  (hk:∀k,k∈K→∀e,h k=some e→match e with| .box _=>∃cs',h' k=some (.box cs')| .arr sz xs _=>∃xs' st',h' k=some (.arr sz xs' st')∧xs.length=xs'.length| .dead=>h' k=some .dead) (hβ:∀k,k∈K→β' k=β k) (hD:∀b,b<w.heap.size→¬Dom X β b→¬D' b) (hfr:∀k,¬k∈K→∀b n,(b,n)∈β k→¬D' b)
  {v:AV} {c:Value} (hv:RepV w (Dom X β) h β v c):RepV w D' h' β' (frzV K h v) c:=by
 have key:∀{cs:List AV} {c:Array Value} (ih:∀(i:Nat) v,cs[i]? =some v→RepV w D' h' β' (frzV K h v) (c.getD i undef))
   (i:Nat) v,(frzL K h cs)[i]? =some v→RepV w D' h' β' v (c.getD i undef):=fun ih i v hv=>by
  rw[frzL_at,Option.map_eq_some_iff]at hv
  obtain⟨u,hu,rfl⟩:=hv
  exact ih i u hu
 have efz:∀{v c},RepF w (Dom X β) v c→RepF w D' v c:=fun hf=>hf.evo (Nat.le_refl _) fun b hb hd=>⟨rfl,hD b hb hd⟩
 have cont:∀{k},K.contains k=true↔k∈K:=fun {k}=>by simp
 induction hv with
 | fz v c hf=>
  have:RepF w D' (frzV K h v) c:=by
   have h2:∀{v c},RepF w (Dom X β) v c→RepF w D' (frzV K h v) c:=by
    intro v c hf
    induction hf with
    |bot c=>exact .bot c
    |gh n c=>exact .gh n c
    |s v=>exact .s v
    | agg cs c hl h1 _ ih=>
     exact .agg _ c (by rw[frzL_length];exact hl) h1 fun i v hv=>by
      rw[frzL_at,Option.map_eq_some_iff]at hv
      obtain⟨u,hu,rfl⟩:=hv
      exact ih i u hu
    |nil a cap=>exact .nil _ _
    |nil1 a cap=>exact .nil1 _ _
    |sl nn xs b o sz cap f hx hL hc hh _=>exact efz (.sl nn xs b o sz cap f hx hL hc hh)
    |slc cap xs b o sz f hL hc hh _=>exact efz (.slc cap xs b o sz f hL hc hh)
    |fp xs b o sz i off f hL hi ho hh _=>exact efz (.fp xs b o sz i off f hL hi ho hh)
   exact h2 hf
  exact .fz _ _ this
 |agg cs c hl h1 _ ih=>exact .agg _ c (by rw[frzL_length];exact hl) h1 (key ih)
 |fn f caps c hl _ ih=>exact .fn f _ c (by rw[frzL_length];exact hl) (key ih)
 |tup vs c hl _ ih=>exact .tup _ c (by rw[frzL_length];exact hl) (key ih)
 |dref k off len c hk' h1=>
  unfold frzV
  cases hc:K.contains k with
  |true=>exact .dref _ _ _ _ (hk k (cont.1 hc) _ hk') h1
  |false=>simp only[hk',cond_false];exact .fz _ _ (.bot _)
 |dptr k i off c hk' h1=>
  unfold frzV
  cases hc:K.contains k with
  |true=>exact .dptr _ _ _ _ (hk k (cont.1 hc) _ hk') h1
  |false=>exact .fz _ _ (.bot _)
 | ref k off len sz xs st b n cap hk' hb hn hc' hs=>
  unfold frzV
  cases hc:K.contains k with
  |true=>obtain⟨xs',st',hk2,_⟩:=hk k (cont.1 hc) _ hk';exact .ref k off len sz xs' st' b n cap hk2 (by rw[hβ k (cont.1 hc)];exact hb) hn hc' hs
  | false=>
   simp only[hk',cond_false]
   have hnK:¬k∈K:=fun h=>by rw[cont.2 h]at hc;cases hc
   have hfree:=hfr k hnK
   obtain⟨g1,g2,g3,g4,g5,f,g6,g7,g8⟩:=H.ent k _ hk'
   have hnx:n≤xs.length:=by
    cases hbk:β k with
    |nil=>rw[hbk]at hb;simp at hb
    |cons q rr=>
     obtain⟨b0,n0⟩:=q
     obtain⟨e1,_,e3⟩:=g5 b0 n0 rr hbk
     rw[hbk]at hb
     simp at hb
     rcases hb with⟨_,rfl⟩|hb
     ·omega
     ·exact Nat.le_of_lt (e3 b n hb)
   cases hnest:st.nest with
   | true=>
    simp only[cond_true]
    cases hnk:nokeys (frz0L K h xs)with
    |false=>exact .fz _ _ (.bot _)
    |true=>
    simp only[cond_true]
    have hl0:(frz0L K h xs).length=xs.length:=frz0L_length K h xs
    have hl:(((frz0L K h xs).drop off).take len).length=len:=by simp[hl0];omega
    by_cases hz:len=0
    ·subst hz;simp only[List.take_zero];exact .fz _ _ (.nil _ _)
    have hat:∀(i:Nat) y,(((frz0L K h xs).drop off).take len)[i]? =some y→∃x,xs[off+i]? =some x∧y=frz0 K h x:=fun i y hy=>by
     rw[List.getElem?_take]at hy
     split at hy
     ·rw[List.getElem?_drop,frz0L_at,Option.map_eq_some_iff]at hy
      obtain⟨x,hx,rfl⟩:=hy
      exact⟨x,hx,rfl⟩
     ·cases hy
    obtain⟨cc,el,e1,e2,e3,_⟩:=g8 b n hb
    have:=RepF.sl (w:=w) (D:=D') false (((frz0L K h xs).drop off).take len) b (off*sz) sz cap (fun i j=>f (off+i) j) (fun h0=>hz (by rw[←hl,h0];rfl))
     ⟨H.lt b (.inr ⟨k,n,hb⟩),hfree b n hb,g1,by rw[hl];omega,fun i y hy=>by
      obtain⟨x,hx,rfl⟩:=hat i y hy
      rw[frz0_cells,frz0L_length]
      exact g4 _ x hx,fun i j hi hj=>by
      rw[hl]at hi
      rw[cell_of_heap e1,show off*sz+i*sz+j=(off+i)*sz+j by rw[Nat.add_mul]]
      exact e3 _ _ (by omega) hj,fun i j hi hj=>g7 _ _ (by rw[hl]at hi;omega) hj⟩ (by rw[hl];exact hc') (fun i y j v hy hv=>by
      obtain⟨x,hx,rfl⟩:=hat i y hy
      have hyk:(frz0 K h x).nokey=true:=nokeys_at hnk (show(frz0L K h xs)[off+i]? =some (frz0 K h x) by rw[frz0L_at,hx];rfl)
      have hvk:v.nokey=true:=nokeys_at (nokey_cells hyk) hv
      rw[frz0_cells,frz0L_at,Option.map_eq_some_iff]at hv
      obtain⟨u,hu,rfl⟩:=hv
      exact(RepV.fz0 H hk hβ hD (g6.toV _ x j u hx hu) fun k' _=>by
       by_cases hk2:k'∈K
       ·exact .inl hk2
       ·exact .inr (hfr k' hk2)).toF hvk)
    rw[hl]at this
    exact .fz _ _ this
   |false=>
   simp only[cond_false]
   have hl:((xs.drop off).take len).length=len:=by simp;omega
   by_cases hz:len=0
   ·subst hz;simp only[List.take_zero];exact .fz _ _ (.nil _ _)
   ·have hat:∀(i:Nat) y,((xs.drop off).take len)[i]? =some y→xs[off+i]? =some y:=fun i y hy=>by
     rw[List.getElem?_take]at hy
     split at hy
     ·rwa [List.getElem?_drop]at hy
     ·cases hy
    obtain⟨cc,el,e1,e2,e3,_⟩:=g8 b n hb
    have:=RepF.sl (w:=w) (D:=D') false ((xs.drop off).take len) b (off*sz) sz cap (fun i j=>f (off+i) j) (fun h0=>hz (by rw[←hl,h0];rfl))
     ⟨H.lt b (.inr ⟨k,n,hb⟩),hfree b n hb,g1,by rw[hl];omega,fun i y hy=>g4 _ y (hat i y hy),fun i j hi hj=>by
      rw[hl]at hi
      rw[cell_of_heap e1,show off*sz+i*sz+j=(off+i)*sz+j by rw[Nat.add_mul]]
      exact e3 _ _ (by omega) hj,fun i j hi hj=>g7 _ _ (by rw[hl]at hi;omega) hj⟩ (by rw[hl];exact hc') (fun i y j v hy hv=>efz (g6.toF hnest _ y j v (hat i y hy) hv))
    rw[hl]at this
    exact .fz _ _ this
 | ref0 k off sz xs st a hk' hn=>
  unfold frzV
  cases hc:K.contains k with
  |true=>obtain⟨xs',st',hk2,hl2⟩:=hk k (cont.1 hc) _ hk';exact .ref0 k off sz xs' st' a hk2 (hl2▸hn)
  | false=>
   simp only[hk',cond_false,List.take_zero]
   cases st.nest with
   |true=>
    simp only[cond_true]
    cases nokeys (frz0L K h xs)with
    |true=>exact .fz _ _ (.nil _ _)
    |false=>exact .fz _ _ (.bot _)
   |false=>exact .fz _ _ (.nil _ _)
 | pbox k off cs b n hk' hb=>
  unfold frzV
  cases hc:K.contains k with
  |true=>
   obtain⟨cs',h2⟩:=hk k (cont.1 hc) _ hk'
   exact .pbox k off cs' b n h2 (by rw[hβ k (cont.1 hc)];exact hb)
  |false=>exact .fz _ _ (.bot _)
 |parr k i off sz xs st b n hk' hb hi ho=>
  unfold frzV
  cases hc:K.contains k with
  |true=>obtain⟨xs',st',hk2,_⟩:=hk k (cont.1 hc) _ hk';exact .parr k i off sz xs' st' b n hk2 (by rw[hβ k (cont.1 hc)];exact hb) hi ho
  |false=>exact .fz _ _ (.bot _)
def frzE (K:List Nat) (h:Heap):Ent→Ent
 | .box cs=> .box (frzL K h cs)
 | .arr sz xs fl=>bif fl.nest then .arr sz (frzL K h xs) ⟨fl.stale,!nokeys (frzL K h xs)⟩else .arr sz xs fl
 | .dead=> .dead
theorem frzE_arr (K:List Nat) (h:Heap) (sz:Nat) (xs:List AV) (fl:Fl):∃xs' fl',frzE K h (.arr sz xs fl)= .arr sz xs' fl'∧xs'.length=xs.length:=by
 cases hn:fl.nest with
 |true=>exact⟨_,_,by simp only[frzE,hn,cond_true];rfl,frzL_length K h xs⟩
 |false=>exact⟨_,_,by simp only[frzE,hn,cond_false];rfl,rfl⟩
theorem frzV_gh {K:List Nat} {h:Heap} {v:AV} {i:Nat} (hv:frzV K h v= .gh i):v= .gh i:=by
 cases v<;>first
  |exact hv
  |(simp[frzV]at hv;done)
  |skip
 ·exfalso
  rename_i k _ _
  unfold frzV at hv
  cases hc:K.contains k<;>rw[hc]at hv
  ·simp only[cond_false]at hv
   split at hv
   ·rename_i fl _
    cases hn:Fl.nest fl<;>rw[hn]at hv
    ·cases hv
    ·simp only[cond_true]at hv
     generalize nokeys _=q at hv
     cases q<;>cases hv
   ·cases hv
  ·cases hv
 ·exfalso
  rename_i k _ _
  unfold frzV at hv
  cases hc:K.contains k<;>rw[hc]at hv<;>cases hv
def restrH (K:List Nat) (h:Heap):List (Nat×Ent)
 :=K.filterMap fun k=>(h k).map fun e=>(k,frzE K h e)
def restr (K ts:List Nat) (st:St):St:=⟨ts.map fun t=>(t,frzV K (lookE st.h) (look st.tm t)),restrH K (lookE st.h)⟩
theorem lookE_restrH (K:List Nat) (h:Heap) (k:Nat):lookE (restrH K h) k=if k∈K then(h k).map (frzE K h)else none:=by
 unfold restrH
 generalize frzE K h=g
 induction K with
 |nil=>rfl
 | cons j K ih=>
  rw[List.filterMap_cons]
  cases hj:h j with
  |none=>
   simp only[Option.map_none,ih,List.mem_cons]
   by_cases hkj:k=j
   ·subst hkj;simp[hj]
   ·simp[hkj]
  |some e=>
   simp only[Option.map_some,lookE_cons,ih,List.mem_cons]
   by_cases hkj:k=j
   ·subst hkj;simp[hj]
   ·simp[hkj]
theorem look_restr (K ts:List Nat) (st:St) (t:Nat):look (restr K ts st).tm t=if t∈ts then frzV K (lookE st.h) (look st.tm t)else .bot:=by
 unfold restr
 dsimp only
 generalize frzV K (lookE st.h)=g
 induction ts with
 |nil=>rfl
 |cons j ts ih=>
  simp only[List.map_cons,look_cons,ih,List.mem_cons]
  by_cases htj:t=j
  ·subst htj;simp
  ·simp[htj]
theorem HOK.restr {X:Nat→Prop} {h:Heap} {β:Map} {w:World} (H:HOK X h β w) (K:List Nat):
  HOK X (lookE (restrH K h)) (fun k=>if k∈K then β k else []) w∧∀v c,RepV w (Dom X β) h β v c→RepV w (Dom X fun k=>if k∈K then β k else []) (lookE (restrH K h)) (fun k=>if k∈K then β k else []) (frzV K h v) c:=by
 have hsub:∀b,Dom X (fun k=>if k∈K then β k else []) b→Dom X β b:=fun b hd=>by
  rcases hd with hx|⟨k,n,hm⟩
  ·exact .inl hx
  ·(try dsimp only at hm)
   split at hm
   ·exact .inr ⟨k,n,hm⟩
   ·simp at hm
 have hv:∀v c,RepV w (Dom X β) h β v c→RepV w (Dom X fun k=>if k∈K then β k else []) (lookE (restrH K h)) (fun k=>if k∈K then β k else []) (frzV K h v) c:=fun v c hv=>by
  refine RepV.frz H (K:=K) (fun k hk e he=>?_) (fun k hk=>by simp[hk]) (fun b _ hd h'=>hd (hsub b h')) (fun k hk b n hm=>?_) hv
  ·rw[lookE_restrH,if_pos hk,he]
   cases e with
   |box cs=>exact⟨_,rfl⟩
   |arr sz xs fl=>
    cases hn:fl.nest with
    |true=>exact⟨_,_,by simp only[Option.map_some,frzE,hn,cond_true];rfl,(frzL_length K h xs).symm⟩
    |false=>exact⟨_,_,by simp only[Option.map_some,frzE,hn,cond_false];rfl,rfl⟩
   |dead=>rfl
  ·rintro(hx|⟨k',n',hm'⟩)
   ·exact H.free k b n hm hx
   ·(try dsimp only at hm')
    split at hm'
    ·rename_i hk'
     exact hk (H.disj k k' b n n' hm hm'▸hk')
    ·simp at hm'
 have ef:∀{v c},RepF w (Dom X β) v c→RepF w (Dom X fun k=>if k∈K then β k else []) v c:=fun hf=>hf.evo (Nat.le_refl _) fun b _ hd=>⟨rfl,fun h'=>hd (hsub b h')⟩
 refine⟨⟨fun k e he=>?_,fun k he=>?_,fun k k' b n n' h1 h2=>?_,fun k b n hm=>?_,fun b hd=>H.lt b (hsub b hd)⟩,hv⟩
 ·rw [lookE_restrH]at he
  split at he
  ·rename_i hk
   rw[Option.map_eq_some_iff]at he
   obtain⟨e0,he0,rfl⟩:=he
   have:=H.ent k e0 he0
   cases e0 with
   |dead=>show(if k∈K then β k else [])=[];rw[if_pos hk];exact this
   |box cs=>
    obtain⟨b,c,el,h1,h2,h3,h4,h5⟩:=this
    refine⟨b,c,el,by(try dsimp only);rw[if_pos hk];exact h1,h2,by rw[frzL_length];exact h3,h4,fun i v hi=>?_⟩
    rw[frzL_at,Option.map_eq_some_iff]at hi
    obtain⟨u,hu,rfl⟩:=hi
    exact hv u _ (h5 i u hu)
   | arr sz xs st=>
    obtain⟨g1,g2,g3,g4,g5,f,g6,g7,g8⟩:=this
    cases hn:st.nest with
    |false=>
     simp only[frzE,hn,cond_false]
     exact⟨g1,g2,by(try dsimp only);rw[if_pos hk];exact g3,g4,by(try dsimp only);rw[if_pos hk];exact g5,f,.ofF fun i x j v hx hy=>ef (g6.toF hn i x j v hx hy),g7,by(try dsimp only);rw[if_pos hk];exact g8⟩
    | true=>
     simp only[frzE,hn,cond_true]
     have hl:=frzL_length K h xs
     have hat:∀(i:Nat) y,(frzL K h xs)[i]? =some y→∃x,xs[i]? =some x∧y=frzV K h x:=fun i y hy=>by
      rw[frzL_at,Option.map_eq_some_iff]at hy
      obtain⟨x,hx,rfl⟩:=hy
      exact⟨x,hx,rfl⟩
     refine⟨g1,by rw[hl];exact g2,fun h0=>by(try dsimp only);rw[if_pos hk];exact g3 (fun h1=>h0 (by rw[h1];rfl)),fun i y hy=>?_,by(try dsimp only);rw[if_pos hk,hl];exact g5,f,fun i y j v hy hv2=>?_,by rw[hl];exact g7,by(try dsimp only);rw[if_pos hk];exact g8⟩
     ·obtain⟨x,hx,rfl⟩:=hat i y hy
      rw[frzV_cells,frzL_length]
      exact g4 i x hx
     ·obtain⟨x,hx,rfl⟩:=hat i y hy
      have hR:RepV w (Dom X fun k=>if k∈K then β k else []) (lookE (restrH K h)) (fun k=>if k∈K then β k else []) v (f i j):=by
       rw[frzV_cells,frzL_at,Option.map_eq_some_iff]at hv2
       obtain⟨u,hu,rfl⟩:=hv2
       exact hv u _ (g6.toV i x j u hx hu)
      exact⟨hR,fun h0=>hR.toF (nokeys_at (nokey_cells (nokeys_at (by simpa using h0) hy)) hv2)⟩
  ·cases he
 ·(try dsimp only)
  split
  ·rename_i hk
   rw[lookE_restrH,if_pos hk]at he
   cases hk':h k with
   |none=>exact H.off k hk'
   |some e=>simp[hk']at he
  ·rfl
 ·(try dsimp only at h1 h2)
  split at h1<;>split at h2
  ·exact H.disj _ _ _ _ _ h1 h2
  ·simp at h2
  ·simp at h1
  ·simp at h1
 ·(try dsimp only at hm)
  split at hm
  ·exact H.free k b n hm
  ·simp at hm
theorem RelS.restr {K0:List Nat} {F:Fr K0} {m:Nat} {st:St} {a:Act} {w:World} (R:RelS F m st a w) (K ts:List Nat) (hK:K0.all (K.contains ·)=true):RelS F m (restr K ts st) a w:=by
 obtain⟨⟨X,β,hX,H,Ht,KK,hJ,hD⟩,nd,gs,hl⟩:=R
 obtain⟨H',hv⟩:=H.restr K
 refine⟨⟨X,_,hX,H',fun t=>?_,⟨fun k e he=>?_,KK.size,KK.keep,fun k b n hm=>?_,fun k b n hm=>?_,KK.bs,KK.os,KK.tape,KK.output⟩,fun i hi=>?_,hD⟩,fun k=>?_,gs,hl⟩
 ·rw[look_restr]
  split
  ·exact hv _ _ (Ht t)
  ·exact .fz _ _ (.bot _)
 ·have hk:k∈K:=by
   have:=List.all_eq_true.1 hK k (F.hh k e he)
   simpa using this
  have h1:=KK.knd k e he
  have hr:∀e',lookE st.h k=some e'→lookE (restrH K (lookE st.h)) k=some (frzE K (lookE st.h) e'):=fun e' h2=>by rw[lookE_restrH,if_pos hk,h2];rfl
  cases e with
  |dead=>exact h1
  |box cs=>obtain⟨cs',h2⟩:=h1;exact⟨_,hr _ h2⟩
  |arr sz xs sl=>obtain⟨xs',sl',h2,h3⟩:=h1;obtain⟨xs2,fl2,h4,h5⟩:=frzE_arr K (lookE st.h) sz xs' sl';exact⟨xs2,fl2,(hr _ h2).trans (by rw[h4]),by rw[h5];exact h3⟩
 ·(try dsimp only at hm)
  split at hm
  ·exact KK.own k b n hm
  ·simp at hm
 ·have hk:k∈K:=by
   have:=List.all_eq_true.1 hK k (F.hK k b n hm)
   simpa using this
  (try dsimp only)
  rw[if_pos hk]
  exact KK.pas k b n hm
 ·rw[look_restr]at hi
  split at hi
  ·have h1:look st.tm GS= .gh i:=frzV_gh hi
   refine F.Jst i _ X w w _ (hJ i h1) (Nat.le_refl _) (fun _ _ _=>rfl) (fun b hb=>?_) (fun b hb=>?_) rfl rfl rfl
   ·obtain⟨k,n,hm⟩:=hb
    (try dsimp only at hm)
    split at hm
    ·exact .inl ⟨k,n,hm⟩
    ·simp at hm
   ·obtain⟨k,n,hm⟩:=hb
    exact H'.lt b (.inr ⟨k,n,hm⟩)
  ·cases hi
 ·show lookE (restrH K (lookE st.h)) k≠some .dead
  rw[lookE_restrH]
  split
  ·intro h
   rw[Option.map_eq_some_iff]at h
   obtain⟨e,he,h2⟩:=h
   cases e with
   |dead=>exact nd k he
   |box cs=>cases h2
   |arr a b c=>obtain⟨xs2,fl2,h4,_⟩:=frzE_arr K (lookE st.h) a b c;rw[h4]at h2;cases h2
  ·intro h;cases h
end Av
end Go.Proofs.YtaikgchmpieooaaGreat
