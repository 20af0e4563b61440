/- Part 1: contracts of the functions, and what they rest upon. -/
import Derived.Below
import Derived.Orders
import Derived.LoopN
import Derived.Laws.Sem
import Derived.KernelRfl
import Derived.Laws.AppendOwn
import Derived.Laws.CopyRow
import Derived.IntWalk
namespace Go.Proofs.YtaikgchmpieooaaGreat
namespace Av
set_option linter.unusedSimpArgs false
set_option linter.unusedVariables false
section
inductive AV where
 |bot
 |gh (n:Nat)
 |s (v:Value)
 |agg (cs:List AV)
 |sl (nn:Bool) (xs:List AV)
 |slc (cap:Nat) (xs:List AV)
 |ref (k off len:Nat)
 |ptr (k i off:Nat)
 |fp (xs:List AV) (i off:Nat)
 |fn (f:Nat) (caps:List AV)
 |tup (vs:List AV)
 deriving Inhabited
def AV.cells:AV→List AV
 | .agg cs=>cs
 |v=>[v]
def AV.isAgg:AV→Bool
 | .agg _=>true
 |_=>false
def maxN:Nat:=9223372036854775807
structure Lay (w:World) (D:Nat→Prop) (xs:List AV) (b o sz:Nat) (f:Nat→Nat→Value):Prop where
 lt:b<w.heap.size
 nd:¬D b
 pos:1≤sz
 max:xs.length≤maxN
 wide:∀(i:Nat) (x:AV),xs[i]? =some x→x.cells.length=sz
 cell:∀i j,i<xs.length→j<sz→w.cell? ⟨b,o+i*sz+j,none⟩=some (f i j)
 one:∀i j,i<xs.length→j<sz→(f i j).oneCell'=true
inductive RepF (w:World) (D:Nat→Prop):AV→Value→Prop
 |bot (c:Value):RepF w D .bot c
 |gh (n:Nat) (c:Value):RepF w D (.gh n) c
 |s (v:Value):RepF w D (.s v) v
 |agg (cs:List AV) (c:Array Value) (hl:c.size=cs.length) (h1:∀i,i<c.size→(c.getD i undef).oneCell'=true) (h:∀(i:Nat) v,cs[i]? =some v→RepF w D v (c.getD i undef)):RepF w D (.agg cs) (.agg c)
 |nil (a:Option Addr) (cap:Nat):RepF w D (.sl false []) (.slice a 0 cap)
 |nil1 (a:Addr) (cap:Nat):RepF w D (.sl true []) (.slice (some a) 0 cap)
 |sl (nn:Bool) (xs:List AV) (b o sz cap:Nat) (f:Nat→Nat→Value) (hx:xs≠[]) (hL:Lay w D xs b o sz f) (hc:xs.length≤cap)
  (h:∀(i:Nat) (x:AV) (j:Nat) v,xs[i]? =some x→x.cells[j]? =some v→RepF w D v (f i j)):RepF w D (.sl nn xs) (.slice (some ⟨b,o,none⟩) xs.length cap)
 |slc (cap:Nat) (xs:List AV) (b o sz:Nat) (f:Nat→Nat→Value) (hL:Lay w D xs b o sz f) (hc:xs.length≤cap)
  (h:∀(i:Nat) (x:AV) (j:Nat) v,xs[i]? =some x→x.cells[j]? =some v→RepF w D v (f i j)):RepF w D (.slc cap xs) (.slice (some ⟨b,o,none⟩) xs.length cap)
 |fp (xs:List AV) (b o sz i off:Nat) (f:Nat→Nat→Value) (hL:Lay w D xs b o sz f) (hi:i<xs.length) (ho:off<sz)
  (h:∀(i:Nat) (x:AV) (j:Nat) v,xs[i]? =some x→x.cells[j]? =some v→RepF w D v (f i j)):RepF w D (.fp xs i off) (.pointer (some ⟨b,o+i*sz+off,none⟩))
structure Fl where
 stale:Bool
 nest:Bool
instance:Coe Bool Fl:=⟨fun b=>⟨b,false⟩⟩
inductive Ent where
 |box (cs:List AV)
 |arr (sz:Nat) (xs:List AV) (fl:Fl)
 |dead
abbrev Heap:=Nat→Option Ent
abbrev Map:=Nat→List (Nat×Nat)
def bsize (w:World) (b:Nat):Nat:=((w.shape? b).map (·.2)).getD 0
inductive RepV (w:World) (D:Nat→Prop) (h:Heap) (β:Map):AV→Value→Prop
 |fz (v:AV) (c:Value) (hf:RepF w D v c):RepV w D h β v c
 |agg (cs:List AV) (c:Array Value) (hl:c.size=cs.length) (h1:∀i,i<c.size→(c.getD i undef).oneCell'=true) (hh:∀(i:Nat) v,cs[i]? =some v→RepV w D h β v (c.getD i undef)):RepV w D h β (.agg cs) (.agg c)
 |fn (f:Nat) (caps:List AV) (c:Array Value) (hl:c.size=caps.length) (hh:∀(i:Nat) v,caps[i]? =some v→RepV w D h β v (c.getD i undef)):RepV w D h β (.fn f caps) (.func (.func f) #[] c)
 |tup (vs:List AV) (c:Array Value) (hl:c.size=vs.length) (hh:∀(i:Nat) v,vs[i]? =some v→RepV w D h β v (c.getD i undef)):RepV w D h β (.tup vs) (.tuple c)
 |dref (k off len:Nat) (c:Value) (hk:h k=some .dead) (h1:c.oneCell'=true):RepV w D h β (.ref k off len) c
 |dptr (k i off:Nat) (c:Value) (hk:h k=some .dead) (h1:c.oneCell'=true):RepV w D h β (.ptr k i off) c
 |ref (k off len sz:Nat) (xs:List AV) (st:Fl) (b n cap:Nat) (hk:h k=some (.arr sz xs st)) (hb:(b,n)∈β k) (hn:off+len≤n) (hc:len≤cap) (hs:(off+cap)*sz=bsize w b):
  RepV w D h β (.ref k off len) (.slice (some ⟨b,off*sz,none⟩) len cap)
 |ref0 (k off sz:Nat) (xs:List AV) (st:Fl) (a:Option Addr) (hk:h k=some (.arr sz xs st)) (hn:off≤xs.length):RepV w D h β (.ref k off 0) (.slice a 0 0)
 |pbox (k off:Nat) (cs:List AV) (b n:Nat) (hk:h k=some (.box cs)) (hb:(b,n)∈β k):RepV w D h β (.ptr k 0 off) (.pointer (some ⟨b,off,none⟩))
 |parr (k i off sz:Nat) (xs:List AV) (st:Fl) (b n:Nat) (hk:h k=some (.arr sz xs st)) (hb:(b,n)∈β k) (hi:i<n) (ho:off<sz):
  RepV w D h β (.ptr k i off) (.pointer (some ⟨b,i*sz+off,none⟩))
def Dom (X:Nat→Prop) (β:Map) (b:Nat):Prop:=X b∨∃k n,(b,n)∈β k
def ContOK (w:World) (D:Nat→Prop) (h:Heap) (β:Map) (nest:Bool) (xs:List AV) (f:Nat→Nat→Value):Prop:=
 ∀(i:Nat) (x:AV) (j:Nat) v,xs[i]? =some x→x.cells[j]? =some v→RepV w D h β v (f i j)∧(nest=false→RepF w D v (f i j))
theorem ContOK.ofF {w:World} {D:Nat→Prop} {h:Heap} {β:Map} {nest:Bool} {xs:List AV} {f:Nat→Nat→Value} (H:∀(i:Nat) (x:AV) (j:Nat) v,xs[i]? =some x→x.cells[j]? =some v→RepF w D v (f i j)):ContOK w D h β nest xs f:=
 fun i x j v hx hv=>⟨.fz _ _ (H i x j v hx hv),fun _=>H i x j v hx hv⟩
theorem ContOK.toF {w:World} {D:Nat→Prop} {h:Heap} {β:Map} {nest:Bool} {xs:List AV} {f:Nat→Nat→Value} (H:ContOK w D h β nest xs f) (hn:nest=false) (i:Nat) (x:AV) (j:Nat) (v:AV) (hx:xs[i]? =some x) (hv:x.cells[j]? =some v):RepF w D v (f i j):=
 (H i x j v hx hv).2 hn
theorem ContOK.toV {w:World} {D:Nat→Prop} {h:Heap} {β:Map} {nest:Bool} {xs:List AV} {f:Nat→Nat→Value} (H:ContOK w D h β nest xs f) (i:Nat) (x:AV) (j:Nat) (v:AV) (hx:xs[i]? =some x) (hv:x.cells[j]? =some v):RepV w D h β v (f i j):=
 (H i x j v hx hv).1
def EntOK (w:World) (D:Nat→Prop) (h:Heap) (β:Map) (k:Nat):Ent→Prop
 | .box cs=>∃b c el,β k=[(b,0)]∧w.heap[b]? =some (.cells c el (0,0))∧c.size=cs.length∧(∀i,i<c.size→(c.getD i undef).oneCell'=true)∧∀(i:Nat) v,cs[i]? =some v→RepV w D h β v (c.getD i undef)
 | .arr sz xs st=>1≤sz∧xs.length≤maxN∧(xs≠[]→β k≠[])∧(∀(i:Nat) (x:AV),xs[i]? =some x→x.cells.length=sz)∧
  (∀b n r,β k=(b,n)::r→n=xs.length∧(st.stale=false→∀b' n',(b',n')∈r→n'=0)∧∀b' n',(b',n')∈r→n'<xs.length)∧
  ∃f:Nat→Nat→Value,ContOK w D h β st.nest xs f∧(∀i j,i<xs.length→j<sz→(f i j).oneCell'=true)∧
   ∀b n,(b,n)∈β k→∃c el,w.heap[b]? =some (.cells c el (0,0))∧n*sz≤c.size∧(∀i j,i<n→j<sz→c[i*sz+j]? =some (f i j))∧∀i,i<c.size→(c.getD i undef).oneCell'=true
 | .dead=>β k=[]
structure HOK (X:Nat→Prop) (h:Heap) (β:Map) (w:World):Prop where
 ent:∀k e,h k=some e→EntOK w (Dom X β) h β k e
 off:∀k,h k=none→β k=[]
 disj:∀k k' b n n',(b,n)∈β k→(b,n')∈β k'→k=k'
 free:∀k b n,(b,n)∈β k→¬X b
 lt:∀b,Dom X β b→b<w.heap.size
structure Evo (w:World) (D:Nat→Prop) (h:Heap) (β:Map) (w':World) (D':Nat→Prop) (h':Heap) (β':Map):Prop where
 size:w.heap.size≤w'.heap.size
 fz:∀b,b<w.heap.size→¬D b→w'.heap[b]? =w.heap[b]? ∧¬D' b
 bs:∀k b n,(b,n)∈β k→bsize w' b=bsize w b
 key:∀k e,h k=some e→h' k=some .dead∨match e with
  | .dead=>False
  | .box _=>(∃cs',h' k=some (.box cs'))∧∀b n,(b,n)∈β k→(b,n)∈β' k
  | .arr sz xs _=>(∃xs' st',h' k=some (.arr sz xs' st')∧xs.length≤xs'.length)∧∀b n,(b,n)∈β k→∃n',n≤n'∧(b,n')∈β' k
theorem Lay.evo {w w':World} {D D':Nat→Prop} {xs:List AV} {b o sz:Nat} {f:Nat→Nat→Value} (hL:Lay w D xs b o sz f) (hs:w.heap.size≤w'.heap.size)
  (hf:∀b,b<w.heap.size→¬D b→w'.heap[b]? =w.heap[b]? ∧¬D' b):Lay w' D' xs b o sz f:=
 ⟨Nat.lt_of_lt_of_le hL.lt hs,(hf b hL.lt hL.nd).2,hL.pos,hL.max,hL.wide,fun i j hi hj=>(World.cell?_of_block (a:=⟨b,o+i*sz+j,none⟩) (hf b hL.lt hL.nd).1).trans (hL.cell i j hi hj),hL.one⟩
theorem RepF.evo {w w':World} {D D':Nat→Prop} (hs:w.heap.size≤w'.heap.size) (hf:∀b,b<w.heap.size→¬D b→w'.heap[b]? =w.heap[b]? ∧¬D' b)
  {v:AV} {c:Value} (h:RepF w D v c):RepF w' D' v c:=by
 induction h with
 |bot c=>exact .bot c
 |gh n c=>exact .gh n c
 |s v=>exact .s v
 |agg cs c hl h1 _ ih=>exact .agg cs c hl h1 ih
 |nil a cap=>exact .nil a cap
 |nil1 a cap=>exact .nil1 a cap
 |sl nn xs b o sz cap f hx hL hc _ ih=>exact .sl nn xs b o sz cap f hx (hL.evo hs hf) hc ih
 |slc cap xs b o sz f hL hc _ ih=>exact .slc cap xs b o sz f (hL.evo hs hf) hc ih
 |fp xs b o sz i off f hL hi ho _ ih=>exact .fp xs b o sz i off f (hL.evo hs hf) hi ho ih
theorem RepV.evo {w w':World} {D D':Nat→Prop} {h h':Heap} {β β':Map} (E:Evo w D h β w' D' h' β') {v:AV} {c:Value} (hv:RepV w D h β v c):RepV w' D' h' β' v c:=by
 induction hv with
 |fz v c hf=>exact .fz v c (hf.evo E.size E.fz)
 |agg cs c hl h1 _ ih=>exact .agg cs c hl h1 ih
 |fn f caps c hl _ ih=>exact .fn f caps c hl ih
 |tup vs c hl _ ih=>exact .tup vs c hl ih
 |dref k off len c hk h1=>exact .dref _ _ _ _ ((E.key k _ hk).resolve_right (fun f=>f)) h1
 |dptr k i off c hk h1=>exact .dptr _ _ _ _ ((E.key k _ hk).resolve_right (fun f=>f)) h1
 | ref k off len sz xs st b n cap hk hb hn hc hs=>
  rcases E.key k _ hk with hd|⟨⟨xs',st',hk',_⟩,hm⟩
  ·exact .dref _ _ _ _ hd rfl
  ·obtain⟨n',hn',hb'⟩:=hm b n hb
   exact .ref k off len sz xs' st' b n' cap hk' hb' (Nat.le_trans hn hn') hc (by rw[E.bs k b n hb];exact hs)
 |ref0 k off sz xs st a hk hn=>
  rcases E.key k _ hk with hd|⟨⟨xs',st',hk',hl⟩,hm⟩
  ·exact .dref _ _ _ _ hd rfl
  ·exact .ref0 k off sz xs' st' a hk' (Nat.le_trans hn hl)
 |pbox k off cs b n hk hb=>
  rcases E.key k _ hk with hd|⟨⟨cs',hk'⟩,hm⟩
  ·exact .dptr _ _ _ _ hd rfl
  ·exact .pbox k off cs' b n hk' (hm b n hb)
 | parr k i off sz xs st b n hk hb hi ho=>
  rcases E.key k _ hk with hd|⟨⟨xs',st',hk',hl⟩,hm⟩
  ·exact .dptr _ _ _ _ hd rfl
  ·obtain⟨n',hn',hb'⟩:=hm b n hb
   exact .parr k i off sz xs' st' b n' hk' hb' (Nat.lt_of_lt_of_le hi hn') ho
theorem ContOK.evo {w w':World} {D D':Nat→Prop} {h h':Heap} {β β':Map} (E:Evo w D h β w' D' h' β') {nest:Bool} {xs:List AV} {f:Nat→Nat→Value} (H:ContOK w D h β nest xs f):ContOK w' D' h' β' nest xs f:=
 fun i x j v hx hv=>⟨(H i x j v hx hv).1.evo E,fun hn=>((H i x j v hx hv).2 hn).evo E.size E.fz⟩
structure Goes (X:Nat→Prop) (w:World) (h:Heap) (β:Map) (w':World) (h':Heap) (β':Map):Prop where
 size:w.heap.size≤w'.heap.size
 keep:∀b,b<w.heap.size→(∀k n,(b,n)∉β k)→w'.heap[b]? =w.heap[b]?
 own:∀k b n,(b,n)∈β' k→(∃k' n',(b,n')∈β k')∨w.heap.size≤b
 bs:∀k b n,(b,n)∈β k→bsize w' b=bsize w b
 key:∀k e,h k=some e→h' k=some .dead∨match e with
  | .dead=>False
  | .box _=>(∃cs',h' k=some (.box cs'))∧∀b n,(b,n)∈β k→(b,n)∈β' k
  | .arr sz xs _=>(∃xs' st',h' k=some (.arr sz xs' st')∧xs.length≤xs'.length)∧∀b n,(b,n)∈β k→∃n',n≤n'∧(b,n')∈β' k
 hok:HOK X h' β' w'
 os:w'.os=w.os
 tape:w'.tape=w.tape
 output:w'.output=w.output
theorem Goes.evo {X:Nat→Prop} {w w':World} {h h':Heap} {β β':Map} (G:Goes X w h β w' h' β'):Evo w (Dom X β) h β w' (Dom X β') h' β' where
 size:=G.size
 fz b hb hd:=by
  have h1:∀k n,(b,n)∉β k:=fun k n hm=>hd (.inr ⟨k,n,hm⟩)
  refine⟨G.keep b hb h1,?_⟩
  rintro(hx|⟨k,n,hm⟩)
  ·exact hd (.inl hx)
  ·rcases G.own k b n hm with⟨k',n',h2⟩|h2
   ·exact h1 _ _ h2
   ·omega
 bs:=G.bs
 key:=G.key
theorem keyRefl (h:Heap) (β:Map):∀k e,h k=some e→h k=some .dead∨match e with
  | .dead=>False
  | .box _=>(∃cs',h k=some (.box cs'))∧∀b n,(b,n)∈β k→(b,n)∈β k
  | .arr sz xs _=>(∃xs' st',h k=some (.arr sz xs' st')∧xs.length≤xs'.length)∧∀b n,(b,n)∈β k→∃n',n≤n'∧(b,n')∈β k:=by
 intro k e he
 cases e with
 |dead=>exact .inl he
 |box cs=>exact .inr ⟨⟨cs,he⟩,fun _ _ h=>h⟩
 |arr sz xs st=>exact .inr ⟨⟨xs,st,he,Nat.le_refl _⟩,fun _ n h=>⟨n,Nat.le_refl _,h⟩⟩
theorem Goes.refl {X:Nat→Prop} {h:Heap} {β:Map} {w:World} (H:HOK X h β w):Goes X w h β w h β:=
 ⟨Nat.le_refl _,fun _ _ _=>rfl,fun k _ n hm=> .inl ⟨k,n,hm⟩,fun _ _ _ _=>rfl,keyRefl h β,H,rfl,rfl,rfl⟩
theorem HOK.drew {X:Nat→Prop} {h:Heap} {β:Map} {w:World} (H:HOK X h β w) (n:Nat):HOK X h β {w with drawn:=n}:=by
 have ev:∀{v c},RepV w (Dom X β) h β v c→RepV {w with drawn:=n} (Dom X β) h β v c:=fun hv=>
  RepV.evo (w:=w) (w':={w with drawn:=n}) (D':=Dom X β) (h':=h) (β':=β) ⟨Nat.le_refl _,fun _ _ hd=>⟨rfl,hd⟩,fun _ _ _ _=>rfl,keyRefl h β⟩ hv
 have ef:∀{v c},RepF w (Dom X β) v c→RepF {w with drawn:=n} (Dom X β) v c:=fun hv=>RepF.evo (w:=w) (w':={w with drawn:=n}) (D':=Dom X β) (Nat.le_refl _) (fun _ _ hd=>⟨rfl,hd⟩) hv
 refine⟨fun k e he=>?_,H.off,H.disj,H.free,H.lt⟩
 have:=H.ent k e he
 cases e with
 |dead=>exact this
 |box cs=>
  obtain⟨b,c,el,h1,h2,h3,h4,h5⟩:=this
  exact⟨b,c,el,h1,h2,h3,h4,fun i v hv=>ev (h5 i v hv)⟩
 |arr sz xs st=>
  obtain⟨h1,h2,h3,h4,h5,f,h6,h7⟩:=this
  exact⟨h1,h2,h3,h4,h5,f,fun i x j v hx hv=>⟨ev (h6 i x j v hx hv).1,fun hn=>ef ((h6 i x j v hx hv).2 hn)⟩,h7⟩
theorem Goes.drew {X:Nat→Prop} {h:Heap} {β:Map} {w:World} (H:HOK X h β w) (n:Nat):Goes X w h β {w with drawn:=n} h β:=
 ⟨Nat.le_refl _,fun _ _ _=>rfl,fun k _ n hm=> .inl ⟨k,n,hm⟩,fun _ _ _ _=>rfl,keyRefl h β,H.drew n,rfl,rfl,rfl⟩
theorem Goes.trans {X:Nat→Prop} {w w' w'':World} {h h' h'':Heap} {β β' β'':Map} (H:HOK X h β w) (G:Goes X w h β w' h' β') (K:Goes X w' h' β' w'' h'' β''):Goes X w h β w'' h'' β'' where
 size:=Nat.le_trans G.size K.size
 keep b hb hn:=by
  rw[K.keep b (Nat.lt_of_lt_of_le hb G.size),G.keep b hb hn]
  intro k n hm
  rcases G.own k b n hm with⟨k',n',h2⟩|h2
  ·exact hn _ _ h2
  ·omega
 own k b n hm:=by
  rcases K.own k b n hm with⟨k',n',h2⟩|h2
  ·exact G.own k' b n' h2
  ·exact .inr (Nat.le_trans G.size h2)
 bs k b n hm:=by
  have hb:=H.lt b (.inr ⟨k,n,hm⟩)
  by_cases hd:∃k n,(b,n)∈β' k
  ·obtain⟨k',n',hm'⟩:=hd
   rw[K.bs k' b n' hm',G.bs k b n hm]
  ·rw[←G.bs k b n hm]
   unfold bsize World.shape?
   rw[K.keep b (Nat.lt_of_lt_of_le hb G.size) fun k n hm=>hd ⟨k,n,hm⟩]
 key k e he:=by
  rcases G.key k e he with h1|h1
  ·rcases K.key k _ h1 with h2|h2
   ·exact .inl h2
   ·exact h2.elim
  ·cases e with
   |dead=>exact h1.elim
   |box cs=>
    obtain⟨⟨cs',h2⟩,h3⟩:=h1
    rcases K.key k _ h2 with h4|⟨h4,h5⟩
    ·exact .inl h4
    ·exact .inr ⟨h4,fun b n hm=>h5 b n (h3 b n hm)⟩
   | arr sz xs st=>
    obtain⟨⟨xs',st',h2,hl⟩,h3⟩:=h1
    rcases K.key k _ h2 with h4|⟨⟨xs'',st'',h4,hl'⟩,h5⟩
    ·exact .inl h4
    ·refine .inr ⟨⟨xs'',st'',h4,Nat.le_trans hl hl'⟩,fun b n hm=>?_⟩
     obtain⟨n',hn',hm'⟩:=h3 b n hm
     obtain⟨n'',hn'',hm''⟩:=h5 b n' hm'
     exact⟨n'',Nat.le_trans hn' hn'',hm''⟩
 hok:=K.hok
 os:=K.os.trans G.os
 tape:=K.tape.trans G.tape
 output:=K.output.trans G.output
end
section
inductive TD where
 |str (fs:List (Nat×Nat))
 |slice (e:Nat)
 |arr (n e:Nat)
 |int (k:IntKind)
 |bool
 |string
 |ptr (e:Nat)
 |func
 |other
structure TI where
 d:TD
 size:Nat
 bytes:Nat
 zero:List Value
def TD.agg:TD→Bool
 | .str _| .arr _ _=>true
 |_=>false
def tdOf:TypeDesc→TD
 | .struct fs=> .str (fs.toList.map fun f=>(f.offset,f.type))
 | .slice e=> .slice e
 | .array n e=> .arr n e
 | .int k=> .int k
 | .bool=> .bool
 | .string=> .string
 | .pointer e=> .ptr e
 | .func .. => .func
 |_=> .other
def tiOf (P:Program) (t:Nat):Option TI:=
 match P.info? t,P.underlying t with
 |some i,some u=>i.zero.map fun z=>⟨tdOf u,i.size,i.bytes,z.cells.toList⟩
 |_,_=>none
def TOK (P:Program) (TT:List TI):Prop:=∀(t:Nat) ti,TT[t]? =some ti→tiOf P t=some ti
theorem tiOf_some {P:Program} {t:Nat} {ti:TI} (h:tiOf P t=some ti):∃i u z,P.info? t=some i∧P.underlying t=some u∧i.zero=some z∧ti.d=tdOf u∧ti.size=i.size∧ti.bytes=i.bytes∧ti.zero=z.cells.toList:=by
 unfold tiOf at h
 split at h
 ·rename_i i u hi hu
  cases hz:i.zero with
  |none=>simp[hz]at h
  |some z=>
   simp[hz]at h
   exact⟨i,u,z,hi,hu,hz,by rw[←h],by rw[←h],by rw[←h],by rw[←h]⟩
 ·cases h
section runs
variable {P:Program} {t:Nat} {ti:TI} (h:tiOf P t=some ti) (w:World)
include h
theorem run_info:∃i z,(typeInfo t).run P w= .ok i w∧i.size=ti.size∧i.bytes=ti.bytes∧i.zero=some z∧z.cells.toList=ti.zero:=by
 obtain⟨i,u,z,hi,_,hz,_,hs,hb,hzz⟩:=tiOf_some h
 exact⟨i,z,by simp[typeInfo,hi],hs.symm,hb.symm,hz,hzz.symm⟩
theorem run_size:(sizeOf t).run P w= .ok ti.size w:=by
 obtain⟨i,z,hr,hs,_⟩:=run_info h w
 simp[sizeOf,hr,hs]
theorem run_zero:∃z,(zeroValue t).run P w= .ok z w∧z.cells.toList=ti.zero:=by
 obtain⟨i,z,hr,_,_,hz,hzz⟩:=run_info h w
 exact⟨z,by simp[zeroValue,hr,hz],hzz⟩
theorem run_under:∃u,(underlying t).run P w= .ok u w∧tdOf u=ti.d:=by
 obtain⟨i,u,z,_,hu,_,hd,_⟩:=tiOf_some h
 exact⟨u,by simp[underlying,hu],hd.symm⟩
theorem run_agg:(isAgg t).run P w= .ok ti.d.agg w:=by
 obtain⟨u,hr,hd⟩:=run_under h w
 rw[←hd]
 simp only[isAgg,Sem.run_bind,hr,Result.andThen_ok]
 cases u<;>rfl
end runs
theorem under_of {P:Program} {t:Nat} (w:World) {u:TypeDesc} (hu:P.underlying t=some u):(underlying t).run P w= .ok u w:=by simp[underlying,hu]
theorem td_slice {u:TypeDesc} {e:Nat} (h:tdOf u= .slice e):u= .slice e:=by cases u<;>simp[tdOf]at h;rw[h]
theorem td_arr {u:TypeDesc} {n e:Nat} (h:tdOf u= .arr n e):u= .array n e:=by cases u<;>simp[tdOf]at h;rw[h.1,h.2]
theorem td_int {u:TypeDesc} {k:IntKind} (h:tdOf u= .int k):u= .int k:=by cases u<;>simp[tdOf]at h;rw[h]
theorem td_bool {u:TypeDesc} (h:tdOf u= .bool):u= .bool:=by cases u<;>simp[tdOf]at h;rfl
theorem td_string {u:TypeDesc} (h:tdOf u= .string):u= .string:=by cases u<;>simp[tdOf]at h;rfl
theorem td_str {u:TypeDesc} {fs:List (Nat×Nat)} (h:tdOf u= .str fs):∃f,u= .struct f∧f.toList.map (fun f=>(f.offset,f.type))=fs:=by
 cases u with
 |struct f=>exact⟨f,rfl,by simpa [tdOf]using h⟩
 |_=>simp[tdOf]at h
structure St where
 tm:List (Nat×AV)
 h:List (Nat×Ent)
def look:List (Nat×AV)→Nat→AV
 | [],_=> .bot
 |(k,v)::r,t=>bif Nat.beq t k then v else look r t
def lookE:List (Nat×Ent)→Nat→Option Ent
 | [],_=>none
 |(k,e)::r,t=>bif Nat.beq t k then some e else lookE r t
def over (d:List (Nat×Ent)) (h:Heap):Heap:=fun k=>match lookE d k with
 |some e=>some e
 |none=>h k
def opv (tm:Nat→AV):Operand→AV
 | .tmp t=>tm t
 | .const v=> .s v
 | .func f=> .fn f []
 | .global _=> .bot
def tmpsOf (op:Op):List Nat:=op.operands.toList.filterMap fun| .tmp t=>some t|_=>none
def OpDone (P:Program) (N:Value→World→Prop):Result Next→Prop
 | .ok (.value c) w'=>N c w'
 | .ok .skip w'=>N undef w'
 | .ok (.enter f args) w'=>Calls P f args w' fun e w''=>∃c,e= .returned c∧N c w''
 |_=>False
def OpSim (P:Program) (X:Nat→Prop) (tm:Nat→AV) (h:Heap) (op:Op) (v:AV) (h':Heap):Prop:=
 ∀(o:Oper) (a:Act) (w:World) (β:Map),o.op=op→HOK X h β w→(∀t,RepV w (Dom X β) h β (tm t) (a.eval (.tmp t)))→
  OpDone P (fun c w'=>∃β',Goes X w h β w' h' β'∧RepV w' (Dom X β') h' β' v c) ((execOp a.eval o).run P w)
structure Stp (P:Program) (st:St) (op:Op) (v:AV) (d:List (Nat×Ent)) (r nw:List Nat):Prop where
 run:∀(X:Nat→Prop) (tm:Nat→AV) (h:Heap),(∀t,t∈tmpsOf op→tm t=look st.tm t)→(∀k,k∈r→h k=lookE st.h k)→(∀k,k∈nw→h k=none)→OpSim P X tm h op v (over d h)
section
variable {w:World} {D:Nat→Prop} {h:Heap} {β:Map}
theorem opv_rep {tm:Nat→AV} {a:Act} (H:∀t,RepV w D h β (tm t) (a.eval (.tmp t))) (x:Operand):RepV w D h β (opv tm x) (a.eval x):=by
 cases x with
 |tmp t=>exact H t
 |const v=>exact .fz _ _ (.s v)
 |global g=>exact .fz _ _ (.bot _)
 |func f=>exact .fn f [] #[] rfl (fun i v hv=>by simp at hv)
theorem opv_agree {op:Op} {tm tm':Nat→AV} (H:∀t,t∈tmpsOf op→tm t=tm' t) {x:Operand} (hx:x∈op.operands):opv tm x=opv tm' x:=by
 cases x with
 |tmp t=>exact H t (by simp only[tmpsOf,List.mem_filterMap];exact⟨.tmp t,by simpa using hx,rfl⟩)
 |_=>rfl
theorem RepV.s_inv {x c:Value} (hv:RepV w D h β (.s x) c):c=x:=by
 cases hv with
 |fz _ _ hf=>cases hf;rfl
theorem arg {op:Op} {tm:Nat→AV} {st:St} {a:Act} (H:∀t,RepV w D h β (tm t) (a.eval (.tmp t))) (hg:∀t,t∈tmpsOf op→tm t=look st.tm t) {x:Operand} (hx:x∈op.operands) {v:AV}
  (hv:opv (look st.tm) x=v):RepV w D h β v (a.eval x):=by
 rw[←hv,←opv_agree hg hx]
 exact opv_rep H x
theorem arg_s {op:Op} {tm:Nat→AV} {st:St} {a:Act} (H:∀t,RepV w D h β (tm t) (a.eval (.tmp t))) (hg:∀t,t∈tmpsOf op→tm t=look st.tm t) {x:Operand} (hx:x∈op.operands) {v:Value}
 (hv:opv (look st.tm) x= .s v):a.eval x=v:=(arg H hg hx hv).s_inv
end
theorem over_nil (h:Heap):over [] h=h:=rfl
theorem stp_val {P:Program} {st:St} {op:Op} {v:AV} {r:List Nat}
  (H:∀(o:Oper) (X:Nat→Prop) (tm:Nat→AV) (h:Heap) (w:World) (β:Map) (a:Act),o.op=op→(∀t,t∈tmpsOf op→tm t=look st.tm t)→(∀k,k∈r→h k=lookE st.h k)→HOK X h β w→
   (∀t,RepV w (Dom X β) h β (tm t) (a.eval (.tmp t)))→∃c,(execOp a.eval o).run P w= .ok (.value c) w∧RepV w (Dom X β) h β v c):Stp P st op v [] r []:=by
 refine⟨?_⟩
 intro X tm h hg hr _ o a w β ho HH Ht
 obtain⟨c,hc,hv⟩:=H o X tm h w β a ho hg hr HH Ht
 rw[hc,over_nil]
 exact⟨β,Goes.refl HH,hv⟩
section ops
variable {P:Program} {TT:List TI} {st:St}
theorem stp_move {x:Operand} {v:AV} (hv:opv (look st.tm) x=v):Stp P st (.move x) v [] [] []:=
 stp_val fun o X tm h w β a ho hg _ _ Ht=>by
  obtain⟨dst,op',type,pos,after,guard⟩:=o
  dsimp only at ho;subst ho
  exact⟨a.eval x,rfl,arg Ht hg (by simp[Op.operands]) hv⟩
theorem stp_assign {x:Operand} {v:AV} (hv:opv (look st.tm) x=v):Stp P st (.assign x) v [] [] []:=
 stp_val fun o X tm h w β a ho hg _ _ Ht=>by
  obtain⟨dst,op',type,pos,after,guard⟩:=o
  dsimp only at ho;subst ho
  exact⟨a.eval x,rfl,arg Ht hg (by simp[Op.operands]) hv⟩
theorem stp_pick {c x y:Operand} {t:Bool} {v:AV} (hc:opv (look st.tm) c= .s (.bool t)) (hv:(bif t then opv (look st.tm) x else opv (look st.tm) y)=v):Stp P st (.pick c x y) v [] [] []:=
 stp_val fun o X tm h w β a ho hg _ _ Ht=>by
  obtain⟨dst,op',type,pos,after,guard⟩:=o
  dsimp only at ho;subst ho
  have h1:=arg_s Ht hg (x:=c) (by simp[Op.operands]) hc
  refine⟨if t then a.eval x else a.eval y,by simp[execOp,h1,asBool],?_⟩
  cases t
  ·exact arg Ht hg (by simp[Op.operands]) hv
  ·exact arg Ht hg (by simp[Op.operands]) hv
theorem stp_extract {x:Operand} {vs:List AV} {i:Nat} {v:AV} (hx:opv (look st.tm) x= .tup vs) (hv:vs[i]? =some v):Stp P st (.extract x i) v [] [] []:=
 stp_val fun o X tm h w β a ho hg _ _ Ht=>by
  obtain⟨dst,op',type,pos,after,guard⟩:=o
  dsimp only at ho;subst ho
  have h1:=arg Ht hg (x:=x) (by simp[Op.operands]) hx
  have hi:=(List.getElem?_eq_some_iff.1 hv).1
  generalize he:a.eval x=cx at h1
  cases h1 with
  |fz _ _ hf=>cases hf
  |tup _ c hl hh=>
   obtain⟨u,hc⟩:∃u,c[i]? =some u:=⟨c[i],by simp[show i<c.size by omega]⟩
   have hu:c.getD i undef=u:=by simp[Array.getD_eq_getD_getElem?,hc]
   exact⟨u,by simp[execOp,Instr.extract,he,hc],hu▸hh i v hv⟩
def InR:IntKind→Int→Prop
 | .i64,n=> -9223372036854775808≤n∧n≤9223372036854775807
 | .u8,n=>0≤n∧n≤255
 | .i32,n=> -2147483648≤n∧n≤2147483647
 | .u32,n=>0≤n∧n≤4294967295
 | .u64,n=>0≤n∧n≤18446744073709551615
 | .i8,n=> -128≤n∧n≤127
 | .i16,n=> -32768≤n∧n≤32767
 | .u16,n=>0≤n∧n≤65535
theorem wrap_in {k:IntKind} {n:Int} (h:InR k n):k.wrap n=n:=by
 cases k<;>first
  |exact IntWalk.i64_in n h
  |exact IntWalk.u8_in n h
  |exact IntWalk.i32_in n h
  |exact IntWalk.u32_in n h
  |exact IntWalk.u64_in n h
  |exact IntWalk.i8_in n h
  |exact IntWalk.i16_in n h
  |exact IntWalk.u16_in n h
theorem stp_int2 {op:BinOp} {tx ty:Nat} {x y:Operand} {k:IntKind} {m n:Int} {v:Value} (hx:opv (look st.tm) x= .s (.int k m)) (hy:opv (look st.tm) y= .s (.int k n))
  (H:∀w,(binOp op tx (.int k m) (.int k n)).run P w= .ok v w):Stp P st (.binOp op tx x y ty) (.s v) [] [] []:=
 stp_val fun o X tm h w β a ho hg _ _ Ht=>by
  obtain⟨dst,op',type,pos,after,guard⟩:=o
  dsimp only at ho;subst ho
  have h1:=arg_s Ht hg (x:=x) (by simp[Op.operands]) hx
  have h2:=arg_s Ht hg (x:=y) (by simp[Op.operands]) hy
  refine⟨v,?_,.fz _ _ (.s v)⟩
  have hgd:(eqGuard op tx x y (.int k m) (.int k n)).run P w= .ok () w:=by
   unfold eqGuard;cases op<;>rfl
  simp only[execOp,h1,h2,Sem.run_bind,hgd,Result.andThen_ok,H,Sem.run_pure]
section
variable {tx ty:Nat} {x y:Operand} {k:IntKind} {m n:Int} (hx:opv (look st.tm) x= .s (.int k m)) (hy:opv (look st.tm) y= .s (.int k n))
include hx hy
theorem stp_add (hr:InR k (m+n)):Stp P st (.binOp .add tx x y ty) (.s (.int k (m+n))) [] [] []:=stp_int2 hx hy fun w=>by simp[binOp,Op.intArith,wrap_in hr]
theorem stp_sub (hr:InR k (m-n)):Stp P st (.binOp .sub tx x y ty) (.s (.int k (m-n))) [] [] []:=stp_int2 hx hy fun w=>by simp[binOp,Op.intArith,wrap_in hr]
theorem stp_mul (hr:InR k (m*n)):Stp P st (.binOp .mul tx x y ty) (.s (.int k (m*n))) [] [] []:=stp_int2 hx hy fun w=>by simp[binOp,Op.intArith,wrap_in hr]
theorem stp_quo (hr:InR k (m.tdiv n)) (h0:n≠0):Stp P st (.binOp .quo tx x y ty) (.s (.int k (m.tdiv n))) [] [] []:=stp_int2 hx hy fun w=>by simp[binOp,Op.intDiv,h0,wrap_in hr]
theorem stp_rem (h0:n≠0):Stp P st (.binOp .rem tx x y ty) (.s (.int k (m.tmod n))) [] [] []:=stp_int2 hx hy fun w=>by simp[binOp,Op.intDiv,h0]
theorem stp_and:Stp P st (.binOp .and tx x y ty) (.s (.int k (k.wrap (BitVec.ofInt k.bits m &&& BitVec.ofInt k.bits n).toNat))) [] [] []:=stp_int2 hx hy fun w=>by simp only[binOp,Op.intBits];simp
theorem stp_or:Stp P st (.binOp .or tx x y ty) (.s (.int k (k.wrap (BitVec.ofInt k.bits m ||| BitVec.ofInt k.bits n).toNat))) [] [] []:=stp_int2 hx hy fun w=>by simp only[binOp,Op.intBits];simp
theorem stp_xor:Stp P st (.binOp .xor tx x y ty) (.s (.int k (k.wrap (BitVec.ofInt k.bits m ^^^ BitVec.ofInt k.bits n).toNat))) [] [] []:=stp_int2 hx hy fun w=>by simp only[binOp,Op.intBits];simp
theorem stp_andNot:Stp P st (.binOp .andNot tx x y ty) (.s (.int k (k.wrap (BitVec.ofInt k.bits m &&& ~~~BitVec.ofInt k.bits n).toNat))) [] [] []:=stp_int2 hx hy fun w=>by simp only[binOp,Op.intBits];simp
theorem stp_eql:Stp P st (.binOp .eql tx x y ty) (.s (.bool (m==n))) [] [] []:=stp_int2 hx hy fun w=>by simp[binOp,Op.intCmp]
theorem stp_neq:Stp P st (.binOp .neq tx x y ty) (.s (.bool (m != n))) [] [] []:=stp_int2 hx hy fun w=>by simp[binOp,Op.intCmp]
theorem stp_lss:Stp P st (.binOp .lss tx x y ty) (.s (.bool (decide (m<n)))) [] [] []:=stp_int2 hx hy fun w=>by simp[binOp,Op.intCmp]
theorem stp_leq:Stp P st (.binOp .leq tx x y ty) (.s (.bool (decide (m≤n)))) [] [] []:=stp_int2 hx hy fun w=>by simp[binOp,Op.intCmp]
theorem stp_gtr:Stp P st (.binOp .gtr tx x y ty) (.s (.bool (decide (n<m)))) [] [] []:=stp_int2 hx hy fun w=>by simp[binOp,Op.intCmp]
theorem stp_geq:Stp P st (.binOp .geq tx x y ty) (.s (.bool (decide (n≤m)))) [] [] []:=stp_int2 hx hy fun w=>by simp[binOp,Op.intCmp]
end
theorem stp_shift {op:BinOp} {tx ty:Nat} {x y:Operand} {k k':IntKind} {m n:Int} {v:Int} (hop:op= .shl∧v=k.wrap (m*2 ^ (min n.toNat k.bits))∨op= .shr∧v=m.fdiv (2 ^ (min n.toNat k.bits)))
  (hx:opv (look st.tm) x= .s (.int k m)) (hy:opv (look st.tm) y= .s (.int k' n)) (h0:0≤n):Stp P st (.binOp op tx x y ty) (.s (.int k v)) [] [] []:=
 stp_val fun o X tm h w β a ho hg _ _ Ht=>by
  obtain⟨dst,op',type,pos,after,guard⟩:=o
  dsimp only at ho;subst ho
  have h1:=arg_s Ht hg (x:=x) (by simp[Op.operands]) hx
  have h2:=arg_s Ht hg (x:=y) (by simp[Op.operands]) hy
  have h3:¬n<0:=by omega
  refine⟨.int k v,?_,.fz _ _ (.s _)⟩
  rcases hop with⟨rfl,rfl⟩|⟨rfl,rfl⟩<;>simp[execOp,h1,h2,eqGuard,binOp,Op.shift,h3]
theorem stp_not {tx:Nat} {x:Operand} {b:Bool} (hx:opv (look st.tm) x= .s (.bool b)):Stp P st (.unOp .not tx x) (.s (.bool !b)) [] [] []:=
 stp_val fun o X tm h w β a ho hg _ _ Ht=>by
  obtain⟨dst,op',type,pos,after,guard⟩:=o
  dsimp only at ho;subst ho
  have h1:=arg_s Ht hg (x:=x) (by simp[Op.operands]) hx
  exact⟨_,by simp[execOp,h1,Op.unary],.fz _ _ (.s _)⟩
theorem stp_neg {tx:Nat} {x:Operand} {k:IntKind} {n:Int} (hx:opv (look st.tm) x= .s (.int k n)) (hr:InR k (-n)):Stp P st (.unOp .neg tx x) (.s (.int k (-n))) [] [] []:=
 stp_val fun o X tm h w β a ho hg _ _ Ht=>by
  obtain⟨dst,op',type,pos,after,guard⟩:=o
  dsimp only at ho;subst ho
  have h1:=arg_s Ht hg (x:=x) (by simp[Op.operands]) hx
  exact⟨.int k (-n),by simp[execOp,h1,Op.unary,Op.intArith,wrap_in hr],.fz _ _ (.s _)⟩
theorem stp_conv {src dst:Nat} {x:Operand} {k k':IntKind} {n:Int} {ts td:TI} (hP:TOK P TT) (hs:TT[src]? =some ts) (hd:TT[dst]? =some td) (hk:td.d= .int k') (hx:opv (look st.tm) x= .s (.int k n)):
  Stp P st (.convert src dst x) (.s (.int k' (k'.wrap n))) [] [] []:=
 stp_val fun o X tm h w β a ho hg _ _ Ht=>by
  obtain⟨dst',op',type,pos,after,guard⟩:=o
  dsimp only at ho;subst ho
  have h1:=arg_s Ht hg (x:=x) (by simp[Op.operands]) hx
  obtain⟨u,hu,_⟩:=run_under (hP _ _ hs) w
  obtain⟨u',hu',hd'⟩:=run_under (hP _ _ hd) w
  obtain rfl:=td_int (hd'.trans hk)
  exact⟨.int k' (k'.wrap n),by simp[execOp,convert,h1,hu,hu',Conv.intToInt],.fz _ _ (.s _)⟩
theorem stp_bool2 {op:BinOp} {tx ty:Nat} {x y:Operand} {p q:Bool} {v:Bool} {ti:TI} (hP:TOK P TT) (ht:TT[tx]? =some ti) (hd:ti.d= .bool) (hx:opv (look st.tm) x= .s (.bool p)) (hy:opv (look st.tm) y= .s (.bool q))
  (hop:op= .eql∧v=(p==q)∨op= .neq∧v=(p != q)):Stp P st (.binOp op tx x y ty) (.s (.bool v)) [] [] []:=
 stp_val fun o X tm h w β a ho hg _ _ Ht=>by
  obtain⟨dst,op',type,pos,after,guard⟩:=o
  dsimp only at ho;subst ho
  have h1:=arg_s Ht hg (x:=x) (by simp[Op.operands]) hx
  have h2:=arg_s Ht hg (x:=y) (by simp[Op.operands]) hy
  obtain⟨u,hu,hd'⟩:=run_under (hP _ _ ht) w
  obtain rfl:=td_bool (hd'.trans hd)
  have he:(Op.equal tx (.bool p) (.bool q)).run P w= .ok (p==q) w:=by
   show(Op.equalIn (9999+1) tx (.bool p) (.bool q)).run P w=_
   unfold Op.equalIn
   simp[hu]
  refine⟨.bool v,?_,.fz _ _ (.s _)⟩
  rcases hop with⟨rfl,rfl⟩|⟨rfl,rfl⟩<;>simp[execOp,h1,h2,eqGuard,binOp,he,bne]
theorem stp_makeFunc {f:Nat} {cap:Array Operand}:Stp P st (.makeFunc (.func f) #[] cap) (.fn f (cap.toList.map (opv (look st.tm)))) [] [] []:=
 stp_val fun o X tm h w β a ho hg _ _ Ht=>by
  obtain⟨dst,op',type,pos,after,guard⟩:=o
  dsimp only at ho;subst ho
  refine⟨.func (.func f) #[] (cap.map a.eval),by simp[execOp,Instr.makeFunc],.fn _ _ _ (by simp) fun i v hv=>?_⟩
  simp only[List.getElem?_map,Option.map_eq_some_iff]at hv
  obtain⟨x,hx,rfl⟩:=hv
  have:(cap.map a.eval).getD i undef=a.eval x:=by
   have:cap[i]? =some x:=by simpa using hx
   simp[Array.getD_eq_getD_getElem?,this]
  rw[this]
  refine arg Ht hg ?_ rfl
  have:x∈cap:=by
   have:=List.mem_of_getElem? hx
   simpa using this
  simp[Op.operands,this]
end ops
end
end Av
end Go.Proofs.YtaikgchmpieooaaGreat
