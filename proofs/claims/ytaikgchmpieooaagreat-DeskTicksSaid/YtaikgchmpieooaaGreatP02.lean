/- Part 2: contracts of the functions, and what they rest upon. -/
import Derived.Test.YtaikgchmpieooaaGreatP01
import Derived.Laws.MakeOwn
namespace Go.Proofs.YtaikgchmpieooaaGreat
namespace Av
set_option linter.unusedSimpArgs false
set_option linter.unusedVariables false
def upd (β:Map) (k:Nat) (l:List (Nat×Nat)):Map:=fun j=>if j=k then l else β j
theorem upd_same (β:Map) (k:Nat) (l:List (Nat×Nat)):upd β k l k=l:=by simp[upd]
theorem upd_other (β:Map) {k j:Nat} (l:List (Nat×Nat)) (h:j≠k):upd β k l j=β j:=by simp[upd,h]
theorem beq_self' (k:Nat):Nat.beq k k=true:=by simp
theorem beq_other {j k:Nat} (h:j≠k):Nat.beq j k=false:=by
 cases e:Nat.beq j k with
 |false=>rfl
 |true=>exact absurd (Nat.eq_of_beq_eq_true e) h
theorem over_same (k:Nat) (e:Ent) (h:Heap):over [(k,e)] h k=some e:=by simp[over,lookE]
theorem over_other {k j:Nat} (e:Ent) (h:Heap) (hj:j≠k):over [(k,e)] h j=h j:=by simp[over,lookE,beq_other hj]
theorem EntOK.evo {w w':World} {D D':Nat→Prop} {h h':Heap} {β β':Map} (E:Evo w D h β w' D' h' β') {k:Nat} {e:Ent} (hb:β' k=β k) (hk:∀b n,(b,n)∈β k→w'.heap[b]? =w.heap[b]?)
  (H:EntOK w D h β k e):EntOK w' D' h' β' k e:=by
 cases e with
 |dead=>exact hb.trans H
 |box cs=>
  obtain⟨b,c,el,h1,h2,h3,h4,h5⟩:=H
  exact⟨b,c,el,hb.trans h1,(hk b 0 (by rw[h1];simp)).trans h2,h3,h4,fun i v hv=>(h5 i v hv).evo E⟩
 |arr sz xs st=>
  obtain⟨h1,h2,h3,h4,h5,f,h6,h7,h8⟩:=H
  refine⟨h1,h2,by rwa [hb],h4,by rwa [hb],f,h6.evo E,h7,fun b n hm=>?_⟩
  rw[hb]at hm
  obtain⟨c,el,h9,h10⟩:=h8 b n hm
  exact⟨c,el,(hk b n hm).trans h9,h10⟩
theorem Goes.step {X:Nat→Prop} {h:Heap} {β:Map} {w w':World} (H:HOK X h β w) (k:Nat) (e':Ent) (l:List (Nat×Nat)) (size:w.heap.size≤w'.heap.size)
  (keep:∀b,b<w.heap.size→(∀n,(b,n)∉β k)→w'.heap[b]? =w.heap[b]?) (os:w'.os=w.os) (tape:w'.tape=w.tape) (output:w'.output=w.output)
  (own:∀b n,(b,n)∈l→(∃n',(b,n')∈β k)∨(w.heap.size≤b∧b<w'.heap.size)) (bs:∀b n,(b,n)∈β k→bsize w' b=bsize w b)
  (key:∀e,h k=some e→e'= .dead∨match e with
   | .dead=>False
   | .box _=>(∃cs',e'= .box cs')∧∀b n,(b,n)∈β k→(b,n)∈l
   | .arr sz xs _=>(∃xs' st',e'= .arr sz xs' st'∧xs.length≤xs'.length)∧∀b n,(b,n)∈β k→∃n',n≤n'∧(b,n')∈l)
  (ent:Evo w (Dom X β) h β w' (Dom X (upd β k l)) (over [(k,e')] h) (upd β k l)→EntOK w' (Dom X (upd β k l)) (over [(k,e')] h) (upd β k l) k e'):
  Goes X w h β w' (over [(k,e')] h) (upd β k l):=by
 have own':∀j b n,(b,n)∈upd β k l j→(∃k' n',(b,n')∈β k')∨w.heap.size≤b:=by
  intro j b n hm
  by_cases hj:j=k
  ·subst hj;rw[upd_same]at hm
   rcases own b n hm with⟨n',h1⟩|⟨h1,_⟩
   ·exact .inl ⟨_,_,h1⟩
   ·exact .inr h1
  ·rw[upd_other _ _ hj]at hm;exact .inl ⟨_,_,hm⟩
 have apart:∀j b n n',j≠k→(b,n)∈β j→(b,n')∉β k:=fun j b n n' hj h1 h2=>hj (H.disj _ _ _ _ _ h1 h2)
 have keep':∀b,b<w.heap.size→(∀k n,(b,n)∉β k)→w'.heap[b]? =w.heap[b]? :=fun b hb hn=>keep b hb (hn k)
 have bs':∀j b n,(b,n)∈β j→bsize w' b=bsize w b:=by
  intro j b n hm
  by_cases hj:j=k
  ·subst hj;exact bs b n hm
  ·unfold bsize World.shape?
   rw[keep b (H.lt b (.inr ⟨j,n,hm⟩)) fun n' h1=>apart j b n n' hj hm h1]
 have key':∀j e,h j=some e→over [(k,e')] h j=some .dead∨match e with
   | .dead=>False
   | .box _=>(∃cs',over [(k,e')] h j=some (.box cs'))∧∀b n,(b,n)∈β j→(b,n)∈upd β k l j
   | .arr sz xs _=>(∃xs' st',over [(k,e')] h j=some (.arr sz xs' st')∧xs.length≤xs'.length)∧∀b n,(b,n)∈β j→∃n',n≤n'∧(b,n')∈upd β k l j:=by
  intro j e he
  by_cases hj:j=k
  ·subst hj
   rw[over_same,upd_same]
   rcases key e he with h1|h1
   ·exact .inl (by rw[h1])
   ·cases e with
    |dead=>exact h1.elim
    |box cs=>obtain⟨⟨cs',h2⟩,h3⟩:=h1;exact .inr ⟨⟨cs',by rw[h2]⟩,h3⟩
    |arr sz xs st=>obtain⟨⟨xs',st',h2,h2'⟩,h3⟩:=h1;exact .inr ⟨⟨xs',st',by rw[h2],h2'⟩,h3⟩
  ·rw[over_other _ _ hj,upd_other _ _ hj]
   exact keyRefl h β j e he
 have E:Evo w (Dom X β) h β w' (Dom X (upd β k l)) (over [(k,e')] h) (upd β k l):=by
  refine⟨size,fun b hb hd=>?_,bs',key'⟩
  have h1:∀k n,(b,n)∉β k:=fun k n hm=>hd (.inr ⟨k,n,hm⟩)
  refine⟨keep' b hb h1,?_⟩
  rintro(hx|⟨j,n,hm⟩)
  ·exact hd (.inl hx)
  ·rcases own' j b n hm with⟨k',n',h2⟩|h2
   ·exact h1 _ _ h2
   ·omega
 refine⟨size,keep',own',bs',key',⟨fun j e he=>?_,fun j he=>?_,fun j j' b n n' h1 h2=>?_,fun j b n hm hx=>?_,fun b hd=>?_⟩,os,tape,output⟩
 ·by_cases hj:j=k
  ·subst hj
   rw[over_same]at he
   cases he
   exact ent E
  ·rw[over_other _ _ hj]at he
   exact(H.ent j e he).evo E (upd_other _ _ hj) fun b n hm=>keep b (H.lt b (.inr ⟨j,n,hm⟩)) fun n' h1=>apart j b n n' hj hm h1
 ·by_cases hj:j=k
  ·subst hj;rw[over_same]at he;cases he
  ·rw[over_other _ _ hj]at he;rw[upd_other _ _ hj];exact H.off j he
 ·by_cases hj:j=k<;>by_cases hj':j'=k
  ·rw[hj,hj']
  ·subst hj;rw[upd_same]at h1;rw[upd_other _ _ hj']at h2
   rcases own b n h1 with⟨m,h3⟩|⟨h3,_⟩
   ·exact absurd h3 (apart j' b n' m hj' h2)
   ·have:=H.lt b (.inr ⟨_,_,h2⟩);omega
  ·subst hj';rw[upd_same]at h2;rw[upd_other _ _ hj]at h1
   rcases own b n' h2 with⟨m,h3⟩|⟨h3,_⟩
   ·exact absurd h3 (apart j b n m hj h1)
   ·have:=H.lt b (.inr ⟨_,_,h1⟩);omega
  ·rw[upd_other _ _ hj]at h1;rw[upd_other _ _ hj']at h2;exact H.disj _ _ _ _ _ h1 h2
 ·by_cases hj:j=k
  ·subst hj;rw[upd_same]at hm
   rcases own b n hm with⟨m,h3⟩|⟨h3,_⟩
   ·exact H.free _ _ _ h3 hx
   ·have:=H.lt b (.inl hx);omega
  ·rw[upd_other _ _ hj]at hm;exact H.free _ _ _ hm hx
 ·rcases hd with hx|⟨j,n,hm⟩
  ·exact Nat.lt_of_lt_of_le (H.lt b (.inl hx)) size
  ·by_cases hj:j=k
   ·subst hj;rw[upd_same]at hm
    rcases own b n hm with⟨m,h3⟩|⟨_,h3⟩
    ·exact Nat.lt_of_lt_of_le (H.lt b (.inr ⟨_,_,h3⟩)) size
    ·exact h3
   ·rw[upd_other _ _ hj]at hm;exact Nat.lt_of_lt_of_le (H.lt b (.inr ⟨_,_,hm⟩)) size
theorem Goes.new {X:Nat→Prop} {h:Heap} {β:Map} {w:World} (H:HOK X h β w) {k:Nat} (hk:h k=none) (e':Ent) (n:Nat) (c:Array Value) (el:Nat)
  (ent:Evo w (Dom X β) h β (w.alloc (.cells c el)) (Dom X (upd β k [(w.heap.size,n)])) (over [(k,e')] h) (upd β k [(w.heap.size,n)])→
   EntOK (w.alloc (.cells c el)) (Dom X (upd β k [(w.heap.size,n)])) (over [(k,e')] h) (upd β k [(w.heap.size,n)]) k e'):
  Goes X w h β (w.alloc (.cells c el)) (over [(k,e')] h) (upd β k [(w.heap.size,n)]):=by
 refine Goes.step H k e' _ (by simp) (fun b hb _=>heap_alloc_old w _ b hb) rfl rfl rfl (fun b n hm=>?_) (fun b n hm=>?_) (fun e he=>?_) ent
 ·simp at hm;refine .inr ?_;simp[hm.1]
 ·rw[H.off k hk]at hm;simp at hm
 ·rw[hk]at he;cases he
theorem Goes.newBox {X:Nat→Prop} {h:Heap} {β:Map} {w:World} (H:HOK X h β w) {k:Nat} (hk:h k=none) (c:Array Value) (el:Nat) (cs:List AV) (hl:c.size=cs.length) (h1:∀i,i<c.size→(c.getD i undef).oneCell'=true)
  (hv:∀(i:Nat) v,cs[i]? =some v→RepV w (Dom X β) h β v (c.getD i undef)):
  ∃β',Goes X w h β (w.alloc (.cells c el)) (over [(k,.box cs)] h) β'∧RepV (w.alloc (.cells c el)) (Dom X β') (over [(k,.box cs)] h) β' (.ptr k 0 0) (.pointer (some ⟨w.heap.size,0,none⟩)):=
 ⟨_,Goes.new H hk (.box cs) 0 c el fun E=>⟨_,c,el,upd_same _ _ _,heap_alloc_new w _,hl,h1,fun i v hx=>(hv i v hx).evo E⟩,
  .pbox k 0 cs w.heap.size 0 (over_same _ _ _) (by rw[upd_same];simp)⟩
def OneA (c:Array Value):Prop:=∀v,v∈c.toList→v.oneCell'=true
theorem OneA.get {c:Array Value} (h:OneA c):∀i,i<c.size→(c.getD i undef).oneCell'=true:=fun i hi=>by
 have e:c.getD i undef=c[i]:=by simp[Array.getD,hi]
 rw[e]
 exact h _ (by simp)
theorem OneA.of {c:Array Value} (h:∀i,i<c.size→(c.getD i undef).oneCell'=true):OneA c:=fun v hv=>by
 obtain⟨i,hi,rfl⟩:=List.getElem_of_mem hv
 have hi':i<c.size:=by simpa using hi
 have:=h i hi'
 simpa [Array.getD,hi']using this
theorem OneA.app {a b:Array Value} (ha:OneA a) (hb:OneA b):OneA (a++b):=fun v hv=>by
 rw[Array.toList_append,List.mem_append]at hv
 exact hv.elim (ha v) (hb v)
theorem OneA.arr {l:List Value} (h:∀v∈l,v.oneCell'=true):OneA l.toArray:=fun v hv=>h v (by simpa using hv)
theorem get!_mem {z:Array Value} {i:Nat} (h:i<z.size):z[i]! ∈z.toList:=by
 rw[getElem!_pos z i h]
 simp
theorem OneA.zero {z:Array Value} (h:∀v,v∈z.toList→v.oneCell'=true) (n:Nat):OneA (Builtin.zeroCells z n):=fun v hv=>by
 simp only[Builtin.zeroCells,Array.toList_map,Array.toList_range,List.mem_map,List.mem_range]at hv
 obtain⟨i,hi,rfl⟩:=hv
 have hz:0<z.size:=by
  rcases Nat.eq_zero_or_pos z.size with h0|h0
  ·rw[h0,Nat.mul_zero]at hi;omega
  ·exact h0
 exact h _ (get!_mem (Nat.mod_lt _ hz))
theorem one_full {c:Array Value} {n sz:Nat} {f:Nat→Nat→Value} (hs:c.size=n*sz) (hp:1≤sz) (hf:∀i j,i<n→j<sz→c[i*sz+j]? =some (f i j)) (h1:∀i j,i<n→j<sz→(f i j).oneCell'=true):∀i,i<c.size→(c.getD i undef).oneCell'=true:=fun i hi=>by
 have hm:i % sz<sz:=Nat.mod_lt _ (by omega)
 have hd:i/sz<n:=by rw[Nat.div_lt_iff_lt_mul (by omega)];omega
 have e:i/sz*sz+i % sz=i:=by rw[Nat.mul_comm];exact Nat.div_add_mod i sz
 have h2:=hf (i/sz) (i % sz) hd hm
 rw[e]at h2
 have e2:c.getD i undef=f (i/sz) (i % sz):=by simp[Array.getD_eq_getD_getElem?,h2]
 rw[e2]
 exact h1 _ _ hd hm
theorem OneA.made {z:Array Value} (h:∀v,v∈z.toList→v.oneCell'=true) (hz:0<z.size) (n:Nat):OneA (madeCells z n):=fun v hv=>by
 simp only[madeCells,Array.toList_map,Array.toList_range,List.mem_map,List.mem_range]at hv
 obtain⟨i,hi,rfl⟩:=hv
 exact h _ (get!_mem (Nat.mod_lt _ hz))
theorem Goes.newArr {X:Nat→Prop} {h:Heap} {β:Map} {w:World} (H:HOK X h β w) {k:Nat} (hk:h k=none) (c:Array Value) (el sz:Nat) (xs:List AV) (cap:Nat) (f:Nat→Nat→Value) (hp:1≤sz) (hm:xs.length≤maxN)
  (hcap:xs.length≤cap) (hc:cap*sz=c.size) (hall:∀i,i<c.size→(c.getD i undef).oneCell'=true) (hw:∀(i:Nat) (x:AV),xs[i]? =some x→x.cells.length=sz) (hf:∀i j,i<xs.length→j<sz→c[i*sz+j]? =some (f i j)) (h1:∀i j,i<xs.length→j<sz→(f i j).oneCell'=true)
  (hv:∀(i:Nat) (x:AV) (j:Nat) v,xs[i]? =some x→x.cells[j]? =some v→RepF w (Dom X β) v (f i j)):
  ∃β',Goes X w h β (w.alloc (.cells c el)) (over [(k,.arr sz xs false)] h) β'∧RepV (w.alloc (.cells c el)) (Dom X β') (over [(k,.arr sz xs false)] h) β' (.ref k 0 xs.length) (.slice (some ⟨w.heap.size,0,none⟩) xs.length cap):=by
 refine⟨_,Goes.new H hk (.arr sz xs false) xs.length c el fun E=>⟨hp,hm,fun _=>by rw[upd_same];simp,hw,fun b n r hr=>?_,f,.ofF fun i x j v hx hy=>(hv i x j v hx hy).evo E.size E.fz,h1,fun b n hb=>?_⟩,?_⟩
 ·rw[upd_same]at hr
  simp at hr
  exact⟨hr.1.2.symm,fun _ b' n' hm=>by rw[hr.2]at hm;simp at hm,fun b' n' hm=>by rw[hr.2]at hm;simp at hm⟩
 ·rw[upd_same]at hb
  simp at hb
  obtain⟨rfl,rfl⟩:=hb
  exact⟨c,el,heap_alloc_new w _,Nat.le_trans (Nat.mul_le_mul_right _ hcap) (Nat.le_of_eq hc),hf,hall⟩
 ·have:=RepV.ref (w:=w.alloc (.cells c el)) (D:=Dom X (upd β k [(w.heap.size,xs.length)])) (h:=over [(k,.arr sz xs false)] h) (β:=upd β k [(w.heap.size,xs.length)]) k 0 xs.length sz xs false w.heap.size xs.length cap (over_same _ _ _)
   (by rw[upd_same];simp) (by omega) hcap (by
    have:bsize (w.alloc (.cells c el)) w.heap.size=c.size:=by
     unfold bsize World.shape?
     rw[heap_alloc_new]
     rfl
    rw[this];simpa using hc)
  simpa using this
theorem Goes.newArrN {X:Nat→Prop} {h:Heap} {β:Map} {w:World} (H:HOK X h β w) {k:Nat} (hk:h k=none) (c:Array Value) (el sz:Nat) (xs:List AV) (cap:Nat) (f:Nat→Nat→Value) (hp:1≤sz) (hm:xs.length≤maxN)
  (hcap:xs.length≤cap) (hc:cap*sz=c.size) (hall:∀i,i<c.size→(c.getD i undef).oneCell'=true) (hw:∀(i:Nat) (x:AV),xs[i]? =some x→x.cells.length=sz) (hf:∀i j,i<xs.length→j<sz→c[i*sz+j]? =some (f i j)) (h1:∀i j,i<xs.length→j<sz→(f i j).oneCell'=true)
  (hv:∀(i:Nat) (x:AV) (j:Nat) v,xs[i]? =some x→x.cells[j]? =some v→RepV w (Dom X β) h β v (f i j)):
  ∃β',Goes X w h β (w.alloc (.cells c el)) (over [(k,.arr sz xs ⟨false,true⟩)] h) β'∧RepV (w.alloc (.cells c el)) (Dom X β') (over [(k,.arr sz xs ⟨false,true⟩)] h) β' (.ref k 0 xs.length) (.slice (some ⟨w.heap.size,0,none⟩) xs.length cap):=by
 refine⟨_,Goes.new H hk (.arr sz xs ⟨false,true⟩) xs.length c el fun E=>⟨hp,hm,fun _=>by rw[upd_same];simp,hw,fun b n r hr=>?_,f,fun i x j v hx hy=>⟨(hv i x j v hx hy).evo E,fun h=>by cases h⟩,h1,fun b n hb=>?_⟩,?_⟩
 ·rw[upd_same]at hr
  simp at hr
  exact⟨hr.1.2.symm,fun _ b' n' hm=>by rw[hr.2]at hm;simp at hm,fun b' n' hm=>by rw[hr.2]at hm;simp at hm⟩
 ·rw[upd_same]at hb
  simp at hb
  obtain⟨rfl,rfl⟩:=hb
  exact⟨c,el,heap_alloc_new w _,Nat.le_trans (Nat.mul_le_mul_right _ hcap) (Nat.le_of_eq hc),hf,hall⟩
 ·have:=RepV.ref (w:=w.alloc (.cells c el)) (D:=Dom X (upd β k [(w.heap.size,xs.length)])) (h:=over [(k,.arr sz xs ⟨false,true⟩)] h) (β:=upd β k [(w.heap.size,xs.length)]) k 0 xs.length sz xs ⟨false,true⟩ w.heap.size xs.length cap (over_same _ _ _)
   (by rw[upd_same];simp) (by omega) hcap (by
    have:bsize (w.alloc (.cells c el)) w.heap.size=c.size:=by
     unfold bsize World.shape?
     rw[heap_alloc_new]
     rfl
    rw[this];simpa using hc)
  simpa using this
theorem Goes.newFz {X:Nat→Prop} {h:Heap} {β:Map} {w:World} (H:HOK X h β w) (c:Array Value) (el:Nat):Goes X w h β (w.alloc (.cells c el)) h β:=by
 have hold:∀b,b<w.heap.size→(w.alloc (.cells c el)).heap[b]? =w.heap[b]? :=fun b hb=>heap_alloc_old w _ b hb
 have hbs:∀k b n,(b,n)∈β k→bsize (w.alloc (.cells c el)) b=bsize w b:=fun k b n hm=>by
  unfold bsize World.shape?
  rw[hold b (H.lt b (.inr ⟨k,n,hm⟩))]
 have E:Evo w (Dom X β) h β (w.alloc (.cells c el)) (Dom X β) h β:=⟨by simp,fun b hb hd=>⟨hold b hb,hd⟩,hbs,keyRefl h β⟩
 refine⟨by simp,fun b hb _=>hold b hb,fun k _ n hm=> .inl ⟨k,n,hm⟩,hbs,keyRefl h β,⟨fun k e he=>(H.ent k e he).evo E rfl fun b n hm=>hold b (H.lt b (.inr ⟨k,n,hm⟩)),H.off,H.disj,H.free,fun b hd=>?_⟩,rfl,rfl,rfl⟩
 exact Nat.lt_of_lt_of_le (H.lt b hd) (by simp)
theorem RepF.newArr {X:Nat→Prop} {h:Heap} {β:Map} {w:World} (H:HOK X h β w) (c:Array Value) (el sz:Nat) (xs:List AV) (cap:Nat) (f:Nat→Nat→Value) (hp:1≤sz) (hm:xs.length≤maxN)
  (hcap:xs.length≤cap) (hw:∀(i:Nat) (x:AV),xs[i]? =some x→x.cells.length=sz) (hf:∀i j,i<xs.length→j<sz→c[i*sz+j]? =some (f i j)) (h1:∀i j,i<xs.length→j<sz→(f i j).oneCell'=true)
  (hv:∀(i:Nat) (x:AV) (j:Nat) v,xs[i]? =some x→x.cells[j]? =some v→RepF w (Dom X β) v (f i j)):
  RepF (w.alloc (.cells c el)) (Dom X β) (.sl true xs) (.slice (some ⟨w.heap.size,0,none⟩) xs.length cap):=by
 have E:=(Goes.newFz H c el).evo
 by_cases hx:xs=[]
 ·subst hx
  exact .nil1 _ _
 ·refine .sl true xs w.heap.size 0 sz cap f hx ⟨by simp,fun hd=>?_,hp,hm,hw,fun i j hi hj=>?_,h1⟩ hcap fun i x j v hx hy=>(hv i x j v hx hy).evo E.size E.fz
  ·have:=H.lt _ hd;omega
  ·rw[Nat.zero_add]
   simp only[World.cell?,heap_alloc_new]
   exact hf i j hi hj
theorem RepF.wkF {w:World} {D:Nat→Prop} {nn:Bool} {xs:List AV} {c:Value} (h:RepF w D (.sl nn xs) c):RepF w D (.sl false xs) c:=by
 cases h with
 |nil a cap=>exact .nil a cap
 |nil1 a cap=>exact .nil _ cap
 |sl nn xs b o sz cap f hx hL hc hh=>exact .sl false xs b o sz cap f hx hL hc hh
end Av
end Go.Proofs.YtaikgchmpieooaaGreat
