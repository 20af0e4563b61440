/- Part 7: contracts of the functions, and what they rest upon. -/
import Derived.Test.YtaikgchmpieooaaGreatP06
import Derived.Tactics
import Derived.Deep.LoopGhost
import Derived.TacticsIn
import Derived.OrdersIn
import Derived.RangeFuncCalls
import Derived.RangeFuncRecord
import Derived.LoopIn
namespace Go.Proofs.YtaikgchmpieooaaGreat
namespace Av
set_option linter.unusedSimpArgs false
set_option linter.unusedVariables false
def Own (β:Map) (b:Nat):Prop:=∃k n,(b,n)∈β k
abbrev GS:Nat:=1000000
def fen (ro:Option Nat):Fence:={Fence.wide with round:=ro}
structure Fr (K0:List Nat) where
 X:Nat→Prop
 w0:World
 β0:Map
 h0:Heap
 hK:∀k b n,(b,n)∈β0 k→k∈K0
 hh:∀k e,h0 k=some e→k∈K0
 ro:Option Nat
 it:Bool
 V:Nat→Prop
 J:Nat→(Nat→Prop)→(Nat→Prop)→World→Prop
 Jst:∀i O X w w' O',J i O X w→w.heap.size≤w'.heap.size→(∀b,b<w.heap.size→¬O b→w'.heap[b]? =w.heap[b]?)→(∀b,O' b→O b∨w.heap.size≤b)→(∀b,O' b→b<w'.heap.size)→w'.os=w.os→w'.tape=w.tape→w'.output=w.output→J i O' X w'
def Kind (h:Heap) (k:Nat):Ent→Prop
 | .box _=>∃cs,h k=some (.box cs)
 | .arr sz xs _=>∃xs' st,h k=some (.arr sz xs' st)∧xs.length≤xs'.length
 | .dead=>False
variable {K0:List Nat}
structure Keep (F:Fr K0) (h:Heap) (β:Map) (w:World):Prop where
 knd:∀k e,F.h0 k=some e→Kind h k e
 size:F.w0.heap.size≤w.heap.size
 keep:∀b,b<F.w0.heap.size→¬F.V b→(∀k n,(b,n)∉F.β0 k)→w.heap[b]? =F.w0.heap[b]?
 own:∀k b n,(b,n)∈β k→(∃k' n',(b,n')∈F.β0 k')∨F.w0.heap.size≤b
 pas:∀k b n,(b,n)∈F.β0 k→∃n',n≤n'∧(b,n')∈β k
 bs:∀k b n,(b,n)∈F.β0 k→bsize w b=bsize F.w0 b
 os:w.os=F.w0.os
 tape:w.tape=F.w0.tape
 output:w.output=F.w0.output
def noDead:List (Nat×Ent)→Bool
 | []=>true
 |(_,.dead)::_=>false
 |_::r=>noDead r
theorem noDead_at:∀{d:List (Nat×Ent)} {k:Nat},noDead d=true→lookE d k≠some .dead
 | [],k,_=>by simp[lookE]
 |(j,e)::r,k,h=>by
  unfold lookE
  cases e with
  |dead=>simp[noDead]at h
  |box cs=>cases Nat.beq k j<;>simp;exact noDead_at (by simpa [noDead]using h)
  |arr a b c=>cases Nat.beq k j<;>simp;exact noDead_at (by simpa [noDead]using h)
def Lives (β β':Map):Prop:=∀k b n,(b,n)∈β k→∃n',n≤n'∧(b,n')∈β' k
theorem Goes.lives {X:Nat→Prop} {w w':World} {h h':Heap} {β β':Map} (H:HOK X h β w) (G:Goes X w h β w' h' β') (hd:∀k,h' k≠some .dead):Lives β β':=by
 intro k b n hm
 cases he:h k with
 |none=>rw[H.off k he]at hm;simp at hm
 | some e=>
  rcases G.key k e he with h1|h1
  ·exact absurd h1 (hd k)
  ·cases e with
   |dead=>exact h1.elim
   |box cs=>exact⟨n,Nat.le_refl _,h1.2 b n hm⟩
   |arr sz xs st=>exact h1.2 b n hm
theorem Keep.goes {F:Fr K0} {X:Nat→Prop} {β β':Map} {w w':World} {h h':Heap} (K:Keep F h β w) (G:Goes X w h β w' h' β') (nd:∀k,h' k≠some .dead) (hl:Lives β β'):Keep F h' β' w' where
 knd k e he:=by
  have h1:=K.knd k e he
  cases e with
  |dead=>exact h1
  |box cs=>
   obtain⟨cs',h2⟩:=h1
   exact((G.key k _ h2).resolve_left (nd k)).1
  |arr sz xs st=>
   obtain⟨xs',st',h2,h3⟩:=h1
   obtain⟨xs'',st'',h4,h5⟩:=((G.key k _ h2).resolve_left (nd k)).1
   exact⟨xs'',st'',h4,Nat.le_trans h3 h5⟩
 size:=Nat.le_trans K.size G.size
 keep b hb hi hn:=by
  rw[G.keep b (Nat.lt_of_lt_of_le hb K.size),K.keep b hb hi hn]
  intro k n hm
  rcases K.own k b n hm with⟨k',n',h1⟩|h1
  ·exact hn _ _ h1
  ·omega
 own k b n hm:=by
  rcases G.own k b n hm with⟨k',n',h1⟩|h1
  ·exact K.own k' b n' h1
  ·exact .inr (Nat.le_trans K.size h1)
 pas k b n hm:=by
  obtain⟨n',h1,h2⟩:=K.pas k b n hm
  obtain⟨n'',h3,h4⟩:=hl k b n' h2
  exact⟨n'',Nat.le_trans h1 h3,h4⟩
 bs k b n hm:=by
  obtain⟨n',_,h2⟩:=K.pas k b n hm
  rw[G.bs k b n' h2,K.bs k b n hm]
 os:=G.os.trans K.os
 tape:=G.tape.trans K.tape
 output:=G.output.trans K.output
def DOK (X:Nat→Prop) (F:Fr K0) (ds:List Deferred) (w:World):Prop:=
 ∃bs:List Nat,ds=bs.map (fun b=>{target:= .collected b,args:= #[]})∧(F.it=true→bs=[])∧bs.Nodup∧∀b,b∈bs→X b∧F.w0.heap.size≤b∧w.heap[b]? =some (.deferred (some []))
theorem DOK.goes {X:Nat→Prop} {F:Fr K0} {ds:List Deferred} {w w':World} {h h':Heap} {β β':Map} (H:HOK X h β w) (D:DOK X F ds w) (G:Goes X w h β w' h' β'):DOK X F ds w':=by
 obtain⟨bs,h1,h0,h2,h3⟩:=D
 refine⟨bs,h1,h0,h2,fun b hb=>?_⟩
 obtain⟨q1,q2,q3⟩:=h3 b hb
 exact⟨q1,q2,by rw[G.keep b (H.lt b (.inl q1)) fun k n hm=>H.free k b n hm q1];exact q3⟩
theorem Fr.go {F:Fr K0} {X:Nat→Prop} {w w':World} {h h':Heap} {β β':Map} {i:Nat} (G:Goes X w h β w' h' β') (hj:F.J i (Own β) X w):F.J i (Own β') X w':=
 F.Jst i _ X w w' _ hj G.size (fun b hb hn=>G.keep b hb fun k n hm=>hn ⟨k,n,hm⟩) (fun b ⟨k,n,hm⟩=>(G.own k b n hm).imp (fun ⟨k',n',h⟩=>⟨k',n',h⟩) id) (fun b ⟨k,n,hm⟩=>G.hok.lt b (.inr ⟨k,n,hm⟩)) G.os G.tape G.output
def XOK (F:Fr K0) (X:Nat→Prop):Prop:=(∀b,F.X b→X b)∧∀b,X b→F.X b∨F.w0.heap.size≤b
structure Rel (F:Fr K0) (m:Nat) (tm:Nat→AV) (h:Heap) (a:Act) (w:World):Prop where
 ex:∃X β,XOK F X∧HOK X h β w∧(∀t,RepV w (Dom X β) h β (tm t) (a.eval (.tmp t)))∧Keep F h β w∧(∀i,tm GS= .gh i→F.J i (Own β) X w)∧DOK X F a.defers w
 nd:∀k,h k≠some .dead
 gs:m≤GS
 len:a.tmps.size=m
def RelS (F:Fr K0) (m:Nat) (st:St):Act→World→Prop:=Rel F m (look st.tm) (lookE st.h)
theorem look_cons (t:Nat) (v:AV) (tm:List (Nat×AV)) (j:Nat):look ((t,v)::tm) j=if j=t then v else look tm j:=by
 conv=>lhs;unfold look
 by_cases h:j=t
 ·subst h;simp
 ·rw[if_neg h,beq_other h];rfl
theorem lookE_cons (t:Nat) (v:Ent) (tm:List (Nat×Ent)) (j:Nat):lookE ((t,v)::tm) j=if j=t then some v else lookE tm j:=by
 conv=>lhs;unfold lookE
 by_cases h:j=t
 ·subst h;simp
 ·rw[if_neg h,beq_other h];rfl
theorem lookE_append:∀(d h:List (Nat×Ent)),lookE (d++h)=over d (lookE h)
 | [],_=>rfl
 |(k,e)::r,h=>by
  funext j
  have ih:=congrFun (lookE_append r h) j
  simp only[List.cons_append,over,lookE_cons]at*
  split
  ·rfl
  ·exact ih
theorem OpDone.wp {P:Program} {ro:Option Nat} {o:Oper} {a:Act} {w:World} {K:Act→World→Prop} {Q:Exit→Act→World→Prop} {N:Value→World→Prop} (hd:OpDone P N ((execOp a.eval o).run P w)) (h:∀c w',N c w'→K (a.put o.dst c) w'):o.wpIn (fen ro) 0 P a w K Q:=by
 have hs:(o.semAt (fen ro).round a.eval).run P w=(execOp a.eval o).run P w:=by
  show(o.semAt ro a.eval).run P w=_
  cases ro with
  |none=>rfl
  | some l=>
   by_cases hdf:∃c,o.op= .defer c
   ·exfalso
    obtain⟨c,hc⟩:=hdf
    revert hd
    unfold execOp
    rw[hc]
    simp only[Sem.run_bind]
    cases (resolve a.eval c o.type).run P w<;>simp[Result.andThen,OpDone]
   ·rw[Oper.semAt_some l _ _ fun c hc=>hdf ⟨c,hc⟩]
 refine⟨fun _ _=>trivial,?_⟩
 rw[hs]
 generalize (execOp a.eval o).run P w=r at hd
 cases r with
 |halt x w'=>exact hd.elim
 | ok n w'=>
  cases n with
  |value c=>exact h _ _ hd
  |skip=>exact h _ _ hd
  |enter f args=>
   refine⟨fun hx=>by simp[fen,Fence.wide]at hx,?_⟩
   exact callsIn_wide.2 (Calls.mono hd fun e w'' ⟨c,he,hn⟩=>by subst he;exact h _ _ hn)
  |_=>exact hd.elim
theorem Rel.put {F:Fr K0} {X:Nat→Prop} {m:Nat} {tm:Nat→AV} {h h':Heap} {a:Act} {w w':World} {β β':Map} (hX:XOK F X) (H:HOK X h β w) (hv:∀t,RepV w (Dom X β) h β (tm t) (a.eval (.tmp t))) (K:Keep F h β w) (hJ:∀i,tm GS= .gh i→F.J i (Own β) X w) (hd:DOK X F a.defers w) (gs:m≤GS) (hl:a.tmps.size=m)
  (G:Goes X w h β w' h' β') (nd:∀k,h' k≠some .dead) {v:AV} {c:Value} (hc:RepV w' (Dom X β') h' β' v c) (dst:Option Nat) (hm:∀d,dst=some d→d<m):
  Rel F m (fun t=>if dst=some t then v else tm t) h' (a.put dst c) w':=by
 refine⟨⟨X,β',hX,G.hok,fun t=>?_,K.goes G nd (G.lives H nd),fun i hi=>?_,by have:=hd.goes H G;cases dst<;>exact this⟩,nd,gs,by cases dst<;>simp[Act.put,hl]⟩
 ·split
  ·rename_i ht
   subst ht
   have:t<a.tmps.size:=by rw[hl];exact hm t rfl
   have e:(a.put (some t) c).eval (.tmp t)=c:=by simp[Act.put,Act.eval,this]
   rw[e];exact hc
  ·rename_i ht
   rw[Act.eval_put (fun d hd e=>ht (by rw[hd];injection e with e;rw[e]))]
   exact(hv t).evo G.evo
 ·rw[if_neg (fun e=>by have:=hm GS e;omega)]at hi
  exact F.go G (hJ i hi)
theorem Stp.rel {P:Program} {st:St} {o:Oper} {v:AV} {d:List (Nat×Ent)} {r nw:List Nat} (hs:Stp P st o.op v d r nw) {F:Fr K0} {m:Nat} {tm:Nat→AV} {h:Heap} {a:Act} {w:World} (H:Rel F m tm h a w)
  (h1:∀t,t∈tmpsOf o.op→tm t=look st.tm t) (h2:∀k,k∈r→h k=lookE st.h k) (h3:∀k,k∈nw→h k=none) (hd:noDead d=true) (hm:∀t,o.dst=some t→t<m) {K:Act→World→Prop} {Q:Exit→Act→World→Prop}
  (hK:∀a' w',Rel F m (fun t=>if o.dst=some t then v else tm t) (over d h) a' w'→K a' w'):o.wpIn (fen F.ro) 0 P a w K Q:=by
 obtain⟨⟨X,β,hX,HH,Ht,KK,hJ,hD⟩,nd,gs,hl⟩:=H
 refine OpDone.wp (hs.run X tm h h1 h2 h3 o a w β rfl HH Ht) ?_
 rintro c w' ⟨β',G,hc⟩
 have nd':∀k,over d h k≠some .dead:=fun k=>by
  unfold over
  split
  ·rename_i e he
   intro h4
   cases h4
   exact noDead_at hd he
  ·exact nd k
 exact hK _ _ (Rel.put hX HH Ht KK hJ hD gs hl G nd' hc o.dst hm)
theorem wpIn_loop_ghost {F:Fence} {n:Nat} {P:Program} {Q:Exit→Act→World→Prop} {a:Act} {w:World} {c:Code} (I:Nat→Act→World→Prop) (n₀:Nat) (h₀:I n₀ a w)
  (round:∀k a w,I k a w→c.wpIn F n P (Exit.then (fun a' w'=>∃k',k'<k∧I k' a' w') Q) a w):(Code.loop c).wpIn F n P Q a w:=by
 refine wpIn_loop (fun a w=>∃k,I k a w) (fun a w=>leastOf (fun k=>I k a w)) ⟨n₀,h₀⟩ ?_
 intro a w hI
 refine wpIn_mono (round _ a w (leastOf_spec hI).1) ?_
 intro e a' w' hq
 cases e with
 |normal=>
  obtain⟨n',hlt,hI'⟩:=hq
  exact show(∃n,I n a' w')∧leastOf (fun n=>I n a' w')<leastOf (fun n=>I n a w)from⟨⟨n',hI'⟩,Nat.lt_of_le_of_lt ((leastOf_spec ⟨n',hI'⟩).2 n' hI') hlt⟩
 |_=>exact hq
structure Sim (P:Program) (F:Fr K0) (m:Nat) (c:Code) (st:St) (Q:Exit→St→Prop):Prop where
 run:∀a w,RelS F m st a w→c.wpIn (fen F.ro) 0 P (fun e a' w'=>∃st',Q e st'∧RelS F m st' a' w') a w
def Ops (P:Program) (F:Fr K0) (m:Nat) (ops:Array Oper) (l:List Oper) (st:St) (Q:St→Prop):Prop:=
 ∀a w,RelS F m st a w→wpListIn (fen F.ro) 0 P ops (fun e a' w'=>e= .normal∧∃st',Q st'∧RelS F m st' a' w') l a w
section
variable {P:Program} {F:Fr K0} {m:Nat} {Q:Exit→St→Prop} {st:St}
theorem Sim.mono {c:Code} {Q':Exit→St→Prop} (h:Sim P F m c st Q) (hq:∀e s,Q e s→Q' e s):Sim P F m c st Q':=
 ⟨fun a w H=>Code.wpIn_mono (fun _ _ _ ⟨s,h1,h2⟩=>⟨s,hq _ _ h1,h2⟩) (h.run a w H)⟩
theorem sim_skip (h:Q .normal st):Sim P F m .skip st Q:=⟨fun _ _ H=>wpIn_skip ⟨st,h,H⟩⟩
theorem sim_ret (h:Q .ret st):Sim P F m .ret st Q:=⟨fun _ _ H=>wpIn_ret ⟨st,h,H⟩⟩
theorem sim_exit {id:Nat} (h:Q (.exit id) st):Sim P F m (.exit id) st Q:=⟨fun _ _ H=>wpIn_exit ⟨st,h,H⟩⟩
def thenS (P:Program) (F:Fr K0) (m:Nat) (y:Code) (Q:Exit→St→Prop):Exit→St→Prop
 | .normal,s=>Sim P F m y s Q
 |e,s=>Q e s
theorem sim_seq {x y:Code} (h:Sim P F m x st (thenS P F m y Q)):Sim P F m (.seq x y) st Q:=⟨fun a w H=>
 wpIn_seq (Code.wpIn_mono (fun e a' w' ⟨s,h1,h2⟩=>by
  cases e with
  |normal=>exact Sim.run h1 a' w' h2
  |_=>exact⟨s,h1,h2⟩) (h.run a w H))⟩
theorem sim_cond {c:Operand} {x y:Code} {t:Bool} (hc:opv (look st.tm) c= .s (.bool t)) (h1:t=true→Sim P F m x st Q) (h2:t=false→Sim P F m y st Q):Sim P F m (.cond c x y) st Q:=⟨fun a w H=>by
 have hv:a.eval c= .bool t:=by
  obtain⟨⟨_,β,_,_,Ht,_⟩,_⟩:=H
  have:=opv_rep Ht c
  rw[hc]at this
  exact this.s_inv
 exact wpIn_cond_split hv (fun h=>(h1 h).run a w H) (fun h=>(h2 h).run a w H)⟩
theorem sim_cond_true {c:Operand} {x y:Code} (hc:opv (look st.tm) c= .s (.bool true)) (h:Sim P F m x st Q):Sim P F m (.cond c x y) st Q:=sim_cond hc (fun _=>h) (fun h=>by cases h)
theorem sim_cond_false {c:Operand} {x y:Code} (hc:opv (look st.tm) c= .s (.bool false)) (h:Sim P F m y st Q):Sim P F m (.cond c x y) st Q:=sim_cond hc (fun h=>by cases h) (fun _=>h)
def inB (id:Nat) (Q:Exit→St→Prop):Exit→St→Prop
 | .exit id',s=>bif Nat.beq id' id then Q .normal s else Q (.exit id') s
 |e,s=>Q e s
theorem sim_block {id:Nat} {c:Code} (h:Sim P F m c st (inB id Q)):Sim P F m (.block id c) st Q:=⟨fun a w H=>
 wpIn_block (Code.wpIn_mono (fun e a' w' ⟨s,h1,h2⟩=>by
  cases e with
  |exit id'=>
   simp only[Exit.inBlock]
   split
   ·rename_i he;subst he;simp only[inB,beq_self',cond_true]at h1;exact⟨s,h1,h2⟩
   ·rename_i he;simp only[inB,beq_other he,cond_false]at h1;exact⟨s,h1,h2⟩
  |_=>exact⟨s,h1,h2⟩) (h.run a w H))⟩
theorem sim_region {id:Nat} {l:List Oper} (h:Ops P F m l.toArray l st (Q .normal)):Sim P F m (.region id l.toArray false) st Q:=⟨fun a w H=>
 Code.wpIn_mono (fun e a' w' ⟨he,s,h1,h2⟩=>by subst he;exact⟨s,h1,h2⟩) (wpIn_region_lit (h a w H))⟩
end
end Av
end Go.Proofs.YtaikgchmpieooaaGreat
