/- Part 10: contracts of the functions, and what they rest upon. -/
import Derived.Test.YtaikgchmpieooaaGreatP09
import Derived.RangeFuncLeaves
namespace Go.Proofs.YtaikgchmpieooaaGreat
namespace Av
set_option linter.unusedSimpArgs false
set_option linter.unusedVariables false
section ops
variable {P:Program} {K0:List Nat} {F:Fr K0} {m:Nat} {ops:Array Oper} {rest:List Oper} {Q:St→Prop} {tm:List (Nat×AV)} {h:List (Nat×Ent)}
theorem ops_nil {st:St} (hq:Q st):Ops P F m ops [] st Q:=fun _ _ H=>⟨rfl,st,hq,H⟩
theorem ops_step {o:Oper} {st:St} {v:AV} {d:List (Nat×Ent)} {r nw:List Nat} {st':St} (hg:o.guard=none) (hs:Stp P st o.op v d r nw) (hn:∀k,k∈nw→lookE st.h k=none) (hd:noDead d=true) (hm:∀t,o.dst=some t→t<m)
  (he:∀t,look st'.tm t=if o.dst=some t then v else look st.tm t) (hh:lookE st'.h=over d (lookE st.h)) (hk:Ops P F m ops rest st' Q):Ops P F m ops (o::rest) st Q:=fun a w H=>
 wpListIn_plain hg fun K hK=>hs.rel H (fun _ _=>rfl) (fun _ _=>rfl) hn hd hm fun a' w' H'=>hK _ _ (hk a' w' (by
  have e1:look st'.tm=fun t=>if o.dst=some t then v else look st.tm t:=funext he
  unfold RelS
  rw[e1,hh]
  exact H'))
section
variable {op:Op} {ty:Nat} {pos:String} {after:Array Edge} {t:Nat} {v:AV} {r nw:List Nat}
end
def gslot (ops:Array Oper) (j:Nat):Option Nat:=(ops[j]?).bind (·.dst)
def gw (v:Value) (b:Bool):Bool:=match v with
 | .bool c=>c==b
 |_=>false
theorem guard_wanted {o:Oper} {j t:Nat} {b:Bool} {v:Value} (hg:o.guard=some (j,b)) (ht:gslot ops j=some t) {a:Act} (hv:a.eval (.tmp t)=v):Region.wanted o (yielded ops a.tmps)=gw v b:=by
 subst hv
 simp only[Region.wanted,hg,yielded,show(ops[j]?).bind (·.dst)=some t from ht,Option.bind_some,Act.eval,Array.getD_eq_getD_getElem?]
 cases h:a.tmps[t]? with
 |none=>simp[undef,gw]
 |some u=>cases u<;>simp[gw]
theorem slot_val {st:St} {a:Act} {w:World} (H:RelS F m st a w) {t:Nat} {c:Value} (hv:look st.tm t= .s c):a.eval (.tmp t)=c:=by
 obtain⟨⟨_,β,_,_,Ht,_⟩,_⟩:=H
 have:=Ht t
 rw[hv]at this
 exact this.s_inv
theorem ops_on {d:Option Nat} {op:Op} {ty:Nat} {pos:String} {after:Array Edge} {j t:Nat} {b:Bool} {st:St} (ht:gslot ops j=some t) (hv:look st.tm t= .s (.bool b)) (hk:Ops P F m ops (⟨d,op,ty,pos,after,none⟩::rest) st Q):
  Ops P F m ops (⟨d,op,ty,pos,after,some (j,b)⟩::rest) st Q:=fun a w H=>by
 have hw:=guard_wanted (o:=⟨d,op,ty,pos,after,some (j,b)⟩) rfl ht (slot_val H hv)
 have:=hk a w H
 unfold wpListIn at this⊢
 rw[if_pos (by rw[hw];simp[gw])]
 rw[if_pos (by simp[Region.wanted])]at this
 exact this
theorem Rel.bot {tm:Nat→AV} {h:Heap} {a:Act} {w:World} (H:Rel F m tm h a w) (dst:Option Nat) (hm:∀t,dst=some t→t<m):Rel F m (fun t=>if dst=some t then .s undef else tm t) h (a.put dst undef) w:=by
 obtain⟨⟨X,β,hX,HH,Ht,KK,hJ,hD⟩,nd,gs,hl⟩:=H
 exact Rel.put hX HH Ht KK hJ hD gs hl (Goes.refl HH) nd (.fz _ _ (.s _)) dst hm
theorem ops_off {d:Nat} {op:Op} {ty:Nat} {pos:String} {after:Array Edge} {j t:Nat} {b:Bool} {c:Value} (ht:gslot ops j=some t) (hv:look tm t= .s c) (hc:gw c b=false) (hm:Nat.blt d m=true) (hk:Ops P F m ops rest ⟨(d,.s undef)::tm,h⟩ Q):
  Ops P F m ops (⟨some d,op,ty,pos,after,some (j,b)⟩::rest) ⟨tm,h⟩ Q:=fun a w H=>by
 have hw:=guard_wanted (o:=⟨some d,op,ty,pos,after,some (j,b)⟩) rfl ht (slot_val H hv)
 unfold wpListIn
 rw[if_neg (by rw[hw,hc];simp)]
 refine⟨fun _ _=>trivial,hk _ _ ?_⟩
 have:=Rel.bot H (some d) (fun j hj=>by cases hj;exact Nat.le_of_ble_eq_true hm)
 have e1:look ((d,.s undef)::tm)=fun t=>if some d=some t then AV.s undef else look tm t:=funext fun t=>by rw[look_cons];simp[eq_comm]
 unfold RelS
 rw[e1]
 exact this
theorem ops_tell {st:St} {l:List Oper} {t:Nat} {c c':Bool} (hv:look st.tm t= .s (.bool c)) (hc:c=c') (hk:Ops P F m ops l ⟨(t,.s (.bool c'))::st.tm,st.h⟩ Q):Ops P F m ops l st Q:=fun a w H=>hk a w (by
 subst hc
 have e1:look ((t,.s (.bool c))::st.tm)=look st.tm:=funext fun j=>by
  rw[look_cons]
  split
  ·rename_i h;subst h;exact hv.symm
  ·rfl
 unfold RelS
 dsimp only
 rw[e1]
 exact H)
theorem ops_split {st:St} {l:List Oper} {t:Nat} {c:Bool} (hv:look st.tm t= .s (.bool c)) (h1:c=true→Ops P F m ops l ⟨(t,.s (.bool true))::st.tm,st.h⟩ Q) (h2:c=false→Ops P F m ops l ⟨(t,.s (.bool false))::st.tm,st.h⟩ Q):Ops P F m ops l st Q:=by
 cases c with
 |true=>exact ops_tell hv rfl (h1 rfl)
 |false=>exact ops_tell hv rfl (h2 rfl)
end ops
section code
variable {P:Program} {K0:List Nat} {F:Fr K0} {m:Nat} {Q:Exit→St→Prop} {st:St}
theorem sim_restr {c:Code} (K ts:List Nat) (hK:K0.all (K.contains ·)=true) {st':St} (he:restr K ts st=st') (h:Sim P F m c st' Q):Sim P F m c st Q:=⟨fun a w H=>h.run a w (he▸RelS.restr H K ts hK)⟩
theorem sim_loop_r {c:Code} (I:Nat→St→Prop) (n:Nat) (K ts:List Nat) (hK:K0.all (K.contains ·)=true) (h0:I n (restr K ts st)) (round:∀n st,I n st→Sim P F m c st (fun e s=>match e with
  | .normal=>∃n',n'<n∧I n' (restr K ts s)
  |e=>Q e s)):Sim P F m (.loop c) st Q:=by
 refine sim_restr K ts hK rfl ⟨fun a w H=>?_⟩
 refine wpIn_loop_ghost (fun n a w=>∃st,I n st∧RelS F m st a w) n ⟨_,h0,H⟩ fun n a w ⟨st,hI,hR⟩=>?_
 refine Code.wpIn_mono (fun e a' w' ⟨s,h1,h2⟩=>?_) ((round n st hI).run a w hR)
 cases e with
 |normal=>
  obtain⟨n',hlt,hI'⟩:=h1
  exact⟨n',hlt,_,hI',RelS.restr h2 K ts hK⟩
 |_=>exact⟨s,h1,h2⟩
end code
def retv (TT:List TI) (st:St):List ResultVar→Option (List AV)
 | []=>some []
 | .tmp t::r=>(retv TT st r).map (look st.tm t:: ·)
 | .cell a T::r=>match look st.tm a with
  | .ptr k 0 off=>match lookE st.h k,TT[T]? with
   |some (.box cs),some ti=>match ldv ti.d.agg ti.size cs off with
    |some v=>(retv TT st r).map (v:: ·)
    |none=>none
   |_,_=>none
  |_=>none
def ret1:List AV→AV
 | [v]=>v
 |vs=> .tup vs
def resF (tmps:Array Value):ResultVar→Sem Value
 | .tmp t=>pure (tmps.getD t undef)
 | .cell b t=>do loadVar t (←asAddr (tmps.getD b undef))
theorem retv_run {P:Program} {TT:List TI} (hP:TOK P TT) {st:St} {X:Nat→Prop} {β:Map} {w:World} {a:Act} (H:HOK X (lookE st.h) β w) (Ht:∀t,RepV w (Dom X β) (lookE st.h) β (look st.tm t) (a.eval (.tmp t))):
  ∀(l:List ResultVar) (vs:List AV),retv TT st l=some vs→∃cs:List Value,(l.mapM (resF a.tmps)).run P w= .ok cs w∧cs.length=vs.length∧
   ∀(i:Nat) v,vs[i]? =some v→RepV w (Dom X β) (lookE st.h) β v (cs.getD i undef)
 | [],vs,h=>by cases h;exact⟨[],rfl,rfl,fun i v hv=>by simp at hv⟩
 | .tmp t::r,vs,h=>by
  simp only[retv,Option.map_eq_some_iff]at h
  obtain⟨vs',h1,rfl⟩:=h
  obtain⟨cs,h2,h3,h4⟩:=retv_run hP H Ht r vs' h1
  refine⟨a.tmps.getD t undef::cs,by simp only[List.mapM_cons,resF,Sem.run_bind,Sem.run_pure,Result.andThen_ok,h2],by simp[h3],fun i v hv=>?_⟩
  cases i with
  |zero=>simp at hv;subst hv;exact Ht t
  |succ i=>simpa using h4 i v (by simpa using hv)
 | .cell b T::r,vs,h=>by
  simp only[retv]at h
  split at h
  ·rename_i k off hb
   split at h
   ·rename_i cs ti hk hT
    split at h
    ·rename_i v hv
     rw[Option.map_eq_some_iff]at h
     obtain⟨vs',h1,rfl⟩:=h
     obtain⟨cs',h2,h3,h4⟩:=retv_run hP H Ht r vs' h1
     have hp:=Ht b
     rw[hb]at hp
     obtain⟨bl,hc,_,hR⟩:=row_box H hk hp
     obtain⟨c,h5,h6⟩:=run_ld hP hT hR hv
     rw[Nat.zero_add]at h5
     have hc':a.tmps.getD b undef= .pointer (some ⟨bl,off,none⟩):=hc
     refine⟨c::cs',by simp only[List.mapM_cons,resF,Sem.run_bind,hc',asAddr,Sem.run_pure,Result.andThen_ok,h5,h2],by simp[h3],fun i v hv=>?_⟩
     cases i with
     |zero=>simp at hv;subst hv;exact h6
     |succ i=>simpa using h4 i v (by simpa using hv)
    ·cases h
   ·cases h
  ·cases h
def argTm:Nat→List AV→List (Nat×AV)
 |_,[]=>[]
 |i,v::r=>(i,v)::argTm (i+1) r
theorem look_argTm:∀(l:List AV) (i t:Nat),look (argTm i l) t=if i≤t then l.getD (t-i) .bot else .bot
 | [],i,t=>by simp[argTm,look]
 | v::r,i,t=>by
  rw[argTm,look_cons,look_argTm r]
  by_cases h:t=i
  ·subst h;simp
  ·rw[if_neg h]
   by_cases h2:i≤t
   ·rw[if_pos h2,if_pos (by omega),show t-i=(t-(i+1))+1 by omega];simp
   ·rw[if_neg h2,if_neg (by omega)]
def Fin (TT:List TI) (rs:List ResultVar) (h0:List (Nat×Ent)) (r:AV) (h1:List (Nat×Ent)) (e:Exit) (st:St):Prop:=
 (e= .normal∨e= .ret)∧∃vs K,retv TT st rs=some vs∧(keys h0).all (K.contains ·)=true∧(r=frzV K (lookE st.h) (ret1 vs)∨r=wkV (frzV K (lookE st.h) (ret1 vs)))∧lookE h1=lookE (restrH K (lookE st.h))
theorem fin_ret {TT:List TI} {rs:List ResultVar} {h0:List (Nat×Ent)} {r:AV} {h1:List (Nat×Ent)} {st:St} {vs:List AV} (K:List Nat) (h:retv TT st rs=some vs) (hK:(keys h0).all (K.contains ·)=true) (hr:wkV (frzV K (lookE st.h) (ret1 vs))=r) (hh:restrH K (lookE st.h)=h1):
 Fin TT rs h0 r h1 .ret st:=⟨.inr rfl,vs,K,h,hK,.inr hr.symm,by rw[hh]⟩
theorem fin_own {TT:List TI} {rs:List ResultVar} {h0:List (Nat×Ent)} {r:AV} {h1:List (Nat×Ent)} {st:St} {vs:List AV} (K:List Nat) (h:retv TT st rs=some vs) (hK:(keys h0).all (K.contains ·)=true) (hr:frzV K (lookE st.h) (ret1 vs)=r) (hh:restrH K (lookE st.h)=h1):
 Fin TT rs h0 r h1 .ret st:=⟨.inr rfl,vs,K,h,hK,.inl hr.symm,by rw[hh]⟩
theorem RepF.less {w:World} {D D':Nat→Prop} (h:∀b,D' b→D b) {v:AV} {c:Value} (hv:RepF w D v c):RepF w D' v c:=
 hv.evo (Nat.le_refl _) fun b _ hd=>⟨rfl,fun h'=>hd (h b h')⟩
theorem RepV.less {w:World} {X X':Nat→Prop} {h:Heap} {β:Map} (hX:∀b,X' b→X b) {v:AV} {c:Value} (hv:RepV w (Dom X β) h β v c):RepV w (Dom X' β) h β v c:=
 hv.evo ⟨Nat.le_refl _,fun b _ hd=>⟨rfl,fun h'=>hd (h'.imp (hX b) id)⟩,fun _ _ _ _=>rfl,keyRefl h β⟩
theorem HOK.less {w:World} {X X':Nat→Prop} {h:Heap} {β:Map} (hX:∀b,X' b→X b) (H:HOK X h β w):HOK X' h β w:=
 ⟨fun k e he=>(H.ent k e he).evo ⟨Nat.le_refl _,fun b _ hd=>⟨rfl,fun h'=>hd (h'.imp (hX b) id)⟩,fun _ _ _ _=>rfl,keyRefl h β⟩ rfl fun _ _ _=>rfl,H.off,H.disj,fun k b n hm hx=>H.free k b n hm (hX b hx),fun b hd=>H.lt b (hd.imp (hX b) id)⟩
theorem turnEvo {w w':World} {X:Nat→Prop} {h:Heap} {β:Map} (H:HOK X h β w) (hs:w.heap.size≤w'.heap.size) (hk:∀b,b<w.heap.size→¬X b→w'.heap[b]? =w.heap[b]?):Evo w (Dom X β) h β w' (Dom X β) h β:=
 ⟨hs,fun b hb hd=>⟨hk b hb fun hx=>hd (.inl hx),hd⟩,fun k b n hm=>by
  unfold bsize World.shape?
  rw[hk b (H.lt b (.inr ⟨k,n,hm⟩)) (H.free k b n hm)],keyRefl h β⟩
theorem HOK.turn {w w':World} {X:Nat→Prop} {h:Heap} {β:Map} (H:HOK X h β w) (hs:w.heap.size≤w'.heap.size) (hk:∀b,b<w.heap.size→¬X b→w'.heap[b]? =w.heap[b]?):HOK X h β w':=
 ⟨fun k e he=>(H.ent k e he).evo (turnEvo H hs hk) rfl fun b n hm=>hk b (H.lt b (.inr ⟨k,n,hm⟩)) (H.free k b n hm),H.off,H.disj,H.free,fun b hd=>Nat.lt_of_lt_of_le (H.lt b hd) hs⟩
theorem leaves_marks {P:Program} {fn:Func} {tmps:Array Value} {R:Ending→World→Prop}:∀(bs:List Nat) (w:World),bs.Nodup→(∀b,b∈bs→w.heap[b]? =some (.deferred (some [])))→
  (∀w',w'.heap.size=w.heap.size→(∀b,¬b∈bs→w'.heap[b]? =w.heap[b]?)→w'.os=w.os→w'.tape=w.tape→w'.output=w.output→∃v,(results fn tmps).run P w'= .ok v w'∧R (.returned v) w')→
  LeavesInM Fence.wide 0 P fn tmps R (bs.map fun b=>{target:= .collected b,args:= #[]}) .returning w
 | [],w,_,_,h=>h w rfl (fun _ _=>rfl) rfl rfl rfl
 | b::bs,w,hn,hb,h=>by
  have hn':=List.nodup_cons.1 hn
  refine⟨by simp,.inl ⟨b,w.putObj b (.deferred none),rfl,run_takeDeferred (hb b (by simp)),leaves_marks bs _ hn'.2 (fun c hc=>?_) (fun w' h1 h2 h3 h4 h5=>?_)⟩⟩
  ·rw[World.putObj_heap_other (show c≠b from fun e=>hn'.1 (by rw[←e];exact hc))]
   exact hb c (by simp[hc])
  ·refine h w' (by rw[h1];simp) (fun c hc=>?_) h3 h4 h5
   simp at hc
   rw[h2 c hc.2,World.putObj_heap_other hc.1]
theorem callSim_of {P:Program} {TT:List TI} (hP:TOK P TT) {f:Nat} {fn:Func} {body:Code} {args:List AV} {h0:List (Nat×Ent)} {r:AV} {h1:List (Nat×Ent)} (hf:P.funcs[f]? =some fn) (hb:fn.body=some body) (able:Callable P f) (hlen:Nat.ble args.length fn.ntmps=true)
    (hnd:noDead h0=true) (hnd1:noDead h1=true) (h:∀F:Fr (keys h0),F.ro=none∧F.it=false→Sim P F fn.ntmps body ⟨argTm 0 args,h0⟩ (Fin TT fn.results.toList h0 r h1)) (hgs:Nat.ble fn.ntmps GS=true:=by rfl):CallSim P f args h0 r h1:=by
  refine⟨able,fun k=>noDead_at hnd1,fun X w β cargs hcl H hargs=>(callsIn_wide (n:=0)).1 ?_⟩
  have hlen:=Nat.le_of_ble_eq_true hlen
  let F:Fr (keys h0):=⟨X,w,β,lookE h0,fun k b n hm=>by
    cases hk:lookE h0 k with
    |none=>rw[H.off k hk]at hm;simp at hm
    |some e=>exact lookE_mem hk,fun k e he=>lookE_mem he,none,false,fun _=>False,fun _ _ _ _=>True,fun _ _ _ _ _ _ _ _ _ _ _ _ _ _=>trivial⟩
  refine callsIn_of_wp_marks (F:=Fence.wide) (n:=0) hf hb trivial (Code.wpIn_mono (fun e a' w1 q=>?_) ((h F ⟨rfl,rfl⟩).run _ w ⟨⟨X,β,⟨fun _ h=>h,fun _ h=> .inl h⟩,H,fun t=>?_,⟨fun k e he=>?_,Nat.le_refl _,fun _ _ _ _=>rfl,fun k b n hm=> .inl ⟨k,n,hm⟩,fun k b n hm=>⟨n,Nat.le_refl _,hm⟩,fun _ _ _ _=>rfl,rfl,rfl,rfl⟩,fun _ _=>trivial,[],rfl,fun _=>rfl,List.nodup_nil,fun b hb=>by simp at hb⟩,fun k=>noDead_at hnd,Nat.le_of_ble_eq_true hgs,by simp;omega⟩)) rfl
  · obtain ⟨st,⟨he,vs,K,hv,hK,hr,hh⟩,R⟩:=q
    obtain⟨⟨X2,β2,⟨hX2,_⟩,H2',Ht2',KK',_,bs,hds,_,hbn,hbs⟩,nd2,_,hl2⟩:=R
    have goal:LeavesInM Fence.wide 0 P fn a'.tmps (fun e w'=>∃c β',e= .returned c∧Goes X w (lookE h0) β w' (lookE h1) β'∧RepV w' (Dom X β') (lookE h1) β' r c) a'.defers .returning w1:=by
     rw[hds]
     refine leaves_marks bs w1 hbn (fun b hb=>(hbs b hb).2.2) fun w' sz kp o1 o2 o3=>?_
     have kp':∀b,b<w1.heap.size→¬X2 b→w'.heap[b]? =w1.heap[b]? :=fun b _ hx=>kp b fun hm=>hx (hbs b hm).1
     have H2:=H2'.turn (Nat.le_of_eq sz.symm) kp'
     have Ht2:=fun t=>(Ht2' t).evo (turnEvo H2' (Nat.le_of_eq sz.symm) kp')
     have KK:Keep F (lookE st.h) β2 w':=⟨KK'.knd,by rw[sz];exact KK'.size,fun b hb hi hn=>by rw[kp b fun hm=>by have:=(hbs b hm).2.1;omega];exact KK'.keep b hb hi hn,KK'.own,KK'.pas,fun k b n hm=>by
      rw[←KK'.bs k b n hm]
      obtain⟨n',_,hm'⟩:=KK'.pas k b n hm
      unfold bsize World.shape?
      rw[kp' b (H2'.lt b (.inr ⟨k,n',hm'⟩)) (H2'.free k b n' hm')],o1.trans KK'.os,o2.trans KK'.tape,o3.trans KK'.output⟩
     obtain⟨cs,q1,q2,q3⟩:=retv_run hP H2 Ht2 _ _ hv
     obtain⟨H3',hv3'⟩:=H2.restr K
     have H3:=H3'.less hX2
     have hv3:=fun v c hv=>(hv3' v c hv).less hX2
     have hrun:∃c,(results fn a'.tmps).run P w'= .ok c w'∧RepV w' (Dom X2 β2) (lookE st.h) β2 (ret1 vs) c:=by
       have hm:(fn.results.mapM (resF a'.tmps)).run P w'= .ok cs.toArray w':=by
         rw[←Array.toArray_toList (xs:=fn.results),List.mapM_toArray]
         simp only[Sem.run_map,q1,Result.andThen_ok]
       have hres:(results fn a'.tmps).run P w'= .ok (if h:cs.toArray.size=1 then cs.toArray[0]else .tuple cs.toArray) w':=by
         show(fn.results.mapM (resF a'.tmps) >>= fun vs=>pure (if h:vs.size=1 then vs[0]else .tuple vs)).run P w'=_
         rw[Sem.run_bind,hm]
         rfl
       refine⟨_,hres,?_⟩
       by_cases h1:cs.length=1
       · rw[dif_pos (by simpa using h1)]
         match cs,vs,h1,q2,q3 with
         | [c],[v],_,_,q3=>exact q3 0 v rfl
       · rw[dif_neg (by simpa using h1)]
         have hvs:ret1 vs= .tup vs:=by
           match vs,q2 with
           | [],_=>rfl
           | [v],q2=>exact absurd q2 h1
           |_::_::_,_=>rfl
         rw[hvs]
         exact .tup vs _ (by simpa using q2) fun i v hi=>by simpa [List.getD]using q3 i v hi
     obtain⟨c,hc1,hc2⟩:=hrun
     have hpost:∃c β',Ending.returned c= .returned c∧(results fn a'.tmps).run P w'= .ok c w'∧Goes X w (lookE h0) β w' (lookE h1) β'∧RepV w' (Dom X β') (lookE h1) β' r c:=by
       refine⟨c,fun k=>if k∈K then β2 k else [],rfl,hc1,?_,?_⟩
       · rw [hh]
         refine⟨KK.size,fun b hb hn=>KK.keep b hb (fun hf=>hf) hn,fun k b n hm=>?_,KK.bs,fun k e he=> .inr ?_,H3,KK.os,KK.tape,KK.output⟩
         · (try dsimp only at hm)
           split at hm
           · exact KK.own k b n hm
           · simp at hm
         · have hkK:k∈K:=by
             have:=List.all_eq_true.1 hK k (lookE_mem he)
             simpa using this
           have h1:=KK.knd k e he
           have hrr:∀e',lookE st.h k=some e'→lookE (restrH K (lookE st.h)) k=some (frzE K (lookE st.h) e'):=fun e' h2=>by rw[lookE_restrH,if_pos hkK,h2];rfl
           cases e with
           |dead=>exact h1
           | box cs0=>
             obtain⟨cs',h2⟩:=h1
             refine⟨⟨_,hrr _ h2⟩,fun b n hm=>?_⟩
             (try dsimp only)
             rw[if_pos hkK]
             obtain⟨n',hn',hm'⟩:=KK.pas k b n hm
             obtain⟨b2,_,_,e2,_⟩:=H2.ent k _ h2
             obtain⟨b1,_,_,e1,_⟩:=H.ent k _ he
             rw[e1]at hm
             rw[e2]at hm'⊢
             simp at hm hm'⊢
             exact⟨hm'.1,hm.2⟩
           | arr sz xs sl=>
             obtain⟨xs',sl',h2,h3⟩:=h1
             obtain⟨xs2,fl2,h4,h5⟩:=frzE_arr K (lookE st.h) sz xs' sl'
             refine⟨⟨xs2,fl2,(hrr _ h2).trans (by rw[h4]),by rw[h5];exact h3⟩,fun b n hm=>?_⟩
             (try dsimp only)
             rw[if_pos hkK]
             exact KK.pas k b n hm
       · rw[hh]
         rcases hr with rfl|rfl
         · exact hv3 _ _ hc2
         · exact(hv3 _ _ hc2).wk
     obtain⟨c,β',_,hc1,hc2,hc3⟩:=hpost
     exact⟨c,hc1,c,β',rfl,hc2,hc3⟩
    rcases he with rfl|rfl
    · exact goal
    · exact goal
  · show RepV w (Dom X β) (lookE h0) β (look (argTm 0 args) t) _
    rw[look_argTm,if_pos (Nat.zero_le _),Nat.sub_zero]
    by_cases ht:t<args.length
    · have h2:args[t]? =some (args.getD t .bot):=by simp[List.getD,ht]
      have:=hargs t _ h2
      have e:Act.eval {tmps:=cargs++Array.replicate (fn.ntmps-cargs.size) undef,defers:=[]} (.tmp t)=cargs.getD t undef:=by
        simp only[Act.eval,Array.getD_eq_getD_getElem?]
        rw[Array.getElem?_append_left (by omega)]
      rw[e]
      exact this
    · have:args.getD t .bot= .bot:=by simp[List.getD,List.getElem?_eq_none (by omega:args.length≤t)]
      rw[this]
      exact .fz _ _ (.bot _)
  · have he':lookE h0 k=some e:=he
    cases e with
    |dead=>exact absurd he' (noDead_at hnd)
    |box cs=>exact⟨cs,he'⟩
    |arr sz xs sl=>exact⟨xs,sl,he',Nat.le_refl _⟩
end Av
end Go.Proofs.YtaikgchmpieooaaGreat
