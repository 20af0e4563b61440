/- Part 6. -/
import Derived.Test.YtmamjhmoegjapaaGreatP05
import Derived.RangeFuncLeaves
import Derived.Orders
namespace Go.Proofs.YtmamjhmoegjapaaGreat
namespace Av
set_option linter.unusedSimpArgs false
set_option linter.unusedVariables false
set_option linter.unusedSectionVars false
section
section ops
variable {P:Program} {K0:List Nat} {F:Fr K0} {m:Nat} {ops:Array Oper} {rest:List Oper} {Q:St->Prop} {tm:List (Nat×AV)} {h:List (Nat×xN)}
theorem zPe {st:St} (hq:Q st):GN P F m ops [] st Q:=λ_ _ H=>⟨rfl,st,hq,H⟩
theorem zKm {o:Oper} {st:St} {v:AV} {d:List (Nat×xN)} {r nw:List Nat} {st':St} (hg:o.guard=none) (hs:wR P st o.op v d r nw) (hn:∀k,k∈nw->zC st.h k=none) (hd:vX d=true) (hm:∀t,o.dst=some t->t<m)
  (he:∀t,zG st'.tm t=if o.dst=some t then v else zG st.tm t) (hh:zC st'.h=over d (zC st.h)) (hk:GN P F m ops rest st' Q):GN P F m ops (o::rest) st Q:=λa w H=>
 wpListIn_plain hg λK hK=>hs.rel H (λ_ _=>rfl) (λ_ _=>rfl) hn hd hm λa' w' H'=>hK _ _ (hk a' w' (by
  have e1:zG st'.tm=λt=>if o.dst=some t then v else zG st.tm t:=funext he
  unfold wK;rw[e1,hh]
  exact H'))
section
variable {op:Op} {ty:Nat} {pos:String} {after:Array Edge} {t:Nat} {v:AV} {r nw:List Nat}
end
def VV (ops:Array Oper) (j:Nat):Option Nat:=(ops[j]?).bind (·.dst)
def gw (v:Value) (b:Bool):Bool:=match v with
 | .bool c=>c==b
 |_=>false
theorem eI {o:Oper} {j t:Nat} {b:Bool} {v:Value} (hg:o.guard=some (j,b)) (ht:VV ops j=some t) {a:Act} (hv:a.eval (.tmp t)=v):Region.wanted o (yielded ops a.tmps)=gw v b:=by
 subst hv;simp only[Region.wanted,hg,yielded,show(ops[j]?).bind (·.dst)=some t from ht,Option.bind_some,Act.eval,zYy]
 cases h:a.tmps[t]? with
 |none=>simp[undef,gw]
 |some u=>cases u<;>simp[gw]
theorem DP {st:St} {a:Act} {w:World} (H:wK F m st a w) {t:Nat} {c:Value} (hv:zG st.tm t= .s c):a.eval (.tmp t)=c:=by
 obtain⟨⟨_,β,_,_,Ht,_⟩,_⟩:=H;have:=Ht t;rw[hv]at this;exact this.s_inv
theorem zUh {d:Option Nat} {op:Op} {ty:Nat} {pos:String} {after:Array Edge} {j t:Nat} {b:Bool} {st:St} (ht:VV ops j=some t) (hv:zG st.tm t= .s (.bool b)) (hk:GN P F m ops (⟨d,op,ty,pos,after,none⟩::rest) st Q):
  GN P F m ops (⟨d,op,ty,pos,after,some (j,b)⟩::rest) st Q:=λa w H=>by
 have hw:=eI (o:=⟨d,op,ty,pos,after,some (j,b)⟩) rfl ht (DP H hv);have:=hk a w H;unfold wpListIn at this⊢;rw[zX1 (by rw[hw];simp[gw])];rw[zX1 (by simp[Region.wanted])]at this;exact this
theorem YS.bot {tm:Nat->AV} {h:yJ} {a:Act} {w:World} (H:YS F m tm h a w) (dst:Option Nat) (hm:∀t,dst=some t->t<m):YS F m (λt=>if dst=some t then .s undef else tm t) h (a.put dst undef) w:=by
 obtain⟨⟨X,β,hX,HH,Ht,KK,hJ,hD⟩,nd,gs,hl⟩:=H;exact YS.put hX HH Ht KK hJ hD gs hl (xM.refl HH) nd (.fz _ _ (.s _)) dst hm
theorem zPf {d:Nat} {op:Op} {ty:Nat} {pos:String} {after:Array Edge} {j t:Nat} {b:Bool} {c:Value} (ht:VV ops j=some t) (hv:zG tm t= .s c) (hc:gw c b=false) (hm:Nat.blt d m=true) (hk:GN P F m ops rest ⟨(d,.s undef)::tm,h⟩ Q):
  GN P F m ops (⟨some d,op,ty,pos,after,some (j,b)⟩::rest) ⟨tm,h⟩ Q:=λa w H=>by
 have hw:=eI (o:=⟨some d,op,ty,pos,after,some (j,b)⟩) rfl ht (DP H hv);unfold wpListIn;rw[zX0 (by rw[hw,hc];simp)];refine⟨λ_ _=>trivial,hk _ _ ?_⟩;have:=YS.bot H (some d) (λj hj=>by cases hj;exact zYj hm)
 have e1:zG ((d,.s undef)::tm)=λt=>if some d=some t then AV.s undef else zG tm t:=funext λt=>by rw[yP];simp[eq_comm]
 unfold wK;rw[e1];exact this
theorem DQ {st:St} {l:List Oper} {t:Nat} {c c':Bool} (hv:zG st.tm t= .s (.bool c)) (hc:c=c') (hk:GN P F m ops l ⟨(t,.s (.bool c'))::st.tm,st.h⟩ Q):GN P F m ops l st Q:=λa w H=>hk a w (by
 subst hc
 have e1:zG ((t,.s (.bool c))::st.tm)=zG st.tm:=funext λj=>by
  rw[yP];split
  ·rename_i h;subst h;exact hv.symm
  ·rfl
 unfold wK;dsimp only;rw[e1]
 exact H)
theorem zEm {st:St} {l:List Oper} {t:Nat} {c:Bool} (hv:zG st.tm t= .s (.bool c)) (h1:c=true->GN P F m ops l ⟨(t,.s (.bool true))::st.tm,st.h⟩ Q) (h2:c=false->GN P F m ops l ⟨(t,.s (.bool false))::st.tm,st.h⟩ Q):GN P F m ops l st Q:=by
 cases c with
 |true=>exact DQ hv rfl (h1 rfl)
 |false=>exact DQ hv rfl (h2 rfl)
end ops
section code
variable {P:Program} {K0:List Nat} {F:Fr K0} {m:Nat} {Q:Exit->St->Prop} {st:St}
theorem jP {c:Code} (K ts:List Nat) (hK:K0.all (K.contains ·)=true) {st':St} (he:restr K ts st=st') (h:uG P F m c st' Q):uG P F m c st Q:=⟨λa w H=>h.run a w (he▸wK.restr H K ts hK)⟩
theorem vA {c:Code} (I:Nat->St->Prop) (n:Nat) (K ts:List Nat) (hK:K0.all (K.contains ·)=true) (h0:I n (restr K ts st)) (round:∀n st,I n st->uG P F m c st (λe s=>match e with
  | .normal=>∃n',n'<n/\I n' (restr K ts s)
  |e=>Q e s)):uG P F m (.loop c) st Q:=by
 refine jP K ts hK rfl ⟨λa w H=>?_⟩;refine RH (λn a w=>∃st,I n st/\wK F m st a w) n ⟨_,h0,H⟩ λn a w ⟨st,hI,hR⟩=>?_
 refine Code.wpIn_mono (λe a' w' ⟨s,h1,h2⟩=>?_) ((round n st hI).run a w hR)
 cases e with
 |normal=>
  obtain⟨n',hlt,hI'⟩:=h1;exact⟨n',hlt,_,hI',wK.restr h2 K ts hK⟩
 |_=>exact⟨s,h1,h2⟩
end code
def MN (TT:List TI) (st:St):List ResultVar->Option (List AV)
 | []=>some []
 | .tmp t::r=>(MN TT st r).map (zG st.tm t:: ·)
 | .cell a T::r=>match zG st.tm a with
  | .ptr k 0 off=>match zC st.h k,TT[T]? with
   |some (.box cs),some ti=>match ldv ti.d.agg ti.size cs off with
    |some v=>(MN TT st r).map (v:: ·)
    |none=>none
   |_,_=>none
  |_=>none
def DS:List AV->AV
 | [v]=>v
 |vs=> .tup vs
def zKn (tmps:Array Value):ResultVar->Sem Value
 | .tmp t=>pure (tmps.getD t undef)
 | .cell b t=>do loadVar t (<-asAddr (tmps.getD b undef))
theorem OJ {P:Program} {TT:List TI} (hP:uR P TT) {st:St} {X:Nat->Prop} {β:uE} {w:World} {a:Act} (H:kQ X (zC st.h) β w) (Ht:∀t,zV w (xH X β) (zC st.h) β (zG st.tm t) (a.eval (.tmp t))):
  ∀(l:List ResultVar) (vs:List AV),MN TT st l=some vs->∃cs:List Value,(l.mapM (zKn a.tmps)).run P w= .ok cs w/\cs.length=vs.length/\
   ∀(i:Nat) v,vs[i]? =some v->zV w (xH X β) (zC st.h) β v (cs.getD i undef)
 | [],vs,h=>by cases h;exact⟨[],rfl,rfl,λi v hv=>by simp at hv⟩
 | .tmp t::r,vs,h=>by
  simp only[MN,zYg]at h;obtain⟨vs',h1,rfl⟩:=h;obtain⟨cs,h2,h3,h4⟩:=OJ hP H Ht r vs' h1;refine⟨a.tmps.getD t undef::cs,by simp only[yDs,zKn,Sem.run_bind,Sem.run_pure,Result.andThen_ok,h2],by simp[h3],λi v hv=>?_⟩
  cases i with
  |zero=>simp at hv;subst hv;exact Ht t
  |succ i=>simpa using h4 i v CG
 | .cell b T::r,vs,h=>by
  simp only[MN]at h;split at h
  ·rename_i k off hb;split at h
   ·rename_i cs ti hk hT;split at h
    ·rename_i v hv;rw[zYg]at h;obtain⟨vs',h1,rfl⟩:=h;obtain⟨cs',h2,h3,h4⟩:=OJ hP H Ht r vs' h1;have hp:=Ht b;rw[hb]at hp;obtain⟨bl,hc,_,hR⟩:=QG H hk hp;obtain⟨c,h5,h6⟩:=IY hP hT hR hv;rw[zY6]at h5;have hc':a.tmps.getD b undef= .pointer (some ⟨bl,off,none⟩):=hc;refine⟨c::cs',by simp only[yDs,zKn,Sem.run_bind,hc',asAddr,Sem.run_pure,Result.andThen_ok,h5,h2],by simp[h3],λi v hv=>?_⟩
     cases i with
     |zero=>simp at hv;subst hv;exact h6
     |succ i=>simpa using h4 i v CG
    ·cases h
   ·cases h
  ·cases h
def VW:Nat->List AV->List (Nat×AV)
 |_,[]=>[]
 |i,v::r=>(i,v)::VW (i+1) r
theorem WJ:∀(l:List AV) (i t:Nat),zG (VW i l) t=if i<=t then l.getD (t-i) .bot else .bot
 | [],i,t=>by simp[VW,zG]
 | v::r,i,t=>by
  rw[VW,yP,WJ r];by_cases h:t=i
  ·subst h;simp
  ·rw[zX0 h];by_cases h2:i<=t
   ·rw[zX1 h2,zX1 (by omega),show t-i=(t-(i+1))+1 by omega];simp
   ·rw[zX0 h2,zX0 (by omega)]
def Fin (TT:List TI) (rs:List ResultVar) (h0:List (Nat×xN)) (r:AV) (h1:List (Nat×xN)) (e:Exit) (st:St):Prop:=
 (e= .normal∨e= .ret)/\∃vs K,MN TT st rs=some vs/\(yD h0).all (K.contains ·)=true/\(r=wN K (zC st.h) (DS vs)∨r=WN (wN K (zC st.h) (DS vs)))/\zC h1=zC (wX K (zC st.h))
theorem zI {TT:List TI} {rs:List ResultVar} {h0:List (Nat×xN)} {r:AV} {h1:List (Nat×xN)} {st:St} {vs:List AV} (K:List Nat) (h:MN TT st rs=some vs) (hK:(yD h0).all (K.contains ·)=true) (hr:WN (wN K (zC st.h) (DS vs))=r) (hh:wX K (zC st.h)=h1):
 Fin TT rs h0 r h1 .ret st:=⟨.inr rfl,vs,K,h,hK,.inr hr.symm,by rw[hh]⟩
theorem zL {TT:List TI} {rs:List ResultVar} {h0:List (Nat×xN)} {r:AV} {h1:List (Nat×xN)} {st:St} {vs:List AV} (K:List Nat) (h:MN TT st rs=some vs) (hK:(yD h0).all (K.contains ·)=true) (hr:wN K (zC st.h) (DS vs)=r) (hh:wX K (zC st.h)=h1):
 Fin TT rs h0 r h1 .ret st:=⟨.inr rfl,vs,K,h,hK,.inl hr.symm,by rw[hh]⟩
theorem xG.less {w:World} {D D':Nat->Prop} (h:∀b,D' b->D b) {v:AV} {c:Value} (hv:xG w D v c):xG w D' v c:=
 hv.evo (zX6 _) λb _ hd=>⟨rfl,λh'=>hd (h b h')⟩
theorem zV.less {w:World} {X X':Nat->Prop} {h:yJ} {β:uE} (hX:∀b,X' b->X b) {v:AV} {c:Value} (hv:zV w (xH X β) h β v c):zV w (xH X' β) h β v c:=
 hv.evo ⟨zX6 _,λb _ hd=>⟨rfl,λh'=>hd (h'.imp (hX b) id)⟩,λ_ _ _ _=>rfl,qV h β⟩
theorem kQ.less {w:World} {X X':Nat->Prop} {h:yJ} {β:uE} (hX:∀b,X' b->X b) (H:kQ X h β w):kQ X' h β w:=
 ⟨λk e he=>(H.ent k e he).evo ⟨zX6 _,λb _ hd=>⟨rfl,λh'=>hd (h'.imp (hX b) id)⟩,λ_ _ _ _=>rfl,qV h β⟩ rfl λ_ _ _=>rfl,H.off,H.disj,λk b n hm hx=>H.free k b n hm (hX b hx),λb hd=>H.lt b (hd.imp (hX b) id)⟩
theorem VX {w w':World} {X:Nat->Prop} {h:yJ} {β:uE} (H:kQ X h β w) (hs:w.heap.size<=w'.heap.size) (hk:∀b,b<w.heap.size->¬X b->w'.heap[b]? =w.heap[b]?):HC w (xH X β) h β w' (xH X β) h β:=
 ⟨hs,λb hb hd=>⟨hk b hb λhx=>hd (.inl hx),hd⟩,λk b n hm=>by
  unfold xZ World.shape?
  rw[hk b (H.lt b (.inr ⟨k,n,hm⟩)) (H.free k b n hm)],qV h β⟩
theorem kQ.turn {w w':World} {X:Nat->Prop} {h:yJ} {β:uE} (H:kQ X h β w) (hs:w.heap.size<=w'.heap.size) (hk:∀b,b<w.heap.size->¬X b->w'.heap[b]? =w.heap[b]?):kQ X h β w':=
 ⟨λk e he=>(H.ent k e he).evo (VX H hs hk) rfl λb n hm=>hk b (H.lt b (.inr ⟨k,n,hm⟩)) (H.free k b n hm),H.off,H.disj,H.free,λb hd=>zY7 (H.lt b hd) hs⟩
theorem VY {P:Program} {fn:Func} {tmps:Array Value} {R:Ending->World->Prop}:∀(bs:List Nat) (w:World),bs.Nodup->(∀b,b∈bs->w.heap[b]? =some (.deferred (some [])))->
  (∀w',w'.heap.size=w.heap.size->(∀b,¬b∈bs->w'.heap[b]? =w.heap[b]?)->w'.os=w.os->w'.tape=w.tape->w'.output=w.output->∃v,(results fn tmps).run P w'= .ok v w'/\R (.returned v) w')->
  LeavesInM Fence.wide 0 P fn tmps R (bs.map λb=>{target:= .collected b,args:= #[]}) .returning w
 | [],w,_,_,h=>h w rfl (λ_ _=>rfl) rfl rfl rfl
 |b::bs,w,hn,hb,h=>by
  have hn':=List.nodup_cons.1 hn;refine⟨by simp,.inl ⟨b,w.putObj b (.deferred none),rfl,run_takeDeferred (hb b zS),VY bs _ hn'.2 (λc hc=>?_) (λw' h1 h2 h3 h4 h5=>?_)⟩⟩
  ·rw[World.putObj_heap_other (show c≠b from λe=>hn'.1 (by rw[<-e];exact hc))];exact hb c (by simp[hc])
  ·refine h w' (by rw[h1];simp) (λc hc=>?_) h3 h4 h5;simp at hc;rw[h2 c hc.2,World.putObj_heap_other hc.1]
theorem WK {P:Program} {TT:List TI} (hP:uR P TT) {f:Nat} {fn:Func} {body:Code} {args:List AV} {h0:List (Nat×xN)} {r:AV} {h1:List (Nat×xN)} (hf:P.funcs[f]? =some fn) (hb:fn.body=some body) (able:cZ P f) (hlen:Nat.ble args.length fn.ntmps=true)
    (hnd:vX h0=true) (hnd1:vX h1=true) (h:∀F:Fr (yD h0),F.ro=none/\F.it=false->uG P F fn.ntmps body ⟨VW 0 args,h0⟩ (Fin TT fn.results.toList h0 r h1)) (hgs:Nat.ble fn.ntmps GS=true:=by rfl):xP P f args h0 r h1:=by
  refine⟨able,λk=>qG hnd1,λX w β cargs hcl H hargs=>(callsIn_wide (n:=0)).1 ?_⟩;have hlen:=zYj hlen
  let F:Fr (yD h0):=⟨X,w,β,zC h0,λk b n hm=>by
    cases hk:zC h0 k with
    |none=>rw[H.off k hk]at hm;simp at hm
    |some e=>exact vJ hk,λk e he=>vJ he,none,false,λ_=>False,λ_ _ _ _=>True,λ_ _ _ _ _ _ _ _ _ _ _ _ _ _=>trivial⟩
  refine callsIn_of_wp_marks (F:=Fence.wide) (n:=0) hf hb trivial (Code.wpIn_mono (λe a' w1 q=>?_) ((h F ⟨rfl,rfl⟩).run _ w ⟨⟨X,β,⟨λ_ h=>h,λ_ h=> .inl h⟩,H,λt=>?_,⟨λk e he=>?_,zX6 _,λ_ _ _ _=>rfl,λk b n hm=> .inl ⟨k,n,hm⟩,λk b n hm=>⟨n,zX6 _,hm⟩,λ_ _ _ _=>rfl,rfl,rfl,rfl⟩,λ_ _=>trivial,[],rfl,λ_=>rfl,yDc,λb hb=>by simp at hb⟩,λk=>qG hnd,zYj hgs,by simp;omega⟩)) rfl
  · obtain ⟨st,⟨he,vs,K,hv,hK,hr,hh⟩,R⟩:=q;obtain⟨⟨X2,β2,⟨hX2,_⟩,H2',Ht2',KK',_,bs,hds,_,hbn,hbs⟩,nd2,_,hl2⟩:=R
    have goal:LeavesInM Fence.wide 0 P fn a'.tmps (λe w'=>∃c β',e= .returned c/\xM X w (zC h0) β w' (zC h1) β'/\zV w' (xH X β') (zC h1) β' r c) a'.defers .returning w1:=by
     rw[hds];refine VY bs w1 hbn (λb hb=>(hbs b hb).2.2) λw' sz kp o1 o2 o3=>?_
     have kp':∀b,b<w1.heap.size->¬X2 b->w'.heap[b]? =w1.heap[b]? :=λb _ hx=>kp b λhm=>hx (hbs b hm).1
     have H2:=H2'.turn (zZ1 sz.symm) kp';have Ht2:=λt=>(Ht2' t).evo (VX H2' (zZ1 sz.symm) kp')
     have KK:gF F (zC st.h) β2 w':=⟨KK'.knd,by rw[sz];exact KK'.size,λb hb hi hn=>by rw[kp b λhm=>by have:=(hbs b hm).2.1;omega];exact KK'.keep b hb hi hn,KK'.own,KK'.pas,λk b n hm=>by
      rw[<-KK'.bs k b n hm];obtain⟨n',_,hm'⟩:=KK'.pas k b n hm;unfold xZ World.shape?
      rw[kp' b (H2'.lt b (.inr ⟨k,n',hm'⟩)) (H2'.free k b n' hm')],o1.trans KK'.os,o2.trans KK'.tape,o3.trans KK'.output⟩
     obtain⟨cs,q1,q2,q3⟩:=OJ hP H2 Ht2 _ _ hv;obtain⟨H3',hv3'⟩:=H2.restr K;have H3:=H3'.less hX2;have hv3:=λv c hv=>(hv3' v c hv).less hX2
     have hrun:∃c,(results fn a'.tmps).run P w'= .ok c w'/\zV w' (xH X2 β2) (zC st.h) β2 (DS vs) c:=by
       have hm:(fn.results.mapM (zKn a'.tmps)).run P w'= .ok cs.toArray w':=by
         rw[<-Array.toArray_toList (xs:=fn.results),List.mapM_toArray];simp only[Sem.run_map,q1,Result.andThen_ok]
       have hres:(results fn a'.tmps).run P w'= .ok (if h:cs.toArray.size=1 then cs.toArray[0]else .tuple cs.toArray) w':=by
         show(fn.results.mapM (zKn a'.tmps) >>= λvs=>pure (if h:vs.size=1 then vs[0]else .tuple vs)).run P w'=_
         rw[Sem.run_bind,hm];rfl
       refine⟨_,hres,?_⟩;by_cases h1:cs.length=1
       · rw[yDu LY]
         match cs,vs,h1,q2,q3 with
         | [c],[v],_,_,q3=>exact q3 0 v rfl
       · rw[dif_neg LY]
         have hvs:DS vs= .tup vs:=by
           match vs,q2 with
           | [],_=>rfl
           | [v],q2=>exact absurd q2 h1
           |_::_::_,_=>rfl
         rw[hvs];exact .tup vs _ (by simpa using q2) λi v hi=>by simpa [List.getD]using q3 i v hi
     obtain⟨c,hc1,hc2⟩:=hrun
     have hpost:∃c β',Ending.returned c= .returned c/\(results fn a'.tmps).run P w'= .ok c w'/\xM X w (zC h0) β w' (zC h1) β'/\zV w' (xH X β') (zC h1) β' r c:=by
       refine⟨c,λk=>if k∈K then β2 k else [],rfl,hc1,?_,?_⟩
       · rw [hh];refine⟨KK.size,λb hb hn=>KK.keep b hb (λhf=>hf) hn,λk b n hm=>?_,KK.bs,λk e he=> .inr ?_,H3,KK.os,KK.tape,KK.output⟩
         · (try dsimp only at hm)
           split at hm
           · exact KK.own k b n hm
           · simp at hm
         · have hkK:k∈K:=by
             have:=zYf.1 hK k (vJ he);simpa using this
           have h1:=KK.knd k e he;have hrr:∀e',zC st.h k=some e'->zC (wX K (zC st.h)) k=some (qU K (zC st.h) e'):=λe' h2=>by rw[xW,zX1 hkK,h2];rfl
           cases e with
           |dead=>exact h1
           | box cs0=>
             obtain⟨cs',h2⟩:=h1;refine⟨⟨_,hrr _ h2⟩,λb n hm=>?_⟩
             (try dsimp only)
             rw[zX1 hkK];obtain⟨n',hn',hm'⟩:=KK.pas k b n hm;obtain⟨b2,_,_,e2,_⟩:=H2.ent k _ h2;obtain⟨b1,_,_,e1,_⟩:=H.ent k _ he;rw[e1]at hm;rw[e2]at hm'⊢;simp at hm hm'⊢;exact⟨hm'.1,hm.2⟩
           | arr sz xs sl=>
             obtain⟨xs',sl',h2,h3⟩:=h1;obtain⟨xs2,fl2,h4,h5⟩:=jY K (zC st.h) sz xs' sl';refine⟨⟨xs2,fl2,(hrr _ h2).trans (by rw[h4]),by rw[h5];exact h3⟩,λb n hm=>?_⟩
             (try dsimp only)
             rw[zX1 hkK];exact KK.pas k b n hm
       · rw[hh]
         rcases hr with rfl|rfl
         · exact hv3 _ _ hc2
         · exact(hv3 _ _ hc2).wk
     obtain⟨c,β',_,hc1,hc2,hc3⟩:=hpost;exact⟨c,hc1,c,β',rfl,hc2,hc3⟩
    rcases he with rfl|rfl
    · exact goal
    · exact goal
  · show zV w (xH X β) (zC h0) β (zG (VW 0 args) t) _
    rw[WJ,zX1 (zYe _),yCr];by_cases ht:t<args.length
    · have h2:args[t]? =some (args.getD t .bot):=by simp[List.getD,ht]
      have:=hargs t _ h2
      have e:Act.eval {tmps:=cargs++Array.replicate (fn.ntmps-cargs.size) undef,defers:=[]} (.tmp t)=cargs.getD t undef:=by
        simp only[Act.eval,zYy];rw[zZ4 (by omega)]
      rw[e];exact this
    · have:args.getD t .bot= .bot:=by simp[List.getD,zYt (by omega:args.length<=t)]
      rw[this];exact .fz _ _ (.bot _)
  · have he':zC h0 k=some e:=he
    cases e with
    |dead=>exact absurd he' (qG hnd)
    |box cs=>exact⟨cs,he'⟩
    |arr sz xs sl=>exact⟨xs,sl,he',zX6 _⟩
end
def qN (l:Array Bool) (i:Nat):Bool:=l.getD i false
def binds (e:Edge):Bool:=Region.binds .any e
def zPg (ops:Array Oper):Bool:=(List.range ops.size).all λi=>((ops[i]?).map λo=>o.after.all λe=>!binds e||decide (e.on<i)).getD false
def zPh (T:List Nat):List Edge->Nat->Nat
 | [],m=>m
 |e::r,m=>zPh T r (bif binds e then m ||| (2 ^ e.on ||| T.getD e.on 0)else m)
def zQv:List Oper->List Nat->List Nat
 | [],T=>T
 |o::r,T=>zQv r (T++[zPh T o.after.toList 0])
def OK (ops:List Oper):List Nat:=zQv ops []
def okT (ops:Array Oper) (T:List Nat):Bool:=
 (List.range ops.size).all λi=>((ops[i]?).map λo=>Nat.beq (T.getD i 0) (zPh T o.after.toList 0)).getD false
def bit (T:List Nat) (i j:Nat):Bool:=(T.getD i 0).testBit j
theorem DT (T:List Nat) (j:Nat):∀(l:List Edge) (m:Nat),(zPh T l m).testBit j=true->m.testBit j=true∨∃e,e∈l/\binds e=true/\(e.on=j∨bit T e.on j=true)
 | [],m,h=> .inl h
 | e::r,m,h=>by
  rcases DT T j r _ h with h1|⟨e',h1,h2,h3⟩
  ·cases hb:binds e with
   |false=>rw[hb]at h1;exact .inl h1
   |true=>
    rw[hb,zZc,yDt,yDt,Nat.testBit_two_pow,zZ6,zZ6]at h1
    rcases h1 with h1|h1|h1
    ·exact .inl h1
    ·exact .inr ⟨e,by simp,hb,.inl LY⟩
    ·exact .inr ⟨e,by simp,hb,.inr h1⟩
  ·exact .inr ⟨e',by simp[h1],h2,h3⟩
theorem dZ (l:Array Bool) (i j:Nat) (hi:i<l.size):qN (l.setIfInBounds i true) j=if j=i then true else qN l j:=by
 unfold qN;by_cases e:j=i
 ·subst e;simp[zYy,hi]
 ·rw[zX0 e];simp only[zYy,Array.getElem?_setIfInBounds_ne (Ne.symm e)]
def cnt (p:Nat->Bool):Nat->Nat
 |0=>0
 |k+1=>cnt p k+if p k then 1 else 0
theorem zEn {p q:Nat->Bool} (n:Nat) (h:∀i,i<n->p i=q i):cnt p n=cnt q n:=by
 induction n with
 |zero=>rfl
 |succ n ih=>unfold cnt;rw[ih λi hi=>h i (by omega),h n (by omega)]
theorem zKo (p:Nat->Bool) (n:Nat):cnt p n<=n:=by
 induction n with
 |zero=>exact zX6 _
 |succ n ih=>unfold cnt;split<;>omega
theorem QF {p q:Nat->Bool} (n i:Nat) (hi:i<n) (hp:p i=false) (h:∀j,j≠i->q j=p j):cnt q n=cnt p n+if q i then 1 else 0:=by
 induction n with
 |zero=>omega
 |succ n ih=>
  unfold cnt;by_cases e:i=n
  ·subst e;rw[zEn (q:=p) i λj hj=>h j (by omega),hp];simp
  ·rw[ih (by omega),h n (λe'=>e e'.symm)];omega
section
variable {ops:Array Oper} {T:List Nat}
theorem TM (hA:zPg ops=true) (hT:okT ops T=true) {l:Array Bool} (hd:∀i o,ops[i]? =some o->qN l i=true->∀e∈o.after,binds e=true->qN l e.on=true):
  ∀(n i:Nat) (o:Oper),i<n->ops[i]? =some o->(∀e∈o.after,binds e=true->qN l e.on=true)->∀j,bit T i j=true->qN l j=true:=by
 intro n
 induction n with
 |zero=>intro i o h;omega
 | succ n ih=>
  intro i o hin ho he j hj;have hi:i<ops.size:=(zZ5.1 ho).1;have h1:=zYf.1 hT i (zYr.2 hi);simp only[ho,Option.map_some,zZ3]at h1;unfold bit at hj;rw[zYu h1]at hj
  rcases DT T j _ _ hj with h2|⟨x,hx,hb,h2⟩
  ·simp at h2
  have hm:x∈o.after:=by simpa using hx
  have hl:=he _ hm hb
  rcases h2 with h2|h2
  ·rw[<-h2];exact hl
  ·have h3:=zYf.1 hA i (zYr.2 hi);obtain⟨y,hy,rfl⟩:=Array.getElem_of_mem hm;simp only[ho,Option.map_some,zZ3,yDi,zZ6,yAb,zX9]at h3;have h4:o.after[y].on<i:=(h3 y hy).resolve_left (by rw[hb];simp);have h5:o.after[y].on<ops.size:=by omega
   exact ih _ ops[o.after[y].on] (by omega) (by simp[h5]) (hd _ _ (by simp[h5]) hl) j h2
theorem jQ {l:Array Bool} {i:Nat} (hs:l.size=ops.size) (h:i∈Region.ready .any ops l):∃o,ops[i]? =some o/\qN l i=false/\∀e∈o.after,binds e=true->qN l e.on=true:=by
 unfold Region.ready at h;rw[yA7,zYr]at h;obtain⟨hi,h⟩:=h;have ho:ops[i]? =some ops[i]:=by simp[hi]
 simp only[ho,Option.map_some,zZ3,zYh,yAb,yDi,zZ6]at h;refine⟨ops[i],ho,?_,λe he hb=>?_⟩
 ·have:=h.1;unfold qN;simp only[zYy]at this⊢;rw[yBv (by omega)]at this⊢;simpa using this
 ·obtain⟨x,hx,rfl⟩:=Array.getElem_of_mem he
  rcases h.2 x hx with h2|h2
  ·unfold binds at hb;rw[hb]at h2;cases h2
  ·exact h2
theorem LQ (hA:zPg ops=true) {l:Array Bool} (hs:l.size=ops.size) (h:Region.ready .any ops l=[]):∀n i,i<n->i<ops.size->qN l i=true:=by
 intro n
 induction n with
 |zero=>intro i h;omega
 | succ n ih=>
  intro i hin hi
  cases hl:qN l i with
  |true=>rfl
  | false=>
   exfalso
   have hm:i∈Region.ready .any ops l:=by
    unfold Region.ready;rw[yA7,zYr];refine⟨hi,?_⟩;have ho:ops[i]? =some ops[i]:=by simp[hi]
    have h3:=zYf.1 hA i (zYr.2 hi);simp only[ho,Option.map_some,zZ3,zYh,yAb,yDi,zZ6,zX9]at h3⊢;refine⟨?_,λx hx=>?_⟩
    ·unfold qN at hl;simp only[zYy]at hl⊢;rw[yBv (by omega)]at hl⊢;simpa using hl
    ·rcases h3 x hx with h4|h4
     ·exact .inl h4
     ·exact .inr (ih _ (by omega) (by omega))
   rw[h]at hm;cases hm
end
structure TN where
 on:Bool
 v:AV
 d:List (Nat×xN)
 r:List Nat
 nw:List Nat
def St.app (st:St) (dst:Option Nat) (v:AV) (d:List (Nat×xN)):St:=⟨match dst with
 |some t=>(t,v)::st.tm
 |none=>st.tm,d++st.h⟩
def gOf (ops:Array Oper) (o:Oper):List Nat:=match o.guard with
 |some (j,_)=>(VV ops j).toList
 |none=>[]
def DU (P:Program) (m:Nat) (ops:Array Oper) (o:Oper) (st:St) (e:TN):Prop:=
 vX e.d=true/\(∀t,o.dst=some t->t<m)/\(∀k,k∈e.nw->zC st.h k=none)/\
 (e.on=true->wR P st o.op e.v e.d e.r e.nw)/\(e.on=false->e.v= .s undef/\e.d=[])/\
 match o.guard with
  |none=>e.on=true
  |some (j,b)=>∃t c,VV ops j=some t/\zG st.tm t= .s c/\e.on=gw c b
def Tr (P:Program) (m:Nat) (ops:Array Oper):List Oper->St->List TN->St->Prop
 | [],st,[],st'=>st=st'
 |o::l,st,e::es,st'=>DU P m ops o st e/\Tr P m ops l (st.app o.dst e.v e.d) es st'
 |_,_,_,_=>False
def vP (L:Nat->Bool):Nat->List (Option Nat×TN)->St->St
 |_,[],st=>st
 |i,(dst,e)::r,st=>vP L (i+1) r (bif L i then st.app dst e.v e.d else st)
theorem ZJ (st:St) (dst:Option Nat) (v:AV) (d:List (Nat×xN)) (t:Nat):zG (st.app dst v d).tm t=if dst=some t then v else zG st.tm t:=by
 cases dst with
 |none=>simp[St.app]
 |some j=>simp only[St.app,yP,zZb];by_cases h:t=j<;>simp[h,eq_comm]
theorem cW (st:St) (dst:Option Nat) (v:AV) (d:List (Nat×xN)) (k:Nat):zC (st.app dst v d).h k=over d (zC st.h) k:=by
 show zC (d++st.h) k=_
 rw[wY]
theorem dH {L L':Nat->Bool} {t:Nat}:∀(r:List (Option Nat×TN)) (i:Nat) (st st':St),zG st.tm t=zG st'.tm t->(∀(j:Nat) p,r[j]? =some p->p.1=some t->L (i+j)=L' (i+j))->
  zG (vP L i r st).tm t=zG (vP L' i r st').tm t
 | [],_,_,_,h,_=>h
 | (dst,e)::r,i,st,st',h,hl=>by
  refine dH r (i+1) _ _ ?_ λj p hp h1=>by have:=hl (j+1) p (by simpa using hp) h1;rwa [show i+1+j=i+(j+1) by omega]
  by_cases hd:dst=some t
  ·have:=hl 0 (dst,e) rfl hd;simp only[yAr]at this;rw[this];cases L' i
   ·exact h
   ·simp only[zZc,ZJ,hd,yC2]
  ·cases L i<;>cases L' i<;>simp only[zZc,zZz,ZJ,zX0 hd,h]
theorem OL {d:List (Nat×xN)} {h:yJ} {k:Nat} (hk:¬k∈yD d):over d h k=h k:=by
 unfold over
 cases he:zC d k with
 |none=>rfl
 |some e=>exact absurd (vJ he) hk
theorem IS {d:List (Nat×xN)} {h h':yJ} {k:Nat} (hk:k∈yD d):over d h k=over d h' k:=by
 obtain⟨e,he⟩:=gM hk;simp[over,he]
theorem gL {L L':Nat->Bool} {k:Nat}:∀(r:List (Option Nat×TN)) (i:Nat) (st st':St),zC st.h k=zC st'.h k->(∀(j:Nat) p,r[j]? =some p->k∈yD p.2.d->L (i+j)=L' (i+j))->
  zC (vP L i r st).h k=zC (vP L' i r st').h k
 | [],_,_,_,h,_=>h
 | (dst,e)::r,i,st,st',h,hl=>by
  refine gL r (i+1) _ _ ?_ λj p hp h1=>by have:=hl (j+1) p (by simpa using hp) h1;rwa [show i+1+j=i+(j+1) by omega]
  by_cases hd:k∈yD e.d
  ·have:=hl 0 (dst,e) rfl hd;simp only[yAr]at this;rw[this];cases L' i
   ·exact h
   ·simp only[zZc,cW];exact IS hd
  ·cases L i<;>cases L' i<;>simp only[zZc,zZz,cW,OL hd,h]
theorem IT {L:Nat->Bool} {P:Program} {m:Nat} {ops:Array Oper}:∀(l:List Oper) (es:List TN) (i:Nat) (st st':St),Tr P m ops l st es st'->(∀j,j<l.length->L (i+j)=true)->vP L i (l.zipWith (λo e=>(o.dst,e)) es) st=st'
 | [],[],_,_,_,h,_=>h
 |o::l,e::es,i,st,st',h,hl=>by
  simp only[yBg,vP];rw[show L i=true from hl 0 zS];exact IT l es (i+1) _ st' h.2 λj hj=>by have:=hl (j+1) (by simpa using hj);rwa [show i+1+j=i+(j+1) by omega]
 | [],_::_,_,_,_,h,_=>h.elim
 |_::_,[],_,_,_,h,_=>h.elim
theorem ZK {L:Nat->Bool}:∀(r:List (Option Nat×TN)) (i:Nat) (st:St),(∀j,j<r.length->L (i+j)=false)->vP L i r st=st
 | [],_,_,_=>rfl
 |(dst,e)::r,i,st,h=>by
  unfold vP;rw[show L i=false from h 0 zS];exact ZK r (i+1) st λj hj=>by have:=h (j+1) (by simpa using hj);rwa [show i+1+j=i+(j+1) by omega]
theorem Tr.len {P:Program} {m:Nat} {ops:Array Oper}:∀{l:List Oper} {es:List TN} {st st':St},Tr P m ops l st es st'->es.length=l.length
 | [],[],_,_,_=>rfl
 |o::l,e::es,_,_,h=>by simp[Tr.len h.2]
 | [],_::_,_,_,h=>h.elim
 |_::_,[],_,_,h=>h.elim
theorem Tr.at {P:Program} {m:Nat} {ops:Array Oper}:∀{l:List Oper} {es:List TN} {st st':St} (i k:Nat) (o:Oper) (e:TN),Tr P m ops l st es st'->l[i]? =some o->es[i]? =some e->
  DU P m ops o (vP (λj=>decide (j<k+i)) k (l.zipWith (λo e=>(o.dst,e)) es) st) e/\
   vP (λj=>decide (j<k+i+1)) k (l.zipWith (λo e=>(o.dst,e)) es) st=(vP (λj=>decide (j<k+i)) k (l.zipWith (λo e=>(o.dst,e)) es) st).app o.dst e.v e.d
 | o'::l,e'::es,st,st',0,k,o,e,h,h1,h2=>by
  simp at h1 h2;subst h1 h2;have q1:vP (λj=>decide (j<k+0)) k ((o'::l).zipWith (λo e=>(o.dst,e)) (e'::es)) st=st:=ZK _ _ _ λj _=>by simp
  have q2:vP (λj=>decide (j<k+0+1)) k ((o'::l).zipWith (λo e=>(o.dst,e)) (e'::es)) st=st.app o'.dst e'.v e'.d:=by
   simp only[yBg,vP,show decide (k<k+0+1)=true by simp,zZc];exact ZK _ _ _ λj _=>by simp
  rw[q1,q2];exact⟨h.1,rfl⟩
 |o'::l,e'::es,st,st',i+1,k,o,e,h,h1,h2=>by
  have ih:=Tr.at i (k+1) o e h.2 LY NA;simp only[yBg,vP,show decide (k<k+(i+1))=true by simp,show decide (k<k+(i+1)+1)=true by simp;omega,zZc];rw[show k+(i+1)=k+1+i by omega];exact ih
 | [],[],_,_,_,_,_,_,_,h1,_=>by simp at h1
 | [],_::_,_,_,_,_,_,_,h,_,_=>h.elim
 |_::_,[],_,_,_,_,_,_,h,_,_=>h.elim
structure FP where
 on:Bool
 w:List Nat
 r:List Nat
def TN.fp (e:TN):FP:=⟨e.on,yD e.d++e.nw,e.r⟩
def MO (ops:Array Oper) (o:Oper):List Nat:=gOf ops o++fU o.op
def qO (ops:Array Oper) (oi oj:Oper) (fi fj:FP):Bool:=
 (match oi.dst with|some t=>(MO ops oj).contains t||oj.dst==some t|none=>false)||(match oj.dst with|some t=>(MO ops oi).contains t|none=>false)||
  fi.w.any (λk=>fj.w.contains k||fj.r.contains k)||fj.w.any (λk=>fi.r.contains k)
def DV (l:List Oper) (T:List Nat) (fs:List FP):Bool:=
 zPg l.toArray&&okT l.toArray T&&(List.range l.length).all λj=>(List.range j).all λi=>match l[i]?,l[j]?,fs[i]?,fs[j]? with
  |some oi,some oj,some fi,some fj=>bit T j i|| !qO l.toArray oi oj fi fj
  |_,_,_,_=>false
section
variable {P:Program} {K0:List Nat} {F:Fr K0} {m:Nat}
theorem YS.congr {tm tm':Nat->AV} {h h':yJ} {a:Act} {w:World} (R:YS F m tm h a w) (e1:∀t,tm' t=tm t) (e2:∀k,h' k=h k):YS F m tm' h' a w:=by
 obtain rfl:tm'=tm:=funext e1;obtain rfl:h'=h:=funext e2;exact R
theorem zKp {id:Nat} {l:List Oper} {st st':St} {es:List TN} {Q:Exit->St->Prop} (hm:P.follows .mixedOrders=true) (hT:Tr P m l.toArray l st es st') (hC:DV l (OK l) (es.map TN.fp)=true) (hq:Q .normal st'):
  uG P F m (.region id l.toArray true) st Q:=by
 refine⟨?_⟩;intro a w H;unfold DV at hC;simp only[zYh,zYf,zYr]at hC;obtain⟨⟨hA,hTc⟩,hX⟩:=hC;generalize OK l=T at *;have hlen:=hT.len
 let R:=l.zipWith (λo e=>(o.dst,e)) es
 have hR:∀(j:Nat) p,R[j]? =some p->∃o e,l[j]? =some o/\es[j]? =some e/\p=(o.dst,e):=λj p hp=>by
  simp only[R,yCz]at hp
  cases ho:l[j]? with
  |none=>simp[ho]at hp
  |some o=>cases he:es[j]? with
   |none=>simp[ho,he]at hp
   |some e=>simp[ho,he]at hp;exact⟨o,e,rfl,rfl,hp.symm⟩
 have hcl:∀i j oi oj ei ej,i<j->l[i]? =some oi->l[j]? =some oj->es[i]? =some ei->es[j]? =some ej->qO l.toArray oi oj ei.fp ej.fp=true->bit T j i=true:=λi j oi oj ei ej hij h1 h2 h3 h4 h5=>by
  have:=hX j (zYq.1 h2).1 i hij;simp only[h1,h2,zX4,h3,h4,Option.map_some,h5,yCv,yDg]at this;simpa using this
 let J:Array Bool->Act->World->Prop:=λL a w=>L.size=l.toArray.size/\(∀i o,l.toArray[i]? =some o->qN L i=true->∀e∈o.after,binds e=true->qN L e.on=true)/\YS F m (zG (vP (qN L) 0 R st).tm) (zC (vP (qN L) 0 R st).h) a w
 have hend:∀L a w,(∀i,i<l.toArray.size->qN L i=true)->J L a w->∃s,Q .normal s/\wK F m s a w:=λL a w hall hJ=>by
  refine⟨st',hq,?_⟩;have:vP (qN L) 0 R st=st':=IT l es 0 st st' hT λj hj=>by rw[zY6];exact hall j (by simpa using hj)
  have h2:=hJ.2.2;rw[this]at h2;exact h2
 have hstep:∀L a w i,J L a w->i∈Region.ready .any l.toArray L->∀K:Act->World->Prop,(∀a' w',J (L.setIfInBounds i true) a' w'->K a' w')->∀Q',wpOpIn (LS F.ro) 0 P l.toArray Q' i K a w:=by
  intro L a w i hJ hi K hK Q';obtain⟨hs,hdn,hRel⟩:=hJ;obtain⟨o,ho,hl,hpre⟩:=jQ hs hi;have hin:i<l.toArray.size:=(zZ5.1 ho).1;have ho':l[i]? =some o:=by simpa using ho
  obtain⟨e,he⟩:∃e,es[i]? =some e:=⟨es[i]'(by rw[hlen];simpa using hin),by simp⟩;have hahead:=TM hA hTc hdn (i+1) i o (by omega) ho hpre
  have hlate:∀j,j<l.toArray.size->bit T j i=true->qN L j=false:=λj hj hij=>by
   cases hlj:qN L j with
   |false=>rfl
   |true=>
    have hoj:l.toArray[j]? =some l.toArray[j]:=by simp[hj]
    have:=TM hA hTc hdn (j+1) j _ (by omega) hoj (hdn j _ hoj hlj) i hij;rw[hl]at this;cases this
  have hord:∀j oj ej,l[j]? =some oj->es[j]? =some ej->j≠i->(j<i->qO l.toArray oj o ej.fp e.fp=true)->(i<j->qO l.toArray o oj e.fp ej.fp=true)->qN L j=decide (j<i):=λj oj ej h1 h2 hne h3 h4=>by
   rcases Nat.lt_or_gt_of_ne hne with h|h
   ·rw[hahead j (hcl j i oj o ej e h h1 ho' h2 he (h3 h))];simp[h]
   ·rw[hlate j (by simpa using (zYq.1 h1).1) (hcl i j o oj e ej h ho' h1 he h2 (h4 h))];simp;omega
  obtain⟨⟨s1,s2,s3,s4,s5,s6⟩,hnext⟩:=hT.at i 0 o e ho' he;simp only[zY6]at s3 s4 s6 hnext
  let Li:Nat->Bool:=λj=>decide (j<i)
  have rdS:∀t,t∈MO l.toArray o->zG (vP (qN L) 0 R st).tm t=zG (vP Li 0 R st).tm t:=λt ht=>dH R 0 st st rfl λj p hp hd=>by
   obtain⟨oj,ej,h1,h2,rfl⟩:=hR j p hp;rw[zY6];by_cases hji:j=i
   ·subst hji;simp only[Li];rw[hl];simp
   ·refine hord j oj ej h1 h2 hji (λ_=>?_) λ_=>?_
    ·unfold qO;simp only[show oj.dst=some t from hd,zZx.2 ht,yAm]
    ·unfold qO;simp only[show oj.dst=some t from hd,zZx.2 ht,yAm,yAk]
  have rdK:∀k,k∈e.r∨k∈e.nw∨k∈yD e.d->zC (vP (qN L) 0 R st).h k=zC (vP Li 0 R st).h k:=λk hk=>gL R 0 st st rfl λj p hp hd=>by
   obtain⟨oj,ej,h1,h2,rfl⟩:=hR j p hp;rw[zY6];by_cases hji:j=i
   ·subst hji;simp only[Li];rw[hl];simp
   ·have hwj:k∈ej.fp.w:=by simp only[TN.fp,zYl];exact .inl hd
    have hki:k∈e.fp.w∨k∈e.fp.r:=by
     simp only[TN.fp,zYl]
     rcases hk with h|h|h
     ·exact .inr h
     ·exact .inl (.inr h)
     ·exact .inl (.inl h)
    refine hord j oj ej h1 h2 hji (λ_=>?_) λ_=>?_
    ·have:ej.fp.w.any (λk=>e.fp.w.contains k||e.fp.r.contains k)=true:=zZp.2 ⟨k,hwj,by simp only[zZ6,zZx];exact hki⟩;unfold qO;simp only[this,yAk,yAm]
    ·rcases hki with h|h
     ·have:e.fp.w.any (λk=>ej.fp.w.contains k||ej.fp.r.contains k)=true:=zZp.2 ⟨k,h,by simp only[zZ6,zZx];exact .inl hwj⟩;unfold qO;simp only[this,yAk,yAm]
     ·have:ej.fp.w.any (λk=>e.fp.r.contains k)=true:=zZp.2 ⟨k,hwj,zZx.2 h⟩;unfold qO;simp only[this,yAk]
  have hL':∀j,qN (L.setIfInBounds i true) j=if j=i then true else qN L j:=λj=>dZ L i j (by rw[hs];exact hin)
  have lookN:∀t,zG (vP (qN (L.setIfInBounds i true)) 0 R st).tm t=if o.dst=some t then e.v else zG (vP (qN L) 0 R st).tm t:=λt=>by
   by_cases hd:o.dst=some t
   ·rw[zX1 hd]
    have h1:zG (vP (qN (L.setIfInBounds i true)) 0 R st).tm t=zG (vP (λj=>decide (j<i+1)) 0 R st).tm t:=dH R 0 st st rfl λj p hp hdj=>by
     obtain⟨oj,ej,h1,h2,rfl⟩:=hR j p hp;rw[zY6,hL'];by_cases hji:j=i
     ·subst hji;simp
     ·have hdj':oj.dst=some t:=hdj;rw[zX0 hji,hord j oj ej h1 h2 hji (λ_=>by unfold qO;simp[hdj',hd]) (λ_=>by unfold qO;simp[hdj',hd])];by_cases h:j<i
      ·simp[h];omega
      ·simp[h];omega
    rw[h1,show(vP (λj=>decide (j<i+1)) 0 R st)=_ from hnext,ZJ,zX1 hd]
   ·rw[zX0 hd]
    exact dH R 0 st st rfl λj p hp hdj=>by
     obtain⟨oj,ej,h1,h2,rfl⟩:=hR j p hp;rw[zY6,hL'];by_cases hji:j=i
     ·subst hji;rw[ho']at h1;cases h1;exact absurd hdj hd
     ·rw[zX0 hji]
  have lookEN:∀k,zC (vP (qN (L.setIfInBounds i true)) 0 R st).h k=over e.d (zC (vP (qN L) 0 R st).h) k:=λk=>by
   by_cases hd:k∈yD e.d
   ·have h1:zC (vP (qN (L.setIfInBounds i true)) 0 R st).h k=zC (vP (λj=>decide (j<i+1)) 0 R st).h k:=gL R 0 st st rfl λj p hp hdj=>by
     obtain⟨oj,ej,h1,h2,rfl⟩:=hR j p hp;rw[zY6,hL'];by_cases hji:j=i
     ·subst hji;simp
     ·have hwj:k∈ej.fp.w:=by simp only[TN.fp,zYl];exact .inl hdj
      have hwi:k∈e.fp.w:=by simp only[TN.fp,zYl];exact .inl hd
      have q1:ej.fp.w.any (λk=>e.fp.w.contains k||e.fp.r.contains k)=true:=zZp.2 ⟨k,hwj,by simp only[zZ6,zZx];exact .inl hwi⟩;have q2:e.fp.w.any (λk=>ej.fp.w.contains k||ej.fp.r.contains k)=true:=zZp.2 ⟨k,hwi,by simp only[zZ6,zZx];exact .inl hwj⟩;rw[zX0 hji,hord j oj ej h1 h2 hji (λ_=>by unfold qO;simp only[q1,yAk,yAm]) (λ_=>by unfold qO;simp only[q2,yAk,yAm])];by_cases h:j<i
      ·simp[h];omega
      ·simp[h];omega
    rw[h1,show(vP (λj=>decide (j<i+1)) 0 R st)=_ from hnext,cW];exact IS hd
   ·rw[OL hd]
    exact gL R 0 st st rfl λj p hp hdj=>by
     obtain⟨oj,ej,h1,h2,rfl⟩:=hR j p hp;rw[zY6,hL'];by_cases hji:j=i
     ·subst hji;rw[he]at h2;cases h2;exact absurd hdj hd
     ·rw[zX0 hji]
  have hfin:∀a' w',YS F m (λt=>if o.dst=some t then e.v else zG (vP (qN L) 0 R st).tm t) (over e.d (zC (vP (qN L) 0 R st).h)) a' w'->K a' w':=λa' w' h=>by
   refine hK a' w' ⟨by simpa using hs,λj oj hoj hlj ed hed hb=>?_,h.congr lookN lookEN⟩;rw[hL']at hlj⊢;by_cases hji:j=i
   ·subst hji;rw[ho]at hoj;cases hoj;split
    ·rfl
    ·exact hpre ed hed hb
   ·rw[zX0 hji]at hlj;split
    ·rfl
    ·exact hdn j oj hoj hlj ed hed hb
  have hexec:e.on=true->o.wpIn (LS F.ro) 0 P a w K Q':=λhon=>
   (s4 hon).rel hRel (λt ht=>rdS t (by unfold MO;simp[ht])) (λk hk=>rdK k (.inl hk)) (λk hk=>by rw[rdK k (.inr (.inl hk))];exact s3 k hk) s1 s2 hfin
  unfold wpOpIn;rw[ho];dsimp only
  cases hg:o.guard with
  |none=>
   rw[hg]at s6;rw[zX1 (by simp[Region.wanted,hg])];exact hexec s6
  | some jb=>
   obtain⟨j,b⟩:=jb;rw[hg]at s6;obtain⟨t,c,g1,g2,g3⟩:=s6;have htr:t∈MO l.toArray o:=by unfold MO gOf;simp[hg,g1]
   have hv:a.eval (.tmp t)=c:=by
    obtain⟨⟨_,β,_,_,Ht,_⟩,_⟩:=hRel;have:=Ht t;rw[rdS t htr,g2]at this;exact this.s_inv
   have hw:=eI hg g1 hv
   cases hon:e.on with
   |true=>
    rw[zX1 (by rw[hw,<-g3,hon])];exact hexec hon
   |false=>
    rw[zX0 (by rw[hw,<-g3,hon];simp)];obtain⟨v1,v2⟩:=s5 hon;refine⟨λ_ _=>trivial,hfin _ _ ?_⟩;rw[v1,v2];exact YS.bot hRel o.dst s2
 have main:∀(fuel:Nat) (L:Array Bool) (a:Act) (w:World),cnt (λi=>!qN L i) l.toArray.size<=fuel->J L a w->wpAnyIn (LS F.ro) 0 P .any l.toArray (λe a' w'=>∃st',Q e st'/\wK F m st' a' w') fuel L a w:=by
  intro fuel
  induction fuel with
  | zero=>
   intro L a w hf hJ
   have all:∀i,i<l.toArray.size->qN L i=true:=by
    intro i hi
    cases hl:qN L i with
    |true=>rfl
    |false=>
     exfalso;have h:=QF (p:=λj=>!qN L j&&j != i) (q:=λj=>!qN L j) l.toArray.size i hi zS (λj hj=>by simp[hj]);simp[hl]at h;simp at hf;omega
   refine⟨?_,hend L a w all hJ⟩
   cases hr:Region.ready .any l.toArray L with
   |nil=>rfl
   |cons i rest=>
    obtain⟨o,ho,hl,_⟩:=jQ hJ.1 (i:=i) (by rw[hr];simp);rw[all i (zZ5.1 ho).1]at hl;cases hl
  |succ fuel ih=>
   intro L a w hf hJ;refine⟨λhr=>hend L a w (λi hi=>LQ hA hJ.1 hr (i+1) i (by omega) hi) hJ,λi hi=>?_⟩;refine hstep L a w i hJ hi _ (λa' w' hJ'=>ih _ _ _ ?_ hJ') _;obtain⟨o,ho,hl,_⟩:=jQ hJ.1 hi;have hin:i<l.toArray.size:=(zZ5.1 ho).1;have h:=QF (p:=λj=>!qN (L.setIfInBounds i true) j) (q:=λj=>!qN L j) l.toArray.size i hin (by simp[dZ L i i (by rw[hJ.1];exact hin)]) (λj hj=>by simp[dZ L i j (by rw[hJ.1];exact hin),hj]);simp[hl]at h;simp at hf⊢;omega
 refine wpIn_region_any hm (main _ _ _ _ (zKo _ _) ?_)
 have hf:∀i,qN (Array.replicate l.toArray.size false) i=false:=by
  intro i;unfold qN;simp only[zYy,Array.getElem?_replicate]
  split<;>rfl
 refine⟨by simp,λi o _ hl=>?_,?_⟩
 ·rw[hf]at hl;cases hl
 ·rw[ZK R 0 st λj _=>hf _];obtain⟨⟨X,β,hX,HH,Ht,KK,hJ,hD⟩,nd,gs,hl⟩:=H;have G:=xM.drew HH (w.drawn+1);exact⟨⟨X,β,hX,G.hok,λt=>(Ht t).evo G.evo,KK.goes G nd (G.lives HH nd),λi hi=>F.go G (hJ i hi),hD.goes HH G⟩,nd,gs,hl⟩
end
theorem zAn {P:Program} {TT:List TI} (h:(List.range TT.length).map (λt=>zKw P t)=TT.map some):uR P TT:=λt ti ht=>by
 have hl:=(zYq.1 ht).1;have:=zY0 (·[t]?) h;simp only[zX4,ht,Option.map_some,zYx hl]at this;simpa using this
def zWt (P:Program) {K0:List Nat} (F:Fr K0) (m:Nat) (ops:Array Oper):Bool->List Oper->St->List FP->(List FP->St->Prop)->Prop
 |false,l,st,_,Q=>GN P F m ops l st (Q [])
 |true,l,st,fs,Q=>∃es st',Tr P m ops l st es st'/\Q ((es.map TN.fp).reverse++fs) st'
structure yC (P:Program) {K0:List Nat} (F:Fr K0) (m:Nat) (ops:Array Oper) (dr:Bool) (l:List Oper) (st:St) (fs:List FP) (Q:List FP->St->Prop):Prop where
 run:zWt P F m ops dr l st fs Q
section
variable {P:Program} {K0:List Nat} {F:Fr K0} {m:Nat} {ops:Array Oper} {rest:List Oper} {Q:List FP->St->Prop} {tm:List (Nat×AV)} {h:List (Nat×xN)} {dr:Bool} {fs:List FP}
theorem qF {st:St} {Q':St->Prop} (hq:Q' st):yC P F m ops false [] st fs (λ_ s=>Q' s):=⟨zPe hq⟩
theorem TO {l:List Oper} {st:St} {Q':St->Prop} (hc:DV l (OK l) fs.reverse=true) (hq:Q' st):yC P F m ops true [] st fs (λfs s=>DV l (OK l) fs.reverse=true/\Q' s):=⟨⟨[],st,rfl,hc,hq⟩⟩
theorem IU {o:Oper} {st st':St} {e:TN} (hon:e.on=true) (hg:o.guard=none) (hs:wR P st o.op e.v e.d e.r e.nw) (hn:∀k,k∈e.nw->zC st.h k=none) (hd:vX e.d=true) (hm:∀t,o.dst=some t->t<m)
  (he:st'=st.app o.dst e.v e.d) (hk:yC P F m ops dr rest st' (e.fp::fs) Q):yC P F m ops dr (o::rest) st fs Q:=by
 subst he
 cases dr with
 |false=>exact⟨zKm hg hs hn hd hm (λt=>ZJ _ _ _ _ _) (funext λk=>cW _ _ _ _ _) hk.run⟩
 |true=>
  obtain⟨es,st2,h1,h2⟩:=hk.run;refine⟨⟨e::es,st2,⟨⟨hd,hm,hn,(λ_=>hs),(λh=>by rw[hon]at h;cases h),by rw[hg];exact hon⟩,h1⟩,?_⟩⟩;simpa using h2
section
variable {op:Op} {ty:Nat} {pos:String} {after:Array Edge} {t:Nat} {v:AV} {r nw:List Nat}
theorem xI (hs:wR P ⟨tm,h⟩ op v [] r []) (hm:Nat.blt t m=true) (hk:yC P F m ops dr rest ⟨(t,v)::tm,h⟩ (⟨true,[],r⟩::fs) Q):yC P F m ops dr (⟨some t,op,ty,pos,after,none⟩::rest) ⟨tm,h⟩ fs Q:=
 IU (e:=⟨true,v,[],r,[]⟩) rfl rfl hs zS rfl (λj hj=>by cases hj;exact zYj hm) rfl hk
theorem uN {k:Nat} {e:xN} (hs:wR P ⟨tm,h⟩ op v [(k,e)] r nw) (hm:Nat.blt t m=true) (hn:nw.all (λj=>(zC h j).isNone)=true) (hd:vX [(k,e)]=true) (hk:yC P F m ops dr rest ⟨(t,v)::tm,(k,e)::h⟩ (⟨true,k::nw,r⟩::fs) Q):
  yC P F m ops dr (⟨some t,op,ty,pos,after,none⟩::rest) ⟨tm,h⟩ fs Q:=
 IU (e:=⟨true,v,[(k,e)],r,nw⟩) rfl rfl hs (λj hj=>by have:=zYf.1 hn j hj;simpa using this) hd (λj hj=>by cases hj;exact zYj hm) rfl hk
theorem x_s {k:Nat} {e:xN} (hs:wR P ⟨tm,h⟩ op v [(k,e)] r nw) (hn:nw.all (λj=>(zC h j).isNone)=true) (hd:vX [(k,e)]=true) (hk:yC P F m ops dr rest ⟨tm,(k,e)::h⟩ (⟨true,k::nw,r⟩::fs) Q):yC P F m ops dr (⟨none,op,ty,pos,after,none⟩::rest) ⟨tm,h⟩ fs Q:=
 IU (e:=⟨true,v,[(k,e)],r,nw⟩) rfl rfl hs (λj hj=>by have:=zYf.1 hn j hj;simpa using this) hd (λj hj=>by cases hj) rfl hk
theorem aN {d:List (Nat×xN)} (hs:wR P ⟨tm,h⟩ op v d r nw) (hm:Nat.blt t m=true) (hn:nw.all (λj=>(zC h j).isNone)=true) (hd:vX d=true) (hk:yC P F m ops dr rest ⟨(t,v)::tm,d++h⟩ (⟨true,yD d++nw,r⟩::fs) Q):
  yC P F m ops dr (⟨some t,op,ty,pos,after,none⟩::rest) ⟨tm,h⟩ fs Q:=
 IU (e:=⟨true,v,d,r,nw⟩) rfl rfl hs (λj hj=>by have:=zYf.1 hn j hj;simpa using this) hd (λj hj=>by cases hj;exact zYj hm) rfl hk
end
theorem DU.on {P:Program} {m:Nat} {ops:Array Oper} {d:Option Nat} {op:Op} {ty:Nat} {pos:String} {after:Array Edge} {j t:Nat} {b:Bool} {st:St} {e:TN} (ht:VV ops j=some t) (hv:zG st.tm t= .s (.bool b)) (hs:DU P m ops ⟨d,op,ty,pos,after,none⟩ st e):
  DU P m ops ⟨d,op,ty,pos,after,some (j,b)⟩ st e:=by
 obtain⟨h1,h2,h3,h4,h5,h6⟩:=hs;exact⟨h1,h2,h3,h4,h5,t,.bool b,ht,hv,by rw[show e.on=true from h6];simp[gw]⟩
theorem zUi {d:Option Nat} {op:Op} {ty:Nat} {pos:String} {after:Array Edge} {j t:Nat} {b:Bool} {st:St} (ht:VV ops j=some t) (hv:zG st.tm t= .s (.bool b)) (hk:yC P F m ops dr (⟨d,op,ty,pos,after,none⟩::rest) st fs Q):
  yC P F m ops dr (⟨d,op,ty,pos,after,some (j,b)⟩::rest) st fs Q:=by
 cases dr with
 |false=>exact⟨zUh ht hv hk.run⟩
 |true=>
  obtain⟨es,st2,h1,h2⟩:=hk.run
  cases es with
  |nil=>exact h1.elim
  |cons e es=>exact⟨⟨e::es,st2,⟨h1.1.on ht hv,h1.2⟩,h2⟩⟩
theorem zKq {d:Nat} {op:Op} {ty:Nat} {pos:String} {after:Array Edge} {j t:Nat} {b:Bool} {c:Value} (ht:VV ops j=some t) (hv:zG tm t= .s c) (hc:gw c b=false) (hm:Nat.blt d m=true) (hk:yC P F m ops dr rest ⟨(d,.s undef)::tm,h⟩ (⟨false,[],[]⟩::fs) Q):
  yC P F m ops dr (⟨some d,op,ty,pos,after,some (j,b)⟩::rest) ⟨tm,h⟩ fs Q:=by
 cases dr with
 |false=>exact⟨zPf ht hv hc hm hk.run⟩
 |true=>
  obtain⟨es,st2,h1,h2⟩:=hk.run;refine⟨⟨⟨false,.s undef,[],[],[]⟩::es,st2,⟨⟨rfl,(λj hj=>by cases hj;exact zYj hm),by simp,(λh=>by cases h),(λ_=>⟨rfl,rfl⟩),t,c,ht,hv,hc.symm⟩,h1⟩,?_⟩⟩;rw[zZl,List.reverse_cons,zYv];exact h2
theorem zPi {st:St} {l:List Oper} {t:Nat} {c:Bool} (hv:zG st.tm t= .s (.bool c)) (h1:c=true->yC P F m ops false l ⟨(t,.s (.bool true))::st.tm,st.h⟩ fs Q) (h2:c=false->yC P F m ops false l ⟨(t,.s (.bool false))::st.tm,st.h⟩ fs Q):yC P F m ops false l st fs Q:=⟨zEm hv (λh=>(h1 h).run) (λh=>(h2 h).run)⟩
theorem cX {d:Option Nat} {op:Op} {ty:Nat} {pos:String} {after:Array Edge} {j t:Nat} {b c:Bool} (ht:VV ops j=some t) (hv:zG tm t= .s (.bool c)) (h1:c=true->yC P F m ops false (⟨d,op,ty,pos,after,some (j,b)⟩::rest) ⟨(t,.s (.bool true))::tm,h⟩ fs Q) (h2:c=false->yC P F m ops false (⟨d,op,ty,pos,after,some (j,b)⟩::rest) ⟨(t,.s (.bool false))::tm,h⟩ fs Q):
  yC P F m ops false (⟨d,op,ty,pos,after,some (j,b)⟩::rest) ⟨tm,h⟩ fs Q:=by
 have:=ht;exact zPi (st:=⟨tm,h⟩) hv h1 h2
section
variable {ty t:Nat} {pos:String} {after:Array Edge} {st:St} {g:Option (Nat×Bool)} {d:Option Nat}
theorem wD {c:Operand} {asq:Array Operand} {ts:Array Nat} (hk:yC P F m ops dr (⟨some t,(.call ⟨.value c,asq,ts⟩),ty,pos,after,none⟩::rest) st fs Q):yC P F m ops dr (⟨some t,(.call ⟨.value c,asq,ts⟩),ty,pos,after,none⟩::rest) st fs Q:=hk
theorem wW {op:BinOp} {tx t2:Nat} {x y:Operand} (hk:yC P F m ops dr (⟨some t,(.binOp op tx x y t2),ty,pos,after,none⟩::rest) st fs Q):yC P F m ops dr (⟨some t,(.binOp op tx x y t2),ty,pos,after,none⟩::rest) st fs Q:=hk
theorem zAo {tx:Nat} {x y:Operand} (hk:yC P F m ops dr (⟨some t,(.indexAddr tx x y),ty,pos,after,none⟩::rest) st fs Q):yC P F m ops dr (⟨some t,(.indexAddr tx x y),ty,pos,after,none⟩::rest) st fs Q:=hk
theorem IV {tx:Nat} {x:Operand} (hk:yC P F m ops dr (⟨some t,(.load tx x),ty,pos,after,none⟩::rest) st fs Q):yC P F m ops dr (⟨some t,(.load tx x),ty,pos,after,none⟩::rest) st fs Q:=hk
theorem zAp {tx n:Nat} {x:Operand} (hk:yC P F m ops dr (⟨some t,(.fieldAddr tx x n),ty,pos,after,none⟩::rest) st fs Q):yC P F m ops dr (⟨some t,(.fieldAddr tx x n),ty,pos,after,none⟩::rest) st fs Q:=hk
theorem bR {tx:Nat} {x y:Operand} (hk:yC P F m ops dr (⟨none,(.store tx x y),ty,pos,after,none⟩::rest) st fs Q):yC P F m ops dr (⟨none,(.store tx x y),ty,pos,after,none⟩::rest) st fs Q:=hk
theorem WM {op:Op} {j:Nat} {b:Bool} (hk:yC P F m ops dr (⟨d,op,ty,pos,after,some (j,b)⟩::rest) st fs Q):yC P F m ops dr (⟨d,op,ty,pos,after,some (j,b)⟩::rest) st fs Q:=hk
theorem zE {l:List Oper} (hk:yC P F m ops dr l st fs Q):yC P F m ops dr l st fs Q:=hk
end
theorem xD {Q:Exit->St->Prop} {id:Nat} {l:List Oper} {st:St} (hk:yC P F m l.toArray false l st [] (λ_ s=>Q .normal s)):uG P F m (.region id l.toArray false) st Q:=zAs hk.run
theorem vD {Q:Exit->St->Prop} {id:Nat} {l:List Oper} {st:St} (hm:P.follows .mixedOrders=true) (hk:yC P F m l.toArray true l st [] (λfs s=>DV l (OK l) fs.reverse=true/\Q .normal s)):uG P F m (.region id l.toArray true) st Q:=by
 obtain⟨es,st2,h1,h2,h3⟩:=hk.run;exact zKp hm h1 NA h3
end
end Av
end Go.Proofs.YtmamjhmoegjapaaGreat
