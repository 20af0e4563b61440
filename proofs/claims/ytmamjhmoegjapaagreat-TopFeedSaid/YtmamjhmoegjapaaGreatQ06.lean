/- Part 6. -/
import Derived.Test.YtmamjhmoegjapaaGreatQ05
import Derived.RangeFuncLeaves
import Derived.Orders
namespace Go.Proofs.YtmamjhmoegjapaaGreat
namespace Av
set_option linter.all false
section
section ops
variable {P:Program} {K0:List Nat} {F:Fr K0} {m:Nat} {ops:Array Oper} {rest:List Oper} {Q:St->Prop} {tm:List (Nat×AV)} {h:List (Nat×xN)}
theorem zN3 {st:St} (hq:Q st):HG P F m ops [] st Q:=λ_ _ H=>⟨rfl,st,hq,H⟩
theorem zIu {o:Oper} {st:St} {v:AV} {d:List (Nat×xN)} {r nw:List Nat} {st':St} (hg:o.guard=none) (hs:wR P st o.op v d r nw) (hn:∀k,k∈nw->zC st.h k=none) (hd:vX d=true) (hm:∀t,o.dst=some t->t<m)
  (he:∀t,zG st'.tm t=if o.dst=some t then v else zG st.tm t) (hh:zC st'.h=over d (zC st.h)) (hk:HG P F m ops rest st' Q):HG P F m ops (o::rest) st Q:=λa w H=>
 wpListIn_plain hg λK hK=>hs.rel H (λ_ _=>rfl) (λ_ _=>rfl) hn hd hm λa' w' H'=>hK _ _ (hk a' w' (by
  have e1:zG st'.tm=λt=>if o.dst=some t then v else zG st.tm t:=funext he
  unfold wH;rw[e1,hh]
  exact H'))
section
variable {op:Op} {ty:Nat} {pos:String} {after:Array Edge} {t:Nat} {v:AV} {r nw:List Nat}
end
def VC (ops:Array Oper) (j:Nat):Option Nat:=(ops[j]?).bind (·.dst)
def gw (v:Value) (b:Bool):Bool:=match v with
 | .bool c=>c==b
 |_=>false
theorem fS {o:Oper} {j t:Nat} {b:Bool} {v:Value} (hg:o.guard=some (j,b)) (ht:VC ops j=some t) {a:Act} (hv:a.eval (.tmp t)=v):Region.wanted o (yielded ops a.tmps)=gw v b:=by
 subst hv;simp only[Region.wanted,hg,yielded,show(ops[j]?).bind (·.dst)=some t from ht,Option.bind_some,Act.eval,zX5]
 cases h:a.tmps[t]? with
 |none=>simp[undef,gw]
 |some u=>cases u<;>simp[gw]
theorem EB {st:St} {a:Act} {w:World} (H:wH F m st a w) {t:Nat} {c:Value} (hv:zG st.tm t= .s c):a.eval (.tmp t)=c:=by
 obtain⟨⟨_,β,_,_,Ht,_⟩,_⟩:=H;have:=Ht t;rw[hv]at this;exact this.s_inv
theorem zS3 {d:Option Nat} {op:Op} {ty:Nat} {pos:String} {after:Array Edge} {j t:Nat} {b:Bool} {st:St} (ht:VC ops j=some t) (hv:zG st.tm t= .s (.bool b)) (hk:HG P F m ops (⟨d,op,ty,pos,after,none⟩::rest) st Q):
  HG P F m ops (⟨d,op,ty,pos,after,some (j,b)⟩::rest) st Q:=λa w H=>by
 have hw:=fS (o:=⟨d,op,ty,pos,after,some (j,b)⟩) rfl ht (EB H hv);have:=hk a w H;unfold wpListIn at this⊢;rw[zW9 (by rw[hw];simp[gw])];rw[zW9 (by simp[Region.wanted])]at this;exact this
theorem YF.bot {tm:Nat->AV} {h:yH} {a:Act} {w:World} (H:YF F m tm h a w) (dst:Option Nat) (hm:∀t,dst=some t->t<m):YF F m (λt=>if dst=some t then .s undef else tm t) h (a.put dst undef) w:=by
 obtain⟨⟨X,β,hX,HH,Ht,KK,hJ,hD⟩,nd,gs,hl⟩:=H;exact YF.put hX HH Ht KK hJ hD gs hl (xM.refl HH) nd (.fz _ _ (.s _)) dst hm
theorem zN4 {d:Nat} {op:Op} {ty:Nat} {pos:String} {after:Array Edge} {j t:Nat} {b:Bool} {c:Value} (ht:VC ops j=some t) (hv:zG tm t= .s c) (hc:gw c b=false) (hm:Nat.blt d m=true) (hk:HG P F m ops rest ⟨(d,.s undef)::tm,h⟩ Q):
  HG P F m ops (⟨some d,op,ty,pos,after,some (j,b)⟩::rest) ⟨tm,h⟩ Q:=λa w H=>by
 have hw:=fS (o:=⟨some d,op,ty,pos,after,some (j,b)⟩) rfl ht (EB H hv);unfold wpListIn;rw[zW8 (by rw[hw,hc];simp)];refine⟨λ_ _=>trivial,hk _ _ ?_⟩;have:=YF.bot H (some d) (λj hj=>by cases hj;exact zXq hm)
 have e1:zG ((d,.s undef)::tm)=λt=>if some d=some t then AV.s undef else zG tm t:=funext λt=>by rw[yN];simp[eq_comm]
 unfold wH;rw[e1];exact this
theorem EC {st:St} {l:List Oper} {t:Nat} {c c':Bool} (hv:zG st.tm t= .s (.bool c)) (hc:c=c') (hk:HG P F m ops l ⟨(t,.s (.bool c'))::st.tm,st.h⟩ Q):HG P F m ops l st Q:=λa w H=>hk a w (by
 subst hc
 have e1:zG ((t,.s (.bool c))::st.tm)=zG st.tm:=funext λj=>by
  rw[yN];split
  ·rename_i h;subst h;exact hv.symm
  ·rfl
 unfold wH;dsimp only;rw[e1]
 exact H)
theorem zDo {st:St} {l:List Oper} {t:Nat} {c:Bool} (hv:zG st.tm t= .s (.bool c)) (h1:c=true->HG P F m ops l ⟨(t,.s (.bool true))::st.tm,st.h⟩ Q) (h2:c=false->HG P F m ops l ⟨(t,.s (.bool false))::st.tm,st.h⟩ Q):HG P F m ops l st Q:=by
 cases c with
 |true=>exact EC hv rfl (h1 rfl)
 |false=>exact EC hv rfl (h2 rfl)
end ops
section code
variable {P:Program} {K0:List Nat} {F:Fr K0} {m:Nat} {Q:Exit->St->Prop} {st:St}
theorem jE {c:Code} (K ts:List Nat) (hK:K0.all (K.contains ·)=true) {st':St} (he:restr K ts st=st') (h:uC P F m c st' Q):uC P F m c st Q:=⟨λa w H=>h.run a w (he▸wH.restr H K ts hK)⟩
theorem wV {c:Code} (I:Nat->St->Prop) (n:Nat) (K ts:List Nat) (hK:K0.all (K.contains ·)=true) (h0:I n (restr K ts st)) (round:∀n st,I n st->uC P F m c st (λe s=>match e with
  | .normal=>∃n',n'<n/\I n' (restr K ts s)
  |e=>Q e s)):uC P F m (.loop c) st Q:=by
 refine jE K ts hK rfl ⟨λa w H=>?_⟩;refine SE (λn a w=>∃st,I n st/\wH F m st a w) n ⟨_,h0,H⟩ λn a w ⟨st,hI,hR⟩=>?_
 refine Code.wpIn_mono (λe a' w' ⟨s,h1,h2⟩=>?_) ((round n st hI).run a w hR)
 cases e with
 |normal=>
  obtain⟨n',hlt,hI'⟩:=h1;exact⟨n',hlt,_,hI',wH.restr h2 K ts hK⟩
 |_=>exact⟨s,h1,h2⟩
end code
def NN (TT:List TI) (st:St):List ResultVar->Option (List AV)
 | []=>some []
 | .tmp t::r=>(NN TT st r).map (zG st.tm t:: ·)
 | .cell a T::r=>match zG st.tm a with
  | .ptr k 0 off=>match zC st.h k,TT[T]? with
   |some (.box cs),some ti=>match AP ti.d.agg ti.size cs off with
    |some v=>(NN TT st r).map (v:: ·)
    |none=>none
   |_,_=>none
  |_=>none
def ED:List AV->AV
 | [v]=>v
 |vs=> .tup vs
def zIv (tmps:Array Value):ResultVar->Sem Value
 | .tmp t=>pure (tmps.getD t undef)
 | .cell b t=>do loadVar t (<-asAddr (tmps.getD b undef))
theorem PB {P:Program} {TT:List TI} (hP:uL P TT) {st:St} {X:Nat->Prop} {β:uB} {w:World} {a:Act} (H:kI X (zC st.h) β w) (Ht:∀t,zV w (xF X β) (zC st.h) β (zG st.tm t) (a.eval (.tmp t))):
  ∀(l:List ResultVar) (vs:List AV),NN TT st l=some vs->∃cs:List Value,(l.mapM (zIv a.tmps)).run P w= .ok cs w/\cs.length=vs.length/\
   ∀(i:Nat) v,vs[i]? =some v->zV w (xF X β) (zC st.h) β v (cs.getD i undef)
 | [],vs,h=>by cases h;exact⟨[],rfl,rfl,λi v hv=>by simp at hv⟩
 | .tmp t::r,vs,h=>by
  simp only[NN,zXn]at h;obtain⟨vs',h1,rfl⟩:=h;obtain⟨cs,h2,h3,h4⟩:=PB hP H Ht r vs' h1;refine⟨a.tmps.getD t undef::cs,by simp only[yC8,zIv,Sem.run_bind,Sem.run_pure,Result.andThen_ok,h2],by simp[h3],λi v hv=>?_⟩
  cases i with
  |zero=>simp at hv;subst hv;exact Ht t
  |succ i=>simpa using h4 i v ER
 | .cell b T::r,vs,h=>by
  simp only[NN]at h;split at h
  ·rename_i k off hb;split at h
   ·rename_i cs ti hk hT;split at h
    ·rename_i v hv;rw[zXn]at h;obtain⟨vs',h1,rfl⟩:=h;obtain⟨cs',h2,h3,h4⟩:=PB hP H Ht r vs' h1;have hp:=Ht b;rw[hb]at hp;obtain⟨bl,hc,_,hR⟩:=RL H hk hp;obtain⟨c,h5,h6⟩:=JM hP hT hR hv;rw[zYe]at h5;have hc':a.tmps.getD b undef= .pointer (some ⟨bl,off,none⟩):=hc;refine⟨c::cs',by simp only[yC8,zIv,Sem.run_bind,hc',asAddr,Sem.run_pure,Result.andThen_ok,h5,h2],by simp[h3],λi v hv=>?_⟩
     cases i with
     |zero=>simp at hv;subst hv;exact h6
     |succ i=>simpa using h4 i v ER
    ·cases h
   ·cases h
  ·cases h
def VD:Nat->List AV->List (Nat×AV)
 |_,[]=>[]
 |i,v::r=>(i,v)::VD (i+1) r
theorem XL:∀(l:List AV) (i t:Nat),zG (VD i l) t=if i<=t then l.getD (t-i) .bot else .bot
 | [],i,t=>by simp[VD,zG]
 | v::r,i,t=>by
  rw[VD,yN,XL r];by_cases h:t=i
  ·subst h;simp
  ·rw[zW8 h];by_cases h2:i<=t
   ·rw[zW9 h2,zW9 (by omega),show t-i=(t-(i+1))+1 by omega];simp
   ·rw[zW8 h2,zW8 (by omega)]
def Fin (TT:List TI) (rs:List ResultVar) (h0:List (Nat×xN)) (r:AV) (h1:List (Nat×xN)) (e:Exit) (st:St):Prop:=
 (e= .normal∨e= .ret)/\∃vs K,NN TT st rs=some vs/\(yD h0).all (K.contains ·)=true/\(r=wN K (zC st.h) (ED vs)∨r=XO (wN K (zC st.h) (ED vs)))/\zC h1=zC (wS K (zC st.h))
theorem zH {TT:List TI} {rs:List ResultVar} {h0:List (Nat×xN)} {r:AV} {h1:List (Nat×xN)} {st:St} {vs:List AV} (K:List Nat) (h:NN TT st rs=some vs) (hK:(yD h0).all (K.contains ·)=true) (hr:XO (wN K (zC st.h) (ED vs))=r) (hh:wS K (zC st.h)=h1):
 Fin TT rs h0 r h1 .ret st:=⟨.inr rfl,vs,K,h,hK,.inr hr.symm,by rw[hh]⟩
theorem zL {TT:List TI} {rs:List ResultVar} {h0:List (Nat×xN)} {r:AV} {h1:List (Nat×xN)} {st:St} {vs:List AV} (K:List Nat) (h:NN TT st rs=some vs) (hK:(yD h0).all (K.contains ·)=true) (hr:wN K (zC st.h) (ED vs)=r) (hh:wS K (zC st.h)=h1):
 Fin TT rs h0 r h1 .ret st:=⟨.inr rfl,vs,K,h,hK,.inl hr.symm,by rw[hh]⟩
theorem xE.less {w:World} {D D':Nat->Prop} (h:∀b,D' b->D b) {v:AV} {c:Value} (hv:xE w D v c):xE w D' v c:=
 hv.evo (zXc _) λb _ hd=>⟨rfl,λh'=>hd (h b h')⟩
theorem zV.less {w:World} {X X':Nat->Prop} {h:yH} {β:uB} (hX:∀b,X' b->X b) {v:AV} {c:Value} (hv:zV w (xF X β) h β v c):zV w (xF X' β) h β v c:=
 hv.evo ⟨zXc _,λb _ hd=>⟨rfl,λh'=>hd (h'.imp (hX b) id)⟩,λ_ _ _ _=>rfl,qS h β⟩
theorem kI.less {w:World} {X X':Nat->Prop} {h:yH} {β:uB} (hX:∀b,X' b->X b) (H:kI X h β w):kI X' h β w:=
 ⟨λk e he=>(H.ent k e he).evo ⟨zXc _,λb _ hd=>⟨rfl,λh'=>hd (h'.imp (hX b) id)⟩,λ_ _ _ _=>rfl,qS h β⟩ rfl λ_ _ _=>rfl,H.off,H.disj,λk b n hm hx=>H.free k b n hm (hX b hx),λb hd=>H.lt b (hd.imp (hX b) id)⟩
theorem VE {w w':World} {X:Nat->Prop} {h:yH} {β:uB} (H:kI X h β w) (hs:w.heap.size<=w'.heap.size) (hk:∀b,b<w.heap.size->¬X b->w'.heap[b]? =w.heap[b]?):JP w (xF X β) h β w' (xF X β) h β:=
 ⟨hs,λb hb hd=>⟨hk b hb λhx=>hd (.inl hx),hd⟩,λk b n hm=>by
  unfold xX World.shape?
  rw[hk b (H.lt b (.inr ⟨k,n,hm⟩)) (H.free k b n hm)],qS h β⟩
theorem kI.turn {w w':World} {X:Nat->Prop} {h:yH} {β:uB} (H:kI X h β w) (hs:w.heap.size<=w'.heap.size) (hk:∀b,b<w.heap.size->¬X b->w'.heap[b]? =w.heap[b]?):kI X h β w':=
 ⟨λk e he=>(H.ent k e he).evo (VE H hs hk) rfl λb n hm=>hk b (H.lt b (.inr ⟨k,n,hm⟩)) (H.free k b n hm),H.off,H.disj,H.free,λb hd=>zYh (H.lt b hd) hs⟩
theorem VF {P:Program} {fn:Func} {tmps:Array Value} {R:Ending->World->Prop}:∀(bs:List Nat) (w:World),bs.Nodup->(∀b,b∈bs->w.heap[b]? =some (.deferred (some [])))->
  (∀w',w'.heap.size=w.heap.size->(∀b,¬b∈bs->w'.heap[b]? =w.heap[b]?)->w'.os=w.os->w'.tape=w.tape->w'.output=w.output->∃v,(results fn tmps).run P w'= .ok v w'/\R (.returned v) w')->
  LeavesInM Fence.wide 0 P fn tmps R (bs.map λb=>{target:= .collected b,args:= #[]}) .returning w
 | [],w,_,_,h=>h w rfl (λ_ _=>rfl) rfl rfl rfl
 |b::bs,w,hn,hb,h=>by
  have hn':=List.nodup_cons.1 hn;refine⟨by simp,.inl ⟨b,w.putObj b (.deferred none),rfl,run_takeDeferred (hb b zS),VF bs _ hn'.2 (λc hc=>?_) (λw' h1 h2 h3 h4 h5=>?_)⟩⟩
  ·rw[World.putObj_heap_other (show c≠b from λe=>hn'.1 (by rw[<-e];exact hc))];exact hb c (by simp[hc])
  ·refine h w' (by rw[h1];simp) (λc hc=>?_) h3 h4 h5;simp at hc;rw[h2 c hc.2,World.putObj_heap_other hc.1]
theorem XM {P:Program} {TT:List TI} (hP:uL P TT) {f:Nat} {fn:Func} {body:Code} {args:List AV} {h0:List (Nat×xN)} {r:AV} {h1:List (Nat×xN)} (hf:P.funcs[f]? =some fn) (hb:fn.body=some body) (able:cR P f) (hlen:Nat.ble args.length fn.ntmps=true)
    (hnd:vX h0=true) (hnd1:vX h1=true) (h:∀F:Fr (yD h0),F.ro=none/\F.it=false->uC P F fn.ntmps body ⟨VD 0 args,h0⟩ (Fin TT fn.results.toList h0 r h1)) (hgs:Nat.ble fn.ntmps GS=true:=by rfl):xO P f args h0 r h1:=by
  refine⟨able,λk=>qD hnd1,λX w β cargs hcl H hargs=>(callsIn_wide (n:=0)).1 ?_⟩;have hlen:=zXq hlen
  let F:Fr (yD h0):=⟨X,w,β,zC h0,λk b n hm=>by
    cases hk:zC h0 k with
    |none=>rw[H.off k hk]at hm;simp at hm
    |some e=>exact vF hk,λk e he=>vF he,none,false,λ_=>False,λ_ _ _ _=>True,λ_ _ _ _ _ _ _ _ _ _ _ _ _ _=>trivial⟩
  refine callsIn_of_wp_marks (F:=Fence.wide) (n:=0) hf hb trivial (Code.wpIn_mono (λe a' w1 q=>?_) ((h F ⟨rfl,rfl⟩).run _ w ⟨⟨X,β,⟨λ_ h=>h,λ_ h=> .inl h⟩,H,λt=>?_,⟨λk e he=>?_,zXc _,λ_ _ _ _=>rfl,λk b n hm=> .inl ⟨k,n,hm⟩,λk b n hm=>⟨n,zXc _,hm⟩,λ_ _ _ _=>rfl,rfl,rfl,rfl⟩,λ_ _=>trivial,[],rfl,λ_=>rfl,yCm,λb hb=>by simp at hb⟩,λk=>qD hnd,zXq hgs,by simp;omega⟩)) rfl
  · obtain ⟨st,⟨he,vs,K,hv,hK,hr,hh⟩,R⟩:=q;obtain⟨⟨X2,β2,⟨hX2,_⟩,H2',Ht2',KK',_,bs,hds,_,hbn,hbs⟩,nd2,_,hl2⟩:=R
    have goal:LeavesInM Fence.wide 0 P fn a'.tmps (λe w'=>∃c β',e= .returned c/\xM X w (zC h0) β w' (zC h1) β'/\zV w' (xF X β') (zC h1) β' r c) a'.defers .returning w1:=by
     rw[hds];refine VF bs w1 hbn (λb hb=>(hbs b hb).2.2) λw' sz kp o1 o2 o3=>?_
     have kp':∀b,b<w1.heap.size->¬X2 b->w'.heap[b]? =w1.heap[b]? :=λb _ hx=>kp b λhm=>hx (hbs b hm).1
     have H2:=H2'.turn (zZa sz.symm) kp';have Ht2:=λt=>(Ht2' t).evo (VE H2' (zZa sz.symm) kp')
     have KK:gA F (zC st.h) β2 w':=⟨KK'.knd,by rw[sz];exact KK'.size,λb hb hi hn=>by rw[kp b λhm=>by have:=(hbs b hm).2.1;omega];exact KK'.keep b hb hi hn,KK'.own,KK'.pas,λk b n hm=>by
      rw[<-KK'.bs k b n hm];obtain⟨n',_,hm'⟩:=KK'.pas k b n hm;unfold xX World.shape?
      rw[kp' b (H2'.lt b (.inr ⟨k,n',hm'⟩)) (H2'.free k b n' hm')],o1.trans KK'.os,o2.trans KK'.tape,o3.trans KK'.output⟩
     obtain⟨cs,q1,q2,q3⟩:=PB hP H2 Ht2 _ _ hv;obtain⟨H3',hv3'⟩:=H2.restr K;have H3:=H3'.less hX2;have hv3:=λv c hv=>(hv3' v c hv).less hX2
     have hrun:∃c,(results fn a'.tmps).run P w'= .ok c w'/\zV w' (xF X2 β2) (zC st.h) β2 (ED vs) c:=by
       have hm:(fn.results.mapM (zIv a'.tmps)).run P w'= .ok cs.toArray w':=by
         rw[<-Array.toArray_toList (xs:=fn.results),List.mapM_toArray];simp only[Sem.run_map,q1,Result.andThen_ok]
       have hres:(results fn a'.tmps).run P w'= .ok (if h:cs.toArray.size=1 then cs.toArray[0]else .tuple cs.toArray) w':=by
         show(fn.results.mapM (zIv a'.tmps) >>= λvs=>pure (if h:vs.size=1 then vs[0]else .tuple vs)).run P w'=_
         rw[Sem.run_bind,hm];rfl
       refine⟨_,hres,?_⟩;by_cases h1:cs.length=1
       · rw[yCn ET]
         match cs,vs,h1,q2,q3 with
         | [c],[v],_,_,q3=>exact q3 0 v rfl
       · rw[dif_neg ET]
         have hvs:ED vs= .tup vs:=by
           match vs,q2 with
           | [],_=>rfl
           | [v],q2=>exact absurd q2 h1
           |_::_::_,_=>rfl
         rw[hvs];exact .tup vs _ (by simpa using q2) λi v hi=>by simpa [List.getD]using q3 i v hi
     obtain⟨c,hc1,hc2⟩:=hrun
     have hpost:∃c β',Ending.returned c= .returned c/\(results fn a'.tmps).run P w'= .ok c w'/\xM X w (zC h0) β w' (zC h1) β'/\zV w' (xF X β') (zC h1) β' r c:=by
       refine⟨c,λk=>if k∈K then β2 k else [],rfl,hc1,?_,?_⟩
       · rw [hh];refine⟨KK.size,λb hb hn=>KK.keep b hb (λhf=>hf) hn,λk b n hm=>?_,KK.bs,λk e he=> .inr ?_,H3,KK.os,KK.tape,KK.output⟩
         · (try dsimp only at hm)
           split at hm
           · exact KK.own k b n hm
           · simp at hm
         · have hkK:k∈K:=by
             have:=zXm.1 hK k (vF he);simpa using this
           have h1:=KK.knd k e he;have hrr:∀e',zC st.h k=some e'->zC (wS K (zC st.h)) k=some (qR K (zC st.h) e'):=λe' h2=>by rw[xW,zW9 hkK,h2];rfl
           cases e with
           |dead=>exact h1
           | box cs0=>
             obtain⟨cs',h2⟩:=h1;refine⟨⟨_,hrr _ h2⟩,λb n hm=>?_⟩
             (try dsimp only)
             rw[zW9 hkK];obtain⟨n',hn',hm'⟩:=KK.pas k b n hm;obtain⟨b2,_,_,e2,_⟩:=H2.ent k _ h2;obtain⟨b1,_,_,e1,_⟩:=H.ent k _ he;rw[e1]at hm;rw[e2]at hm'⊢;simp at hm hm'⊢;exact⟨hm'.1,hm.2⟩
           | arr sz xs sl=>
             obtain⟨xs',sl',h2,h3⟩:=h1;obtain⟨xs2,fl2,h4,h5⟩:=jU K (zC st.h) sz xs' sl';refine⟨⟨xs2,fl2,(hrr _ h2).trans (by rw[h4]),by rw[h5];exact h3⟩,λb n hm=>?_⟩
             (try dsimp only)
             rw[zW9 hkK];exact KK.pas k b n hm
       · rw[hh]
         rcases hr with rfl|rfl
         · exact hv3 _ _ hc2
         · exact(hv3 _ _ hc2).wk
     obtain⟨c,β',_,hc1,hc2,hc3⟩:=hpost;exact⟨c,hc1,c,β',rfl,hc2,hc3⟩
    rcases he with rfl|rfl
    · exact goal
    · exact goal
  · show zV w (xF X β) (zC h0) β (zG (VD 0 args) t) _
    rw[XL,zW9 (zXp _),yB4];by_cases ht:t<args.length
    · have h2:args[t]? =some (args.getD t .bot):=by simp[List.getD,ht]
      have:=hargs t _ h2
      have e:Act.eval {tmps:=cargs++Array.replicate (fn.ntmps-cargs.size) undef,defers:=[]} (.tmp t)=cargs.getD t undef:=by
        simp only[Act.eval,zX5];rw[zZc (by omega)]
      rw[e];exact this
    · have:args.getD t .bot= .bot:=by simp[List.getD,zX0 (by omega:args.length<=t)]
      rw[this];exact .fz _ _ (.bot _)
  · have he':zC h0 k=some e:=he
    cases e with
    |dead=>exact absurd he' (qD hnd)
    |box cs=>exact⟨cs,he'⟩
    |arr sz xs sl=>exact⟨xs,sl,he',zXc _⟩
end
def qL (l:Array Bool) (i:Nat):Bool:=l.getD i false
def binds (e:Edge):Bool:=Region.binds .any e
def zN5 (ops:Array Oper):Bool:=(List.range ops.size).all λi=>((ops[i]?).map λo=>o.after.all λe=>!binds e||decide (e.on<i)).getD false
def zN6 (T:List Nat):List Edge->Nat->Nat
 | [],m=>m
 |e::r,m=>zN6 T r (bif binds e then m ||| (2 ^ e.on ||| T.getD e.on 0)else m)
def zPv:List Oper->List Nat->List Nat
 | [],T=>T
 |o::r,T=>zPv r (T++[zN6 T o.after.toList 0])
def PC (ops:List Oper):List Nat:=zPv ops []
def okT (ops:Array Oper) (T:List Nat):Bool:=
 (List.range ops.size).all λi=>((ops[i]?).map λo=>Nat.beq (T.getD i 0) (zN6 T o.after.toList 0)).getD false
def bit (T:List Nat) (i j:Nat):Bool:=(T.getD i 0).testBit j
theorem EE (T:List Nat) (j:Nat):∀(l:List Edge) (m:Nat),(zN6 T l m).testBit j=true->m.testBit j=true∨∃e,e∈l/\binds e=true/\(e.on=j∨bit T e.on j=true)
 | [],m,h=> .inl h
 | e::r,m,h=>by
  rcases EE T j r _ h with h1|⟨e',h1,h2,h3⟩
  ·cases hb:binds e with
   |false=>rw[hb]at h1;exact .inl h1
   |true=>
    rw[hb,zYk,yDa,yDa,Nat.testBit_two_pow,zZe,zZe]at h1
    rcases h1 with h1|h1|h1
    ·exact .inl h1
    ·exact .inr ⟨e,by simp,hb,.inl ET⟩
    ·exact .inr ⟨e,by simp,hb,.inr h1⟩
  ·exact .inr ⟨e',by simp[h1],h2,h3⟩
theorem dQ (l:Array Bool) (i j:Nat) (hi:i<l.size):qL (l.setIfInBounds i true) j=if j=i then true else qL l j:=by
 unfold qL;by_cases e:j=i
 ·subst e;simp[zX5,hi]
 ·rw[zW8 e];simp only[zX5,Array.getElem?_setIfInBounds_ne (Ne.symm e)]
def cnt (p:Nat->Bool):Nat->Nat
 |0=>0
 |k+1=>cnt p k+if p k then 1 else 0
theorem zDp {p q:Nat->Bool} (n:Nat) (h:∀i,i<n->p i=q i):cnt p n=cnt q n:=by
 induction n with
 |zero=>rfl
 |succ n ih=>unfold cnt;rw[ih λi hi=>h i (by omega),h n (by omega)]
theorem zIw (p:Nat->Bool) (n:Nat):cnt p n<=n:=by
 induction n with
 |zero=>exact zXc _
 |succ n ih=>unfold cnt;split<;>omega
theorem RK {p q:Nat->Bool} (n i:Nat) (hi:i<n) (hp:p i=false) (h:∀j,j≠i->q j=p j):cnt q n=cnt p n+if q i then 1 else 0:=by
 induction n with
 |zero=>omega
 |succ n ih=>
  unfold cnt;by_cases e:i=n
  ·subst e;rw[zDp (q:=p) i λj hj=>h j (by omega),hp];simp
  ·rw[ih (by omega),h n (λe'=>e e'.symm)];omega
section
variable {ops:Array Oper} {T:List Nat}
theorem UV (hA:zN5 ops=true) (hT:okT ops T=true) {l:Array Bool} (hd:∀i o,ops[i]? =some o->qL l i=true->∀e∈o.after,binds e=true->qL l e.on=true):
  ∀(n i:Nat) (o:Oper),i<n->ops[i]? =some o->(∀e∈o.after,binds e=true->qL l e.on=true)->∀j,bit T i j=true->qL l j=true:=by
 intro n
 induction n with
 |zero=>intro i o h;omega
 | succ n ih=>
  intro i o hin ho he j hj;have hi:i<ops.size:=(zZd.1 ho).1;have h1:=zXm.1 hT i (zXz.2 hi);simp only[ho,Option.map_some,zZg]at h1;unfold bit at hj;rw[zX4 h1]at hj
  rcases EE T j _ _ hj with h2|⟨x,hx,hb,h2⟩
  ·simp at h2
  have hm:x∈o.after:=by simpa using hx
  have hl:=he _ hm hb
  rcases h2 with h2|h2
  ·rw[<-h2];exact hl
  ·have h3:=zXm.1 hA i (zXz.2 hi);obtain⟨y,hy,rfl⟩:=Array.getElem_of_mem hm;simp only[ho,Option.map_some,zZg,yCu,zZe,zZl,zXi]at h3;have h4:o.after[y].on<i:=(h3 y hy).resolve_left (by rw[hb];simp);have h5:o.after[y].on<ops.size:=by omega
   exact ih _ ops[o.after[y].on] (by omega) (by simp[h5]) (hd _ _ (by simp[h5]) hl) j h2
theorem jF {l:Array Bool} {i:Nat} (hs:l.size=ops.size) (h:i∈Region.ready .any ops l):∃o,ops[i]? =some o/\qL l i=false/\∀e∈o.after,binds e=true->qL l e.on=true:=by
 unfold Region.ready at h;rw[yAj,zXz]at h;obtain⟨hi,h⟩:=h;have ho:ops[i]? =some ops[i]:=by simp[hi]
 simp only[ho,Option.map_some,zZg,zXo,zZl,yCu,zZe]at h;refine⟨ops[i],ho,?_,λe he hb=>?_⟩
 ·have:=h.1;unfold qL;simp only[zX5]at this⊢;rw[Array.getElem?_eq_getElem (by omega)]at this⊢;simpa using this
 ·obtain⟨x,hx,rfl⟩:=Array.getElem_of_mem he
  rcases h.2 x hx with h2|h2
  ·unfold binds at hb;rw[hb]at h2;cases h2
  ·exact h2
theorem MO (hA:zN5 ops=true) {l:Array Bool} (hs:l.size=ops.size) (h:Region.ready .any ops l=[]):∀n i,i<n->i<ops.size->qL l i=true:=by
 intro n
 induction n with
 |zero=>intro i h;omega
 | succ n ih=>
  intro i hin hi
  cases hl:qL l i with
  |true=>rfl
  | false=>
   exfalso
   have hm:i∈Region.ready .any ops l:=by
    unfold Region.ready;rw[yAj,zXz];refine⟨hi,?_⟩;have ho:ops[i]? =some ops[i]:=by simp[hi]
    have h3:=zXm.1 hA i (zXz.2 hi);simp only[ho,Option.map_some,zZg,zXo,zZl,yCu,zZe,zXi]at h3⊢;refine⟨?_,λx hx=>?_⟩
    ·unfold qL at hl;simp only[zX5]at hl⊢;rw[Array.getElem?_eq_getElem (by omega)]at hl⊢;simpa using hl
    ·rcases h3 x hx with h4|h4
     ·exact .inl h4
     ·exact .inr (ih _ (by omega) (by omega))
   rw[h]at hm;cases hm
end
structure UW where
 on:Bool
 v:AV
 d:List (Nat×xN)
 r:List Nat
 nw:List Nat
def St.app (st:St) (dst:Option Nat) (v:AV) (d:List (Nat×xN)):St:=⟨match dst with
 |some t=>(t,v)::st.tm
 |none=>st.tm,d++st.h⟩
def gOf (ops:Array Oper) (o:Oper):List Nat:=match o.guard with
 |some (j,_)=>(VC ops j).toList
 |none=>[]
def EF (P:Program) (m:Nat) (ops:Array Oper) (o:Oper) (st:St) (e:UW):Prop:=
 vX e.d=true/\(∀t,o.dst=some t->t<m)/\(∀k,k∈e.nw->zC st.h k=none)/\
 (e.on=true->wR P st o.op e.v e.d e.r e.nw)/\(e.on=false->e.v= .s undef/\e.d=[])/\
 match o.guard with
  |none=>e.on=true
  |some (j,b)=>∃t c,VC ops j=some t/\zG st.tm t= .s c/\e.on=gw c b
def Tr (P:Program) (m:Nat) (ops:Array Oper):List Oper->St->List UW->St->Prop
 | [],st,[],st'=>st=st'
 |o::l,st,e::es,st'=>EF P m ops o st e/\Tr P m ops l (st.app o.dst e.v e.d) es st'
 |_,_,_,_=>False
def vM (L:Nat->Bool):Nat->List (Option Nat×UW)->St->St
 |_,[],st=>st
 |i,(dst,e)::r,st=>vM L (i+1) r (bif L i then st.app dst e.v e.d else st)
theorem aY (st:St) (dst:Option Nat) (v:AV) (d:List (Nat×xN)) (t:Nat):zG (st.app dst v d).tm t=if dst=some t then v else zG st.tm t:=by
 cases dst with
 |none=>simp[St.app]
 |some j=>simp only[St.app,yN,zYj];by_cases h:t=j<;>simp[h,eq_comm]
theorem cO (st:St) (dst:Option Nat) (v:AV) (d:List (Nat×xN)) (k:Nat):zC (st.app dst v d).h k=over d (zC st.h) k:=by
 show zC (d++st.h) k=_
 rw[wU]
theorem dB {L L':Nat->Bool} {t:Nat}:∀(r:List (Option Nat×UW)) (i:Nat) (st st':St),zG st.tm t=zG st'.tm t->(∀(j:Nat) p,r[j]? =some p->p.1=some t->L (i+j)=L' (i+j))->
  zG (vM L i r st).tm t=zG (vM L' i r st').tm t
 | [],_,_,_,h,_=>h
 | (dst,e)::r,i,st,st',h,hl=>by
  refine dB r (i+1) _ _ ?_ λj p hp h1=>by have:=hl (j+1) p (by simpa using hp) h1;rwa [show i+1+j=i+(j+1) by omega]
  by_cases hd:dst=some t
  ·have:=hl 0 (dst,e) rfl hd;simp only[yAd]at this;rw[this];cases L' i
   ·exact h
   ·simp only[zYk,aY,hd,yCy]
  ·cases L i<;>cases L' i<;>simp only[zYk,zY8,aY,zW8 hd,h]
theorem PD {d:List (Nat×xN)} {h:yH} {k:Nat} (hk:¬k∈yD d):over d h k=h k:=by
 unfold over
 cases he:zC d k with
 |none=>rfl
 |some e=>exact absurd (vF he) hk
theorem JF {d:List (Nat×xN)} {h h':yH} {k:Nat} (hk:k∈yD d):over d h k=over d h' k:=by
 obtain⟨e,he⟩:=gH hk;simp[over,he]
theorem gG {L L':Nat->Bool} {k:Nat}:∀(r:List (Option Nat×UW)) (i:Nat) (st st':St),zC st.h k=zC st'.h k->(∀(j:Nat) p,r[j]? =some p->k∈yD p.2.d->L (i+j)=L' (i+j))->
  zC (vM L i r st).h k=zC (vM L' i r st').h k
 | [],_,_,_,h,_=>h
 | (dst,e)::r,i,st,st',h,hl=>by
  refine gG r (i+1) _ _ ?_ λj p hp h1=>by have:=hl (j+1) p (by simpa using hp) h1;rwa [show i+1+j=i+(j+1) by omega]
  by_cases hd:k∈yD e.d
  ·have:=hl 0 (dst,e) rfl hd;simp only[yAd]at this;rw[this];cases L' i
   ·exact h
   ·simp only[zYk,cO];exact JF hd
  ·cases L i<;>cases L' i<;>simp only[zYk,zY8,cO,PD hd,h]
theorem JG {L:Nat->Bool} {P:Program} {m:Nat} {ops:Array Oper}:∀(l:List Oper) (es:List UW) (i:Nat) (st st':St),Tr P m ops l st es st'->(∀j,j<l.length->L (i+j)=true)->vM L i (l.zipWith (λo e=>(o.dst,e)) es) st=st'
 | [],[],_,_,_,h,_=>h
 |o::l,e::es,i,st,st',h,hl=>by
  simp only[yAq,vM];rw[show L i=true from hl 0 zS];exact JG l es (i+1) _ st' h.2 λj hj=>by have:=hl (j+1) (by simpa using hj);rwa [show i+1+j=i+(j+1) by omega]
 | [],_::_,_,_,_,h,_=>h.elim
 |_::_,[],_,_,_,h,_=>h.elim
theorem aZ {L:Nat->Bool}:∀(r:List (Option Nat×UW)) (i:Nat) (st:St),(∀j,j<r.length->L (i+j)=false)->vM L i r st=st
 | [],_,_,_=>rfl
 |(dst,e)::r,i,st,h=>by
  unfold vM;rw[show L i=false from h 0 zS];exact aZ r (i+1) st λj hj=>by have:=h (j+1) (by simpa using hj);rwa [show i+1+j=i+(j+1) by omega]
theorem Tr.len {P:Program} {m:Nat} {ops:Array Oper}:∀{l:List Oper} {es:List UW} {st st':St},Tr P m ops l st es st'->es.length=l.length
 | [],[],_,_,_=>rfl
 |o::l,e::es,_,_,h=>by simp[Tr.len h.2]
 | [],_::_,_,_,h=>h.elim
 |_::_,[],_,_,h=>h.elim
theorem Tr.at {P:Program} {m:Nat} {ops:Array Oper}:∀{l:List Oper} {es:List UW} {st st':St} (i k:Nat) (o:Oper) (e:UW),Tr P m ops l st es st'->l[i]? =some o->es[i]? =some e->
  EF P m ops o (vM (λj=>decide (j<k+i)) k (l.zipWith (λo e=>(o.dst,e)) es) st) e/\
   vM (λj=>decide (j<k+i+1)) k (l.zipWith (λo e=>(o.dst,e)) es) st=(vM (λj=>decide (j<k+i)) k (l.zipWith (λo e=>(o.dst,e)) es) st).app o.dst e.v e.d
 | o'::l,e'::es,st,st',0,k,o,e,h,h1,h2=>by
  simp at h1 h2;subst h1 h2;have q1:vM (λj=>decide (j<k+0)) k ((o'::l).zipWith (λo e=>(o.dst,e)) (e'::es)) st=st:=aZ _ _ _ λj _=>by simp
  have q2:vM (λj=>decide (j<k+0+1)) k ((o'::l).zipWith (λo e=>(o.dst,e)) (e'::es)) st=st.app o'.dst e'.v e'.d:=by
   simp only[yAq,vM,show decide (k<k+0+1)=true by simp,zYk];exact aZ _ _ _ λj _=>by simp
  rw[q1,q2];exact⟨h.1,rfl⟩
 |o'::l,e'::es,st,st',i+1,k,o,e,h,h1,h2=>by
  have ih:=Tr.at i (k+1) o e h.2 ET MU;simp only[yAq,vM,show decide (k<k+(i+1))=true by simp,show decide (k<k+(i+1)+1)=true by simp;omega,zYk];rw[show k+(i+1)=k+1+i by omega];exact ih
 | [],[],_,_,_,_,_,_,_,h1,_=>by simp at h1
 | [],_::_,_,_,_,_,_,_,h,_,_=>h.elim
 |_::_,[],_,_,_,_,_,_,h,_,_=>h.elim
structure FP where
 on:Bool
 w:List Nat
 r:List Nat
def UW.fp (e:UW):FP:=⟨e.on,yD e.d++e.nw,e.r⟩
def NP (ops:Array Oper) (o:Oper):List Nat:=gOf ops o++fK o.op
def qM (ops:Array Oper) (oi oj:Oper) (fi fj:FP):Bool:=
 (match oi.dst with|some t=>(NP ops oj).contains t||oj.dst==some t|none=>false)||(match oj.dst with|some t=>(NP ops oi).contains t|none=>false)||
  fi.w.any (λk=>fj.w.contains k||fj.r.contains k)||fj.w.any (λk=>fi.r.contains k)
def EG (l:List Oper) (T:List Nat) (fs:List FP):Bool:=
 zN5 l.toArray&&okT l.toArray T&&(List.range l.length).all λj=>(List.range j).all λi=>match l[i]?,l[j]?,fs[i]?,fs[j]? with
  |some oi,some oj,some fi,some fj=>bit T j i|| !qM l.toArray oi oj fi fj
  |_,_,_,_=>false
section
variable {P:Program} {K0:List Nat} {F:Fr K0} {m:Nat}
theorem YF.congr {tm tm':Nat->AV} {h h':yH} {a:Act} {w:World} (R:YF F m tm h a w) (e1:∀t,tm' t=tm t) (e2:∀k,h' k=h k):YF F m tm' h' a w:=by
 obtain rfl:tm'=tm:=funext e1;obtain rfl:h'=h:=funext e2;exact R
theorem zIx {id:Nat} {l:List Oper} {st st':St} {es:List UW} {Q:Exit->St->Prop} (hm:P.follows .mixedOrders=true) (hT:Tr P m l.toArray l st es st') (hC:EG l (PC l) (es.map UW.fp)=true) (hq:Q .normal st'):
  uC P F m (.region id l.toArray true) st Q:=by
 refine⟨?_⟩;intro a w H;unfold EG at hC;simp only[zXo,zXm,zXz]at hC;obtain⟨⟨hA,hTc⟩,hX⟩:=hC;generalize PC l=T at *;have hlen:=hT.len
 let R:=l.zipWith (λo e=>(o.dst,e)) es
 have hR:∀(j:Nat) p,R[j]? =some p->∃o e,l[j]? =some o/\es[j]? =some e/\p=(o.dst,e):=λj p hp=>by
  simp only[R,yCb]at hp
  cases ho:l[j]? with
  |none=>simp[ho]at hp
  |some o=>cases he:es[j]? with
   |none=>simp[ho,he]at hp
   |some e=>simp[ho,he]at hp;exact⟨o,e,rfl,rfl,hp.symm⟩
 have hcl:∀i j oi oj ei ej,i<j->l[i]? =some oi->l[j]? =some oj->es[i]? =some ei->es[j]? =some ej->qM l.toArray oi oj ei.fp ej.fp=true->bit T j i=true:=λi j oi oj ei ej hij h1 h2 h3 h4 h5=>by
  have:=hX j (zXv.1 h2).1 i hij;simp only[h1,h2,zXd,h3,h4,Option.map_some,h5,yB8,yCt]at this;simpa using this
 let J:Array Bool->Act->World->Prop:=λL a w=>L.size=l.toArray.size/\(∀i o,l.toArray[i]? =some o->qL L i=true->∀e∈o.after,binds e=true->qL L e.on=true)/\YF F m (zG (vM (qL L) 0 R st).tm) (zC (vM (qL L) 0 R st).h) a w
 have hend:∀L a w,(∀i,i<l.toArray.size->qL L i=true)->J L a w->∃s,Q .normal s/\wH F m s a w:=λL a w hall hJ=>by
  refine⟨st',hq,?_⟩;have:vM (qL L) 0 R st=st':=JG l es 0 st st' hT λj hj=>by rw[zYe];exact hall j (by simpa using hj)
  have h2:=hJ.2.2;rw[this]at h2;exact h2
 have hstep:∀L a w i,J L a w->i∈Region.ready .any l.toArray L->∀K:Act->World->Prop,(∀a' w',J (L.setIfInBounds i true) a' w'->K a' w')->∀Q',wpOpIn (MQ F.ro) 0 P l.toArray Q' i K a w:=by
  intro L a w i hJ hi K hK Q';obtain⟨hs,hdn,hRel⟩:=hJ;obtain⟨o,ho,hl,hpre⟩:=jF hs hi;have hin:i<l.toArray.size:=(zZd.1 ho).1;have ho':l[i]? =some o:=by simpa using ho
  obtain⟨e,he⟩:∃e,es[i]? =some e:=⟨es[i]'(by rw[hlen];simpa using hin),by simp⟩;have hahead:=UV hA hTc hdn (i+1) i o (by omega) ho hpre
  have hlate:∀j,j<l.toArray.size->bit T j i=true->qL L j=false:=λj hj hij=>by
   cases hlj:qL L j with
   |false=>rfl
   |true=>
    have hoj:l.toArray[j]? =some l.toArray[j]:=by simp[hj]
    have:=UV hA hTc hdn (j+1) j _ (by omega) hoj (hdn j _ hoj hlj) i hij;rw[hl]at this;cases this
  have hord:∀j oj ej,l[j]? =some oj->es[j]? =some ej->j≠i->(j<i->qM l.toArray oj o ej.fp e.fp=true)->(i<j->qM l.toArray o oj e.fp ej.fp=true)->qL L j=decide (j<i):=λj oj ej h1 h2 hne h3 h4=>by
   rcases Nat.lt_or_gt_of_ne hne with h|h
   ·rw[hahead j (hcl j i oj o ej e h h1 ho' h2 he (h3 h))];simp[h]
   ·rw[hlate j (by simpa using (zXv.1 h1).1) (hcl i j o oj e ej h ho' h1 he h2 (h4 h))];simp;omega
  obtain⟨⟨s1,s2,s3,s4,s5,s6⟩,hnext⟩:=hT.at i 0 o e ho' he;simp only[zYe]at s3 s4 s6 hnext
  let Li:Nat->Bool:=λj=>decide (j<i)
  have rdS:∀t,t∈NP l.toArray o->zG (vM (qL L) 0 R st).tm t=zG (vM Li 0 R st).tm t:=λt ht=>dB R 0 st st rfl λj p hp hd=>by
   obtain⟨oj,ej,h1,h2,rfl⟩:=hR j p hp;rw[zYe];by_cases hji:j=i
   ·subst hji;simp only[Li];rw[hl];simp
   ·refine hord j oj ej h1 h2 hji (λ_=>?_) λ_=>?_
    ·unfold qM;simp only[show oj.dst=some t from hd,zY5.2 ht,zZ3]
    ·unfold qM;simp only[show oj.dst=some t from hd,zY5.2 ht,zZ3,zZu]
  have rdK:∀k,k∈e.r∨k∈e.nw∨k∈yD e.d->zC (vM (qL L) 0 R st).h k=zC (vM Li 0 R st).h k:=λk hk=>gG R 0 st st rfl λj p hp hd=>by
   obtain⟨oj,ej,h1,h2,rfl⟩:=hR j p hp;rw[zYe];by_cases hji:j=i
   ·subst hji;simp only[Li];rw[hl];simp
   ·have hwj:k∈ej.fp.w:=by simp only[UW.fp,zXs];exact .inl hd
    have hki:k∈e.fp.w∨k∈e.fp.r:=by
     simp only[UW.fp,zXs]
     rcases hk with h|h|h
     ·exact .inr h
     ·exact .inl (.inr h)
     ·exact .inl (.inl h)
    refine hord j oj ej h1 h2 hji (λ_=>?_) λ_=>?_
    ·have:ej.fp.w.any (λk=>e.fp.w.contains k||e.fp.r.contains k)=true:=zYv.2 ⟨k,hwj,by simp only[zZe,zY5];exact hki⟩;unfold qM;simp only[this,zZu,zZ3]
    ·rcases hki with h|h
     ·have:e.fp.w.any (λk=>ej.fp.w.contains k||ej.fp.r.contains k)=true:=zYv.2 ⟨k,h,by simp only[zZe,zY5];exact .inl hwj⟩;unfold qM;simp only[this,zZu,zZ3]
     ·have:ej.fp.w.any (λk=>e.fp.r.contains k)=true:=zYv.2 ⟨k,hwj,zY5.2 h⟩;unfold qM;simp only[this,zZu]
  have hL':∀j,qL (L.setIfInBounds i true) j=if j=i then true else qL L j:=λj=>dQ L i j (by rw[hs];exact hin)
  have lookN:∀t,zG (vM (qL (L.setIfInBounds i true)) 0 R st).tm t=if o.dst=some t then e.v else zG (vM (qL L) 0 R st).tm t:=λt=>by
   by_cases hd:o.dst=some t
   ·rw[zW9 hd]
    have h1:zG (vM (qL (L.setIfInBounds i true)) 0 R st).tm t=zG (vM (λj=>decide (j<i+1)) 0 R st).tm t:=dB R 0 st st rfl λj p hp hdj=>by
     obtain⟨oj,ej,h1,h2,rfl⟩:=hR j p hp;rw[zYe,hL'];by_cases hji:j=i
     ·subst hji;simp
     ·have hdj':oj.dst=some t:=hdj;rw[zW8 hji,hord j oj ej h1 h2 hji (λ_=>by unfold qM;simp[hdj',hd]) (λ_=>by unfold qM;simp[hdj',hd])];by_cases h:j<i
      ·simp[h];omega
      ·simp[h];omega
    rw[h1,show(vM (λj=>decide (j<i+1)) 0 R st)=_ from hnext,aY,zW9 hd]
   ·rw[zW8 hd]
    exact dB R 0 st st rfl λj p hp hdj=>by
     obtain⟨oj,ej,h1,h2,rfl⟩:=hR j p hp;rw[zYe,hL'];by_cases hji:j=i
     ·subst hji;rw[ho']at h1;cases h1;exact absurd hdj hd
     ·rw[zW8 hji]
  have lookEN:∀k,zC (vM (qL (L.setIfInBounds i true)) 0 R st).h k=over e.d (zC (vM (qL L) 0 R st).h) k:=λk=>by
   by_cases hd:k∈yD e.d
   ·have h1:zC (vM (qL (L.setIfInBounds i true)) 0 R st).h k=zC (vM (λj=>decide (j<i+1)) 0 R st).h k:=gG R 0 st st rfl λj p hp hdj=>by
     obtain⟨oj,ej,h1,h2,rfl⟩:=hR j p hp;rw[zYe,hL'];by_cases hji:j=i
     ·subst hji;simp
     ·have hwj:k∈ej.fp.w:=by simp only[UW.fp,zXs];exact .inl hdj
      have hwi:k∈e.fp.w:=by simp only[UW.fp,zXs];exact .inl hd
      have q1:ej.fp.w.any (λk=>e.fp.w.contains k||e.fp.r.contains k)=true:=zYv.2 ⟨k,hwj,by simp only[zZe,zY5];exact .inl hwi⟩;have q2:e.fp.w.any (λk=>ej.fp.w.contains k||ej.fp.r.contains k)=true:=zYv.2 ⟨k,hwi,by simp only[zZe,zY5];exact .inl hwj⟩;rw[zW8 hji,hord j oj ej h1 h2 hji (λ_=>by unfold qM;simp only[q1,zZu,zZ3]) (λ_=>by unfold qM;simp only[q2,zZu,zZ3])];by_cases h:j<i
      ·simp[h];omega
      ·simp[h];omega
    rw[h1,show(vM (λj=>decide (j<i+1)) 0 R st)=_ from hnext,cO];exact JF hd
   ·rw[PD hd]
    exact gG R 0 st st rfl λj p hp hdj=>by
     obtain⟨oj,ej,h1,h2,rfl⟩:=hR j p hp;rw[zYe,hL'];by_cases hji:j=i
     ·subst hji;rw[he]at h2;cases h2;exact absurd hdj hd
     ·rw[zW8 hji]
  have hfin:∀a' w',YF F m (λt=>if o.dst=some t then e.v else zG (vM (qL L) 0 R st).tm t) (over e.d (zC (vM (qL L) 0 R st).h)) a' w'->K a' w':=λa' w' h=>by
   refine hK a' w' ⟨by simpa using hs,λj oj hoj hlj ed hed hb=>?_,h.congr lookN lookEN⟩;rw[hL']at hlj⊢;by_cases hji:j=i
   ·subst hji;rw[ho]at hoj;cases hoj;split
    ·rfl
    ·exact hpre ed hed hb
   ·rw[zW8 hji]at hlj;split
    ·rfl
    ·exact hdn j oj hoj hlj ed hed hb
  have hexec:e.on=true->o.wpIn (MQ F.ro) 0 P a w K Q':=λhon=>
   (s4 hon).rel hRel (λt ht=>rdS t (by unfold NP;simp[ht])) (λk hk=>rdK k (.inl hk)) (λk hk=>by rw[rdK k (.inr (.inl hk))];exact s3 k hk) s1 s2 hfin
  unfold wpOpIn;rw[ho];dsimp only
  cases hg:o.guard with
  |none=>
   rw[hg]at s6;rw[zW9 (by simp[Region.wanted,hg])];exact hexec s6
  | some jb=>
   obtain⟨j,b⟩:=jb;rw[hg]at s6;obtain⟨t,c,g1,g2,g3⟩:=s6;have htr:t∈NP l.toArray o:=by unfold NP gOf;simp[hg,g1]
   have hv:a.eval (.tmp t)=c:=by
    obtain⟨⟨_,β,_,_,Ht,_⟩,_⟩:=hRel;have:=Ht t;rw[rdS t htr,g2]at this;exact this.s_inv
   have hw:=fS hg g1 hv
   cases hon:e.on with
   |true=>
    rw[zW9 (by rw[hw,<-g3,hon])];exact hexec hon
   |false=>
    rw[zW8 (by rw[hw,<-g3,hon];simp)];obtain⟨v1,v2⟩:=s5 hon;refine⟨λ_ _=>trivial,hfin _ _ ?_⟩;rw[v1,v2];exact YF.bot hRel o.dst s2
 have main:∀(fuel:Nat) (L:Array Bool) (a:Act) (w:World),cnt (λi=>!qL L i) l.toArray.size<=fuel->J L a w->wpAnyIn (MQ F.ro) 0 P .any l.toArray (λe a' w'=>∃st',Q e st'/\wH F m st' a' w') fuel L a w:=by
  intro fuel
  induction fuel with
  | zero=>
   intro L a w hf hJ
   have all:∀i,i<l.toArray.size->qL L i=true:=by
    intro i hi
    cases hl:qL L i with
    |true=>rfl
    |false=>
     exfalso;have h:=RK (p:=λj=>!qL L j&&j != i) (q:=λj=>!qL L j) l.toArray.size i hi zS (λj hj=>by simp[hj]);simp[hl]at h;simp at hf;omega
   refine⟨?_,hend L a w all hJ⟩
   cases hr:Region.ready .any l.toArray L with
   |nil=>rfl
   |cons i rest=>
    obtain⟨o,ho,hl,_⟩:=jF hJ.1 (i:=i) (by rw[hr];simp);rw[all i (zZd.1 ho).1]at hl;cases hl
  |succ fuel ih=>
   intro L a w hf hJ;refine⟨λhr=>hend L a w (λi hi=>MO hA hJ.1 hr (i+1) i (by omega) hi) hJ,λi hi=>?_⟩;refine hstep L a w i hJ hi _ (λa' w' hJ'=>ih _ _ _ ?_ hJ') _;obtain⟨o,ho,hl,_⟩:=jF hJ.1 hi;have hin:i<l.toArray.size:=(zZd.1 ho).1;have h:=RK (p:=λj=>!qL (L.setIfInBounds i true) j) (q:=λj=>!qL L j) l.toArray.size i hin (by simp[dQ L i i (by rw[hJ.1];exact hin)]) (λj hj=>by simp[dQ L i j (by rw[hJ.1];exact hin),hj]);simp[hl]at h;simp at hf⊢;omega
 refine wpIn_region_any hm (main _ _ _ _ (zIw _ _) ?_)
 have hf:∀i,qL (Array.replicate l.toArray.size false) i=false:=by
  intro i;unfold qL;simp only[zX5,Array.getElem?_replicate]
  split<;>rfl
 refine⟨by simp,λi o _ hl=>?_,?_⟩
 ·rw[hf]at hl;cases hl
 ·rw[aZ R 0 st λj _=>hf _];obtain⟨⟨X,β,hX,HH,Ht,KK,hJ,hD⟩,nd,gs,hl⟩:=H;have G:=xM.drew HH (w.drawn+1);exact⟨⟨X,β,hX,G.hok,λt=>(Ht t).evo G.evo,KK.goes G nd (G.lives HH nd),λi hi=>F.go G (hJ i hi),hD.goes HH G⟩,nd,gs,hl⟩
end
theorem AJ {P:Program} {TT:List TI} (h:(List.range TT.length).map (λt=>zI5 P t)=TT.map some):uL P TT:=λt ti ht=>by
 have hl:=(zXv.1 ht).1;have:=zX7 (·[t]?) h;simp only[zXd,ht,Option.map_some,zX6 hl]at this;simpa using this
def zVt (P:Program) {K0:List Nat} (F:Fr K0) (m:Nat) (ops:Array Oper):Bool->List Oper->St->List FP->(List FP->St->Prop)->Prop
 |false,l,st,_,Q=>HG P F m ops l st (Q [])
 |true,l,st,fs,Q=>∃es st',Tr P m ops l st es st'/\Q ((es.map UW.fp).reverse++fs) st'
structure zZ (P:Program) {K0:List Nat} (F:Fr K0) (m:Nat) (ops:Array Oper) (dr:Bool) (l:List Oper) (st:St) (fs:List FP) (Q:List FP->St->Prop):Prop where
 run:zVt P F m ops dr l st fs Q
section
variable {P:Program} {K0:List Nat} {F:Fr K0} {m:Nat} {ops:Array Oper} {rest:List Oper} {Q:List FP->St->Prop} {tm:List (Nat×AV)} {h:List (Nat×xN)} {dr:Bool} {fs:List FP}
theorem qC {st:St} {Q':St->Prop} (hq:Q' st):zZ P F m ops false [] st fs (λ_ s=>Q' s):=⟨zN3 hq⟩
theorem UX {l:List Oper} {st:St} {Q':St->Prop} (hc:EG l (PC l) fs.reverse=true) (hq:Q' st):zZ P F m ops true [] st fs (λfs s=>EG l (PC l) fs.reverse=true/\Q' s):=⟨⟨[],st,rfl,hc,hq⟩⟩
theorem JH {o:Oper} {st st':St} {e:UW} (hon:e.on=true) (hg:o.guard=none) (hs:wR P st o.op e.v e.d e.r e.nw) (hn:∀k,k∈e.nw->zC st.h k=none) (hd:vX e.d=true) (hm:∀t,o.dst=some t->t<m)
  (he:st'=st.app o.dst e.v e.d) (hk:zZ P F m ops dr rest st' (e.fp::fs) Q):zZ P F m ops dr (o::rest) st fs Q:=by
 subst he
 cases dr with
 |false=>exact⟨zIu hg hs hn hd hm (λt=>aY _ _ _ _ _) (funext λk=>cO _ _ _ _ _) hk.run⟩
 |true=>
  obtain⟨es,st2,h1,h2⟩:=hk.run;refine⟨⟨e::es,st2,⟨⟨hd,hm,hn,(λ_=>hs),(λh=>by rw[hon]at h;cases h),by rw[hg];exact hon⟩,h1⟩,?_⟩⟩;simpa using h2
section
variable {op:Op} {ty:Nat} {pos:String} {after:Array Edge} {t:Nat} {v:AV} {r nw:List Nat}
theorem xK (hs:wR P ⟨tm,h⟩ op v [] r []) (hm:Nat.blt t m=true) (hk:zZ P F m ops dr rest ⟨(t,v)::tm,h⟩ (⟨true,[],r⟩::fs) Q):zZ P F m ops dr (⟨some t,op,ty,pos,after,none⟩::rest) ⟨tm,h⟩ fs Q:=
 JH (e:=⟨true,v,[],r,[]⟩) rfl rfl hs zS rfl (λj hj=>by cases hj;exact zXq hm) rfl hk
theorem uG {k:Nat} {e:xN} (hs:wR P ⟨tm,h⟩ op v [(k,e)] r nw) (hm:Nat.blt t m=true) (hn:nw.all (λj=>(zC h j).isNone)=true) (hd:vX [(k,e)]=true) (hk:zZ P F m ops dr rest ⟨(t,v)::tm,(k,e)::h⟩ (⟨true,k::nw,r⟩::fs) Q):
  zZ P F m ops dr (⟨some t,op,ty,pos,after,none⟩::rest) ⟨tm,h⟩ fs Q:=
 JH (e:=⟨true,v,[(k,e)],r,nw⟩) rfl rfl hs (λj hj=>by have:=zXm.1 hn j hj;simpa using this) hd (λj hj=>by cases hj;exact zXq hm) rfl hk
theorem x_s {k:Nat} {e:xN} (hs:wR P ⟨tm,h⟩ op v [(k,e)] r nw) (hn:nw.all (λj=>(zC h j).isNone)=true) (hd:vX [(k,e)]=true) (hk:zZ P F m ops dr rest ⟨tm,(k,e)::h⟩ (⟨true,k::nw,r⟩::fs) Q):zZ P F m ops dr (⟨none,op,ty,pos,after,none⟩::rest) ⟨tm,h⟩ fs Q:=
 JH (e:=⟨true,v,[(k,e)],r,nw⟩) rfl rfl hs (λj hj=>by have:=zXm.1 hn j hj;simpa using this) hd (λj hj=>by cases hj) rfl hk
theorem aD {d:List (Nat×xN)} (hs:wR P ⟨tm,h⟩ op v d r nw) (hm:Nat.blt t m=true) (hn:nw.all (λj=>(zC h j).isNone)=true) (hd:vX d=true) (hk:zZ P F m ops dr rest ⟨(t,v)::tm,d++h⟩ (⟨true,yD d++nw,r⟩::fs) Q):
  zZ P F m ops dr (⟨some t,op,ty,pos,after,none⟩::rest) ⟨tm,h⟩ fs Q:=
 JH (e:=⟨true,v,d,r,nw⟩) rfl rfl hs (λj hj=>by have:=zXm.1 hn j hj;simpa using this) hd (λj hj=>by cases hj;exact zXq hm) rfl hk
end
theorem EF.on {P:Program} {m:Nat} {ops:Array Oper} {d:Option Nat} {op:Op} {ty:Nat} {pos:String} {after:Array Edge} {j t:Nat} {b:Bool} {st:St} {e:UW} (ht:VC ops j=some t) (hv:zG st.tm t= .s (.bool b)) (hs:EF P m ops ⟨d,op,ty,pos,after,none⟩ st e):
  EF P m ops ⟨d,op,ty,pos,after,some (j,b)⟩ st e:=by
 obtain⟨h1,h2,h3,h4,h5,h6⟩:=hs;exact⟨h1,h2,h3,h4,h5,t,.bool b,ht,hv,by rw[show e.on=true from h6];simp[gw]⟩
theorem zS4 {d:Option Nat} {op:Op} {ty:Nat} {pos:String} {after:Array Edge} {j t:Nat} {b:Bool} {st:St} (ht:VC ops j=some t) (hv:zG st.tm t= .s (.bool b)) (hk:zZ P F m ops dr (⟨d,op,ty,pos,after,none⟩::rest) st fs Q):
  zZ P F m ops dr (⟨d,op,ty,pos,after,some (j,b)⟩::rest) st fs Q:=by
 cases dr with
 |false=>exact⟨zS3 ht hv hk.run⟩
 |true=>
  obtain⟨es,st2,h1,h2⟩:=hk.run
  cases es with
  |nil=>exact h1.elim
  |cons e es=>exact⟨⟨e::es,st2,⟨h1.1.on ht hv,h1.2⟩,h2⟩⟩
theorem zIy {d:Nat} {op:Op} {ty:Nat} {pos:String} {after:Array Edge} {j t:Nat} {b:Bool} {c:Value} (ht:VC ops j=some t) (hv:zG tm t= .s c) (hc:gw c b=false) (hm:Nat.blt d m=true) (hk:zZ P F m ops dr rest ⟨(d,.s undef)::tm,h⟩ (⟨false,[],[]⟩::fs) Q):
  zZ P F m ops dr (⟨some d,op,ty,pos,after,some (j,b)⟩::rest) ⟨tm,h⟩ fs Q:=by
 cases dr with
 |false=>exact⟨zN4 ht hv hc hm hk.run⟩
 |true=>
  obtain⟨es,st2,h1,h2⟩:=hk.run;refine⟨⟨⟨false,.s undef,[],[],[]⟩::es,st2,⟨⟨rfl,(λj hj=>by cases hj;exact zXq hm),by simp,(λh=>by cases h),(λ_=>⟨rfl,rfl⟩),t,c,ht,hv,hc.symm⟩,h1⟩,?_⟩⟩;rw[zYi,List.reverse_cons,zXy];exact h2
theorem zN7 {st:St} {l:List Oper} {t:Nat} {c:Bool} (hv:zG st.tm t= .s (.bool c)) (h1:c=true->zZ P F m ops false l ⟨(t,.s (.bool true))::st.tm,st.h⟩ fs Q) (h2:c=false->zZ P F m ops false l ⟨(t,.s (.bool false))::st.tm,st.h⟩ fs Q):zZ P F m ops false l st fs Q:=⟨zDo hv (λh=>(h1 h).run) (λh=>(h2 h).run)⟩
theorem cP {d:Option Nat} {op:Op} {ty:Nat} {pos:String} {after:Array Edge} {j t:Nat} {b c:Bool} (ht:VC ops j=some t) (hv:zG tm t= .s (.bool c)) (h1:c=true->zZ P F m ops false (⟨d,op,ty,pos,after,some (j,b)⟩::rest) ⟨(t,.s (.bool true))::tm,h⟩ fs Q) (h2:c=false->zZ P F m ops false (⟨d,op,ty,pos,after,some (j,b)⟩::rest) ⟨(t,.s (.bool false))::tm,h⟩ fs Q):
  zZ P F m ops false (⟨d,op,ty,pos,after,some (j,b)⟩::rest) ⟨tm,h⟩ fs Q:=by
 have:=ht;exact zN7 (st:=⟨tm,h⟩) hv h1 h2
section
variable {ty t:Nat} {pos:String} {after:Array Edge} {st:St} {g:Option (Nat×Bool)} {d:Option Nat}
theorem wB {c:Operand} {asq:Array Operand} {ts:Array Nat} (hk:zZ P F m ops dr (⟨some t,(.call ⟨.value c,asq,ts⟩),ty,pos,after,none⟩::rest) st fs Q):zZ P F m ops dr (⟨some t,(.call ⟨.value c,asq,ts⟩),ty,pos,after,none⟩::rest) st fs Q:=hk
theorem wZ {op:BinOp} {tx t2:Nat} {x y:Operand} (hk:zZ P F m ops dr (⟨some t,(.binOp op tx x y t2),ty,pos,after,none⟩::rest) st fs Q):zZ P F m ops dr (⟨some t,(.binOp op tx x y t2),ty,pos,after,none⟩::rest) st fs Q:=hk
theorem AK {tx:Nat} {x y:Operand} (hk:zZ P F m ops dr (⟨some t,(.indexAddr tx x y),ty,pos,after,none⟩::rest) st fs Q):zZ P F m ops dr (⟨some t,(.indexAddr tx x y),ty,pos,after,none⟩::rest) st fs Q:=hk
theorem JJ {tx:Nat} {x:Operand} (hk:zZ P F m ops dr (⟨some t,(.load tx x),ty,pos,after,none⟩::rest) st fs Q):zZ P F m ops dr (⟨some t,(.load tx x),ty,pos,after,none⟩::rest) st fs Q:=hk
theorem AL {tx n:Nat} {x:Operand} (hk:zZ P F m ops dr (⟨some t,(.fieldAddr tx x n),ty,pos,after,none⟩::rest) st fs Q):zZ P F m ops dr (⟨some t,(.fieldAddr tx x n),ty,pos,after,none⟩::rest) st fs Q:=hk
theorem bI {tx:Nat} {x y:Operand} (hk:zZ P F m ops dr (⟨none,(.store tx x y),ty,pos,after,none⟩::rest) st fs Q):zZ P F m ops dr (⟨none,(.store tx x y),ty,pos,after,none⟩::rest) st fs Q:=hk
theorem XN {op:Op} {j:Nat} {b:Bool} (hk:zZ P F m ops dr (⟨d,op,ty,pos,after,some (j,b)⟩::rest) st fs Q):zZ P F m ops dr (⟨d,op,ty,pos,after,some (j,b)⟩::rest) st fs Q:=hk
theorem zE {l:List Oper} (hk:zZ P F m ops dr l st fs Q):zZ P F m ops dr l st fs Q:=hk
end
theorem yZ {Q:Exit->St->Prop} {id:Nat} {l:List Oper} {st:St} (hk:zZ P F m l.toArray false l st [] (λ_ s=>Q .normal s)):uC P F m (.region id l.toArray false) st Q:=AO hk.run
theorem vA {Q:Exit->St->Prop} {id:Nat} {l:List Oper} {st:St} (hm:P.follows .mixedOrders=true) (hk:zZ P F m l.toArray true l st [] (λfs s=>EG l (PC l) fs.reverse=true/\Q .normal s)):uC P F m (.region id l.toArray true) st Q:=by
 obtain⟨es,st2,h1,h2,h3⟩:=hk.run;exact zIx hm h1 MU h3
end
end Av
end Go.Proofs.YtmamjhmoegjapaaGreat
