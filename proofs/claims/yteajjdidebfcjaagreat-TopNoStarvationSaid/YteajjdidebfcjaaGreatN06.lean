/- Part 6. -/
import Derived.Test.YteajjdidebfcjaaGreatN05
import Derived.RangeFuncLeaves
import Derived.Orders
namespace Go.Proofs.YteajjdidebfcjaaGreat
namespace Av
set_option linter.all false
section
section ops
variable {P:Program} {K0:List Nat} {F:Fr K0} {m:Nat} {ops:Array Oper} {rest:List Oper} {Q:St->Prop} {tm:List (Nat×AV)} {h:List (Nat×xM)}
def zQ4 {st:St} (hq:Q st):FK P F m ops [] st Q:=λ_ _ H=>⟨rfl,st,hq,H⟩
def zL7 {o:Oper} {st:St} {v:AV} {d:List (Nat×xM)} {r nw:List Nat} {st':St} (hg:o.guard=none) (hs:wP P st o.op v d r nw) (hn:∀k,k∈nw->zC st.h k=none) (hd:vK d=true) (hm:∀t,o.dst=some t->t<m)
  (he:∀t,zG st'.tm t=if o.dst=some t then v else zG st.tm t) (hh:zC st'.h=over d (zC st.h)) (hk:FK P F m ops rest st' Q):FK P F m ops (o::rest) st Q:=λa w H=>
 wpListIn_plain hg λK hK=>hs.rel H (λ_ _=>rfl) (λ_ _=>rfl) hn hd hm λa' w' H'=>hK _ _ (hk a' w' (by
  have e1:zG st'.tm=λt=>if o.dst=some t then v else zG st.tm t:=funext he
  unfold xY;rw[e1,hh]
  exact H'))
section
variable {op:Op} {ty:Nat} {pos:String} {after:Array Edge} {t:Nat} {v:AV} {r nw:List Nat}
end
def VN (ops:Array Oper) (j:Nat):Option Nat:=(ops[j]?).bind (·.dst)
def gw (v:Value) (b:Bool):Bool:=match v with
 | .bool c=>c==b
 |_=>false
def bB {o:Oper} {j t:Nat} {b:Bool} {v:Value} (hg:o.guard=some (j,b)) (ht:VN ops j=some t) {a:Act} (hv:a.eval (.tmp t)=v):Region.wanted o (yielded ops a.tmps)=gw v b:=by
 subst hv;simp only[Region.wanted,hg,yielded,show(ops[j]?).bind (·.dst)=some t from ht,Option.bind_some,Act.eval,yB3]
 cases h:a.tmps[t]? with
 |none=>simp[undef,gw]
 |some u=>cases u<;>simp[gw]
def CT {st:St} {a:Act} {w:World} (H:xY F m st a w) {t:Nat} {c:Value} (hv:zG st.tm t= .s c):a.eval (.tmp t)=c:=by
 obtain⟨⟨_,β,_,_,Ht,_⟩,_⟩:=H;have:=Ht t;rw[hv]at this;exact this.s_inv
def zWk {d:Option Nat} {op:Op} {ty:Nat} {pos:String} {after:Array Edge} {j t:Nat} {b:Bool} {st:St} (ht:VN ops j=some t) (hv:zG st.tm t= .s (.bool b)) (hk:FK P F m ops (⟨d,op,ty,pos,after,none⟩::rest) st Q):
  FK P F m ops (⟨d,op,ty,pos,after,some (j,b)⟩::rest) st Q:=λa w H=>by
 have hw:=bB (o:=⟨d,op,ty,pos,after,some (j,b)⟩) Z ht (CT H hv);have:=hk a w H;unfold wpListIn at this⊢;rw[yBd (by rw[hw];simp[gw])];rw[yBd (by simp[Region.wanted])]at this;exact this
theorem YC.bot {tm:Nat->AV} {h:yD} {a:Act} {w:World} (H:YC F m tm h a w) (dst:Option Nat) (hm:∀t,dst=some t->t<m):YC F m (λt=>if dst=some t then .s undef else tm t) h (a.put dst undef) w:=by
 obtain⟨⟨X,β,hX,HH,Ht,KK,hJ,hD⟩,nd,gs,hl⟩:=H;exact YC.put hX HH Ht KK hJ hD gs hl (yW.refl HH) nd (.fz _ _ (.s _)) dst hm
def zQ5 {d:Nat} {op:Op} {ty:Nat} {pos:String} {after:Array Edge} {j t:Nat} {b:Bool} {c:Value} (ht:VN ops j=some t) (hv:zG tm t= .s c) (hc:gw c b=false) (hm:Nat.blt d m=true) (hk:FK P F m ops rest ⟨(d,.s undef)::tm,h⟩ Q):
  FK P F m ops (⟨some d,op,ty,pos,after,some (j,b)⟩::rest) ⟨tm,h⟩ Q:=λa w H=>by
 have hw:=bB (o:=⟨some d,op,ty,pos,after,some (j,b)⟩) Z ht (CT H hv);unfold wpListIn;rw[yBc (by rw[hw,hc];simp)];refine⟨λ_ _=>trivial,hk _ _ ?_⟩;have:=YC.bot H (some d) (λj hj=>by cases hj;exact yBv hm)
 have e1:zG ((d,.s undef)::tm)=λt=>if some d=some t then AV.s undef else zG tm t:=funext λt=>by rw[yE];simp[yHm]
 unfold xY;rw[e1];exact this
def CU {st:St} {l:List Oper} {t:Nat} {c c':Bool} (hv:zG st.tm t= .s (.bool c)) (hc:c=c') (hk:FK P F m ops l ⟨(t,.s (.bool c'))::st.tm,st.h⟩ Q):FK P F m ops l st Q:=λa w H=>hk a w (by
 subst hc
 have e1:zG ((t,.s (.bool c))::st.tm)=zG st.tm:=funext λj=>by
  rw[yE];split
  ·rename_i h;subst h;exact hv.symm
  ·rfl
 unfold xY;dsimp only;rw[e1]
 exact H)
def zFy {st:St} {l:List Oper} {t:Nat} {c:Bool} (hv:zG st.tm t= .s (.bool c)) (h1:c=true->FK P F m ops l ⟨(t,.s (.bool true))::st.tm,st.h⟩ Q) (h2:c=false->FK P F m ops l ⟨(t,.s (.bool false))::st.tm,st.h⟩ Q):FK P F m ops l st Q:=by
 cases c with
 |true=>exact CU hv Z (h1 Z)
 |false=>exact CU hv Z (h2 Z)
end ops
section code
variable {P:Program} {K0:List Nat} {F:Fr K0} {m:Nat} {Q:Exit->St->Prop} {st:St}
def kM {c:Code} (K ts:List Nat) (hK:K0.all (K.contains ·)=true) {st':St} (he:restr K ts st=st') (h:vO P F m c st' Q):vO P F m c st Q:=⟨λa w H=>h.run a w (he▸xY.restr H K ts hK)⟩
def wW {c:Code} (I:Nat->St->Prop) (n:Nat) (K ts:List Nat) (hK:K0.all (K.contains ·)=true) (h0:I n (restr K ts st)) (round:∀n st,I n st->vO P F m c st (λe s=>match e with
  | .normal=>∃n',n'<n/\I n' (restr K ts s)
  |e=>Q e s)):vO P F m (.loop c) st Q:=by
 refine kM K ts hK Z ⟨λa w H=>?_⟩;refine RK (λn a w=>∃st,I n st/\xY F m st a w) n ⟨_,h0,H⟩ λn a w ⟨st,hI,hR⟩=>?_
 refine Code.wpIn_mono (λe a' w' ⟨s,h1,h2⟩=>?_) ((round n st hI).run a w hR)
 cases e with
 |normal=>
  obtain⟨n',hlt,hI'⟩:=h1;exact⟨n',hlt,_,hI',xY.restr h2 K ts hK⟩
 |_=>exact⟨s,h1,h2⟩
end code
def MP (TT:List TI) (st:St):List ResultVar->Option (List AV)
 | []=>some []
 | .tmp t::r=>(MP TT st r).map (zG st.tm t:: ·)
 | .cell a T::r=>match zG st.tm a with
  | .ptr k 0 off=>match zC st.h k,TT[T]? with
   |some (.box cs),some ti=>match ldv ti.d.agg ti.size cs off with
    |some v=>(MP TT st r).map (v:: ·)
    |none=>none
   |_,_=>none
  |_=>none
def CW:List AV->AV
 | [v]=>v
 |vs=> .tup vs
def zL8 (tmps:Array Value):ResultVar->Sem Value
 | .tmp t=>pure (tmps.getD t undef)
 | .cell b t=>do loadVar t (<-asAddr (tmps.getD b undef))
theorem OC {P:Program} {TT:List TI} (hP:uG P TT) {st:St} {X:Nat->Prop} {β:vM} {w:World} {a:Act} (H:qX X (zC st.h) β w) (Ht:∀t,zU w (xP X β) (zC st.h) β (zG st.tm t) (a.eval (.tmp t))):
  ∀(l:List ResultVar) (vs:List AV),MP TT st l=some vs->∃cs:List Value,(l.mapM (zL8 a.tmps)).run P w= .ok cs w/\cs.length=vs.length/\
   ∀(i:Nat) v,vs[i]? =some v->zU w (xP X β) (zC st.h) β v (cs.getD i undef)
 | [],vs,h=>by cases h;exact⟨[],rfl,rfl,λi v hv=>by simp at hv⟩
 | .tmp t::r,vs,h=>by
  simp only[MP,yBs]at h;obtain⟨vs',h1,rfl⟩:=h;obtain⟨cs,h2,h3,h4⟩:=OC hP H Ht r vs' h1;refine⟨a.tmps.getD t undef::cs,by simp only[yHj,zL8,Sem.run_bind,Sem.run_pure,Result.andThen_ok,h2],by simp[h3],λi v hv=>?_⟩
  cases i with
  |zero=>simp at hv;subst hv;exact Ht t
  |succ i=>simpa using h4 i v KB
 | .cell b T::r,vs,h=>by
  simp only[MP]at h;split at h
  ·rename_i k off hb;split at h
   ·rename_i cs ti hk hT;split at h
    ·rename_i v hv;rw[yBs]at h;obtain⟨vs',h1,rfl⟩:=h;obtain⟨cs',h2,h3,h4⟩:=OC hP H Ht r vs' h1;have hp:=Ht b;rw[hb]at hp;obtain⟨bl,hc,_,hR⟩:=QI H hk hp;obtain⟨c,h5,h6⟩:=HL hP hT hR hv;rw[yCv]at h5;have hc':a.tmps.getD b undef= .pointer (some ⟨bl,off,none⟩):=hc;refine⟨c::cs',by simp only[yHj,zL8,Sem.run_bind,hc',asAddr,Sem.run_pure,Result.andThen_ok,h5,h2],by simp[h3],λi v hv=>?_⟩
     cases i with
     |zero=>simp at hv;subst hv;exact h6
     |succ i=>simpa using h4 i v KB
    ·cases h
   ·cases h
  ·cases h
def VO:Nat->List AV->List (Nat×AV)
 |_,[]=>[]
 |i,v::r=>(i,v)::VO (i+1) r
theorem XK:∀(l:List AV) (i t:Nat),zG (VO i l) t=if i<=t then l.getD (t-i) .bot else .bot
 | [],i,t=>by simp[VO,zG]
 | v::r,i,t=>by
  rw[VO,yE,XK r];by_cases h:t=i
  ·subst h;simp
  ·rw[yBc h];by_cases h2:i<=t
   ·rw[yBd h2,yBd (by omega),show t-i=(t-(i+1))+1 by omega];simp
   ·rw[yBc h2,yBc (by omega)]
def Fin (TT:List TI) (rs:List ResultVar) (h0:List (Nat×xM)) (r:AV) (h1:List (Nat×xM)) (e:Exit) (st:St):Prop:=
 (e= .normal∨e= .ret)/\∃vs K,MP TT st rs=some vs/\(yT h0).all (K.contains ·)=true/\(r=wH K (zC st.h) (CW vs)∨r=XO (wH K (zC st.h) (CW vs)))/\zC h1=zC (wS K (zC st.h))
def zH {TT:List TI} {rs:List ResultVar} {h0:List (Nat×xM)} {r:AV} {h1:List (Nat×xM)} {st:St} {vs:List AV} (K:List Nat) (h:MP TT st rs=some vs) (hK:(yT h0).all (K.contains ·)=true) (hr:XO (wH K (zC st.h) (CW vs))=r) (hh:wS K (zC st.h)=h1):
 Fin TT rs h0 r h1 .ret st:=⟨.inr Z,vs,K,h,hK,.inr hr.symm,by rw[hh]⟩
def zK {TT:List TI} {rs:List ResultVar} {h0:List (Nat×xM)} {r:AV} {h1:List (Nat×xM)} {st:St} {vs:List AV} (K:List Nat) (h:MP TT st rs=some vs) (hK:(yT h0).all (K.contains ·)=true) (hr:wH K (zC st.h) (CW vs)=r) (hh:wS K (zC st.h)=h1):
 Fin TT rs h0 r h1 .ret st:=⟨.inr Z,vs,K,h,hK,.inl hr.symm,by rw[hh]⟩
theorem xG.less {w:World} {D D':Nat->Prop} (h:∀b,D' b->D b) {v:AV} {c:Value} (hv:xG w D v c):xG w D' v c:=
 hv.evo (yBg _) λb _ hd=>⟨rfl,λh'=>hd (h b h')⟩
theorem zU.less {w:World} {X X':Nat->Prop} {h:yD} {β:vM} (hX:∀b,X' b->X b) {v:AV} {c:Value} (hv:zU w (xP X β) h β v c):zU w (xP X' β) h β v c:=
 hv.evo ⟨yBg _,λb _ hd=>⟨rfl,λh'=>hd (h'.imp (hX b) id)⟩,λ_ _ _ _=>rfl,qV h β⟩
theorem qX.less {w:World} {X X':Nat->Prop} {h:yD} {β:vM} (hX:∀b,X' b->X b) (H:qX X h β w):qX X' h β w:=
 ⟨λk e he=>(H.ent k e he).evo ⟨yBg _,λb _ hd=>⟨rfl,λh'=>hd (h'.imp (hX b) id)⟩,λ_ _ _ _=>rfl,qV h β⟩ rfl λ_ _ _=>rfl,H.off,H.disj,λk b n hm hx=>H.free k b n hm (hX b hx),λb hd=>H.lt b (hd.imp (hX b) id)⟩
def VP {w w':World} {X:Nat->Prop} {h:yD} {β:vM} (H:qX X h β w) (hs:w.heap.size<=w'.heap.size) (hk:∀b,b<w.heap.size->¬X b->w'.heap[b]? =w.heap[b]?):FL w (xP X β) h β w' (xP X β) h β:=
 ⟨hs,λb hb hd=>⟨hk b hb λhx=>hd (.inl hx),hd⟩,λk b n hm=>by
  unfold wB World.shape?
  rw[hk b (H.lt b (.inr ⟨k,n,hm⟩)) (H.free k b n hm)],qV h β⟩
theorem qX.turn {w w':World} {X:Nat->Prop} {h:yD} {β:vM} (H:qX X h β w) (hs:w.heap.size<=w'.heap.size) (hk:∀b,b<w.heap.size->¬X b->w'.heap[b]? =w.heap[b]?):qX X h β w':=
 ⟨λk e he=>(H.ent k e he).evo (VP H hs hk) Z λb n hm=>hk b (H.lt b (.inr ⟨k,n,hm⟩)) (H.free k b n hm),H.off,H.disj,H.free,λb hd=>yCo (H.lt b hd) hs⟩
theorem VQ {P:Program} {fn:Func} {tmps:Array Value} {R:Ending->World->Prop}:∀(bs:List Nat) (w:World),bs.Nodup->(∀b,b∈bs->w.heap[b]? =some (.deferred (some [])))->
  (∀w',w'.heap.size=w.heap.size->(∀b,¬b∈bs->w'.heap[b]? =w.heap[b]?)->w'.os=w.os->w'.tape=w.tape->w'.output=w.output->∃v,(results fn tmps).run P w'= .ok v w'/\R (.returned v) w')->
  LeavesInM Fence.wide 0 P fn tmps R (bs.map λb=>{target:= .collected b,args:= #[]}) .returning w
 | [],w,_,_,h=>h w Z (λ_ _=>rfl) Z Z Z
 |b::bs,w,hn,hb,h=>by
  have hn':=yFc.1 hn;refine⟨by simp,.inl ⟨b,w.putObj b (.deferred none),rfl,run_takeDeferred (hb b zQ),VQ bs _ hn'.2 (λc hc=>?_) (λw' h1 h2 h3 h4 h5=>?_)⟩⟩
  ·rw[World.putObj_heap_other (show c≠b from λe=>hn'.1 (by rw[<-e];exact hc))];exact hb c (by simp[hc])
  ·refine h w' (by rw[h1];simp) (λc hc=>?_) h3 h4 h5;simp at hc;rw[h2 c hc.2,World.putObj_heap_other hc.1]
theorem XL {P:Program} {TT:List TI} (hP:uG P TT) {f:Nat} {fn:Func} {body:Code} {args:List AV} {h0:List (Nat×xM)} {r:AV} {h1:List (Nat×xM)} (hf:P.funcs[f]? =some fn) (hb:fn.body=some body) (able:cL P f) (hlen:Nat.ble args.length fn.ntmps=true)
    (hnd:vK h0=true) (hnd1:vK h1=true) (h:∀F:Fr (yT h0),F.ro=none/\F.it=false->vO P F fn.ntmps body ⟨VO 0 args,h0⟩ (Fin TT fn.results.toList h0 r h1)) (hgs:Nat.ble fn.ntmps GS=true:=by rfl):yG P f args h0 r h1:=by
  refine⟨able,λk=>uJ hnd1,λX w β cargs hcl H hargs=>(callsIn_wide (n:=0)).1 ?_⟩;have hlen:=yBv hlen
  let F:Fr (yT h0):=⟨X,w,β,zC h0,λk b n hm=>by
    cases hk:zC h0 k with
    |none=>rw[H.off k hk]at hm;simp at hm
    |some e=>exact vS hk,λk e he=>vS he,none,false,λ_=>False,λ_ _ _ _=>True,λ_ _ _ _ _ _ _ _ _ _ _ _ _ _=>trivial⟩
  refine callsIn_of_wp_marks (F:=Fence.wide) (n:=0) hf hb trivial (Code.wpIn_mono (λe a' w1 q=>?_) ((h F ⟨rfl,rfl⟩).run _ w ⟨⟨X,β,⟨λ_ h=>h,λ_ h=> .inl h⟩,H,λt=>?_,⟨λk e he=>?_,yBg _,λ_ _ _ _=>rfl,λk b n hm=> .inl ⟨k,n,hm⟩,λk b n hm=>⟨n,yBg _,hm⟩,λ_ _ _ _=>rfl,rfl,rfl,rfl⟩,λ_ _=>trivial,[],rfl,λ_=>rfl,yGy,λb hb=>by simp at hb⟩,λk=>uJ hnd,yBv hgs,by simp;omega⟩)) Z
  · obtain ⟨st,⟨he,vs,K,hv,hK,hr,hh⟩,R⟩:=q;obtain⟨⟨X2,β2,⟨hX2,_⟩,H2',Ht2',KK',_,bs,hds,_,hbn,hbs⟩,nd2,_,hl2⟩:=R
    have goal:LeavesInM Fence.wide 0 P fn a'.tmps (λe w'=>∃c β',e= .returned c/\yW X w (zC h0) β w' (zC h1) β'/\zU w' (xP X β') (zC h1) β' r c) a'.defers .returning w1:=by
     rw[hds];refine VQ bs w1 hbn (λb hb=>(hbs b hb).2.2) λw' sz kp o1 o2 o3=>?_
     have kp':∀b,b<w1.heap.size->¬X2 b->w'.heap[b]? =w1.heap[b]? :=λb _ hx=>kp b λhm=>hx (hbs b hm).1
     have H2:=H2'.turn (yDd sz.symm) kp';have Ht2:=λt=>(Ht2' t).evo (VP H2' (yDd sz.symm) kp')
     have KK:gD F (zC st.h) β2 w':=⟨KK'.knd,by rw[sz];exact KK'.size,λb hb hi hn=>by rw[kp b λhm=>by have:=(hbs b hm).2.1;omega];exact KK'.keep b hb hi hn,KK'.own,KK'.pas,λk b n hm=>by
      rw[<-KK'.bs k b n hm];obtain⟨n',_,hm'⟩:=KK'.pas k b n hm;unfold wB World.shape?
      rw[kp' b (H2'.lt b (.inr ⟨k,n',hm'⟩)) (H2'.free k b n' hm')],o1.trans KK'.os,o2.trans KK'.tape,o3.trans KK'.output⟩
     obtain⟨cs,q1,q2,q3⟩:=OC hP H2 Ht2 _ _ hv;obtain⟨H3',hv3'⟩:=H2.restr K;have H3:=H3'.less hX2;have hv3:=λv c hv=>(hv3' v c hv).less hX2
     have hrun:∃c,(results fn a'.tmps).run P w'= .ok c w'/\zU w' (xP X2 β2) (zC st.h) β2 (CW vs) c:=by
       have hm:(fn.results.mapM (zL8 a'.tmps)).run P w'= .ok cs.toArray w':=by
         rw[<-Array.toArray_toList (xs:=fn.results),List.mapM_toArray];simp only[Sem.run_map,q1,Result.andThen_ok]
       have hres:(results fn a'.tmps).run P w'= .ok (if h:cs.toArray.size=1 then cs.toArray[0]else .tuple cs.toArray) w':=by
         show(fn.results.mapM (zL8 a'.tmps) >>= λvs=>pure (if h:vs.size=1 then vs[0]else .tuple vs)).run P w'=_
         rw[Sem.run_bind,hm];rfl
       refine⟨_,hres,?_⟩;by_cases h1:cs.length=1
       · rw[yHl KE]
         match cs,vs,h1,q2,q3 with
         | [c],[v],_,_,q3=>exact q3 0 v Z
       · rw[dif_neg KE]
         have hvs:CW vs= .tup vs:=by
           match vs,q2 with
           | [],_=>rfl
           | [v],q2=>exact absurd q2 h1
           |_::_::_,_=>rfl
         rw[hvs];exact .tup vs _ (by simpa using q2) λi v hi=>by simpa [List.getD]using q3 i v hi
     obtain⟨c,hc1,hc2⟩:=hrun
     have hpost:∃c β',Ending.returned c= .returned c/\(results fn a'.tmps).run P w'= .ok c w'/\yW X w (zC h0) β w' (zC h1) β'/\zU w' (xP X β') (zC h1) β' r c:=by
       refine⟨c,λk=>if k∈K then β2 k else [],rfl,hc1,?_,?_⟩
       · rw [hh];refine⟨KK.size,λb hb hn=>KK.keep b hb (λhf=>hf) hn,λk b n hm=>?_,KK.bs,λk e he=> .inr ?_,H3,KK.os,KK.tape,KK.output⟩
         · (try dsimp only at hm)
           split at hm
           · exact KK.own k b n hm
           · simp at hm
         · have hkK:k∈K:=by
             have:=yBr.1 hK k (vS he);simpa using this
           have h1:=KK.knd k e he;have hrr:∀e',zC st.h k=some e'->zC (wS K (zC st.h)) k=some (qK K (zC st.h) e'):=λe' h2=>by rw[xX,yBd hkK,h2];rfl
           cases e with
           |dead=>exact h1
           | box cs0=>
             obtain⟨cs',h2⟩:=h1;refine⟨⟨_,hrr _ h2⟩,λb n hm=>?_⟩
             (try dsimp only)
             rw[yBd hkK];obtain⟨n',hn',hm'⟩:=KK.pas k b n hm;obtain⟨b2,_,_,e2,_⟩:=H2.ent k _ h2;obtain⟨b1,_,_,e1,_⟩:=H.ent k _ he;rw[e1]at hm;rw[e2]at hm'⊢;simp at hm hm'⊢;exact⟨hm'.1,hm.2⟩
           | obj cs=>
             obtain⟨cs',h2⟩:=h1;refine⟨⟨_,hrr _ h2⟩,λb n hm=>?_⟩
             (try dsimp only)
             rw[yBd hkK];obtain⟨n',hn',hm'⟩:=KK.pas k b n hm;have e2:=(H2.ent k _ h2).1;have e1:=(H.ent k _ he).1;rw[e1]at hm;rw[e2]at hm'⊢;simp at hm hm'⊢;exact⟨hm'.1,hm.2⟩
           | arr sz xs sl=>
             obtain⟨xs',sl',h2,h3⟩:=h1;obtain⟨xs2,fl2,h4,h5⟩:=jY K (zC st.h) sz xs' sl';refine⟨⟨xs2,fl2,(hrr _ h2).trans (by rw[h4]),by rw[h5];exact h3⟩,λb n hm=>?_⟩
             (try dsimp only)
             rw[yBd hkK];exact KK.pas k b n hm
       · rw[hh]
         rcases hr with rfl|rfl
         · exact hv3 _ _ hc2
         · exact(hv3 _ _ hc2).wk
     obtain⟨c,β',_,hc1,hc2,hc3⟩:=hpost;exact⟨c,hc1,c,β',rfl,hc2,hc3⟩
    rcases he with rfl|rfl
    · exact goal
    · exact goal
  · show zU w (xP X β) (zC h0) β (zG (VO 0 args) t) _
    rw[XK,yBd (yBt _),yF6];by_cases ht:t<args.length
    · have h2:args[t]? =some (args.getD t .bot):=by simp[List.getD,ht]
      have:=hargs t _ h2
      have e:Act.eval {tmps:=cargs++Array.replicate (fn.ntmps-cargs.size) undef,defers:=[]} (.tmp t)=cargs.getD t undef:=by
        simp only[Act.eval,yB3];rw[yDf (by omega)]
      rw[e];exact this
    · have:args.getD t .bot= .bot:=by simp[List.getD,yB6 (by omega:args.length<=t)]
      rw[this];exact .fz _ _ (.bot _)
  · have he':zC h0 k=some e:=he
    cases e with
    |dead=>exact absurd he' (uJ hnd)
    |box cs=>exact⟨cs,he'⟩
    |obj cs=>exact⟨cs,he'⟩
    |arr sz xs sl=>exact⟨xs,sl,he',yBg _⟩
end
def fO (l:Array Bool) (i:Nat):Bool:=l.getD i false
def binds (e:Edge):Bool:=Region.binds .any e
def zQ6 (ops:Array Oper):Bool:=(List.range ops.size).all λi=>((ops[i]?).map λo=>o.after.all λe=>!binds e||decide (e.on<i)).getD false
def zQ7 (T:List Nat):List Edge->Nat->Nat
 | [],m=>m
 |e::r,m=>zQ7 T r (bif binds e then m ||| (2 ^ e.on ||| T.getD e.on 0)else m)
def zTh:List Oper->List Nat->List Nat
 | [],T=>T
 |o::r,T=>zTh r (T++[zQ7 T o.after.toList 0])
def MQ (ops:List Oper):List Nat:=zTh ops []
def okT (ops:Array Oper) (T:List Nat):Bool:=
 (List.range ops.size).all λi=>((ops[i]?).map λo=>Nat.beq (T.getD i 0) (zQ7 T o.after.toList 0)).getD false
def bit (T:List Nat) (i j:Nat):Bool:=(T.getD i 0).testBit j
theorem CX (T:List Nat) (j:Nat):∀(l:List Edge) (m:Nat),(zQ7 T l m).testBit j=true->m.testBit j=true∨∃e,e∈l/\binds e=true/\(e.on=j∨bit T e.on j=true)
 | [],m,h=> .inl h
 | e::r,m,h=>by
  rcases CX T j r _ h with h1|⟨e',h1,h2,h3⟩
  ·cases hb:binds e with
   |false=>rw[hb]at h1;exact .inl h1
   |true=>
    rw[hb,yCu,yHk,yHk,Nat.testBit_two_pow,yDo,yDo]at h1
    rcases h1 with h1|h1|h1
    ·exact .inl h1
    ·exact .inr ⟨e,by simp,hb,.inl KE⟩
    ·exact .inr ⟨e,by simp,hb,.inr h1⟩
  ·exact .inr ⟨e',by simp[h1],h2,h3⟩
def VR (l:Array Bool) (i j:Nat) (hi:i<l.size):fO (l.setIfInBounds i true) j=if j=i then true else fO l j:=by
 unfold fO;by_cases e:j=i
 ·subst e;simp[yB3,hi]
 ·rw[yBc e];simp only[yB3,Array.getElem?_setIfInBounds_ne (Ne.symm e)]
def cnt (p:Nat->Bool):Nat->Nat
 |0=>0
 |k+1=>cnt p k+if p k then 1 else 0
def zFz {p q:Nat->Bool} (n:Nat) (h:∀i,i<n->p i=q i):cnt p n=cnt q n:=by
 induction n with
 |zero=>rfl
 |succ n ih=>unfold cnt;rw[ih λi hi=>h i (by omega),h n (by omega)]
def zWl (p:Nat->Bool) (n:Nat):cnt p n<=n:=by
 induction n with
 |zero=>exact yBg _
 |succ n ih=>unfold cnt;split<;>omega
def zD2 {p q:Nat->Bool} (n i:Nat) (hi:i<n) (hp:p i=false) (h:∀j,j≠i->q j=p j):cnt q n=cnt p n+if q i then 1 else 0:=by
 induction n with
 |zero=>omega
 |succ n ih=>
  unfold cnt;by_cases e:i=n
  ·subst e;rw[zFz (q:=p) i λj hj=>h j (by omega),hp];simp
  ·rw[ih (by omega),h n (λe'=>e e'.symm)];omega
section
variable {ops:Array Oper} {T:List Nat}
def HE (hA:zQ6 ops=true) (hT:okT ops T=true) {l:Array Bool} (hd:∀i o,ops[i]? =some o->fO l i=true->∀e∈o.after,binds e=true->fO l e.on=true):
  ∀(n i:Nat) (o:Oper),i<n->ops[i]? =some o->(∀e∈o.after,binds e=true->fO l e.on=true)->∀j,bit T i j=true->fO l j=true:=by
 intro n
 induction n with
 |zero=>intro i o h;omega
 | succ n ih=>
  intro i o hin ho he j hj;have hi:i<ops.size:=(yDq.1 ho).1;have h1:=yBr.1 hT i (yBz.2 hi);simp only[ho,Option.map_some,yDi]at h1;unfold bit at hj;rw[yB7 h1]at hj
  rcases CX T j _ _ hj with h2|⟨x,hx,hb,h2⟩
  ·simp at h2
  have hm:x∈o.after:=by simpa using hx
  have hl:=he _ hm hb
  rcases h2 with h2|h2
  ·rw[<-h2];exact hl
  ·have h3:=yBr.1 hA i (yBz.2 hi);obtain⟨y,hy,rfl⟩:=Array.getElem_of_mem hm;simp only[ho,Option.map_some,yDi,yG5,yDo,yDj,yBi]at h3;have h4:o.after[y].on<i:=(h3 y hy).resolve_left (by rw[hb];simp);have h5:o.after[y].on<ops.size:=by omega
   exact ih _ ops[o.after[y].on] (by omega) (by simp[h5]) (hd _ _ (by simp[h5]) hl) j h2
def cJ {l:Array Bool} {i:Nat} (hs:l.size=ops.size) (h:i∈Region.ready .any ops l):∃o,ops[i]? =some o/\fO l i=false/\∀e∈o.after,binds e=true->fO l e.on=true:=by
 unfold Region.ready at h;rw[yEd,yBz]at h;obtain⟨hi,h⟩:=h;have ho:ops[i]? =some ops[i]:=by simp[hi]
 simp only[ho,Option.map_some,yDi,yBq,yDj,yG5,yDo]at h;refine⟨ops[i],ho,?_,λe he hb=>?_⟩
 ·have:=h.1;unfold fO;simp only[yB3]at this⊢;rw[yE1 (by omega)]at this⊢;simpa using this
 ·obtain⟨x,hx,rfl⟩:=Array.getElem_of_mem he
  rcases h.2 x hx with h2|h2
  ·unfold binds at hb;rw[hb]at h2;cases h2
  ·exact h2
def zF0 (hA:zQ6 ops=true) {l:Array Bool} (hs:l.size=ops.size) (h:Region.ready .any ops l=[]):∀n i,i<n->i<ops.size->fO l i=true:=by
 intro n
 induction n with
 |zero=>intro i h;omega
 | succ n ih=>
  intro i hin hi
  cases hl:fO l i with
  |true=>rfl
  | false=>
   exfalso
   have hm:i∈Region.ready .any ops l:=by
    unfold Region.ready;rw[yEd,yBz];refine⟨hi,?_⟩;have ho:ops[i]? =some ops[i]:=by simp[hi]
    have h3:=yBr.1 hA i (yBz.2 hi);simp only[ho,Option.map_some,yDi,yBq,yDj,yG5,yDo,yBi]at h3⊢;refine⟨?_,λx hx=>?_⟩
    ·unfold fO at hl;simp only[yB3]at hl⊢;rw[yE1 (by omega)]at hl⊢;simpa using hl
    ·rcases h3 x hx with h4|h4
     ·exact .inl h4
     ·exact .inr (ih _ (by omega) (by omega))
   rw[h]at hm;cases hm
end
structure OD where
 on:Bool
 v:AV
 d:List (Nat×xM)
 r:List Nat
 nw:List Nat
def St.app (st:St) (dst:Option Nat) (v:AV) (d:List (Nat×xM)):St:=⟨match dst with
 |some t=>(t,v)::st.tm
 |none=>st.tm,d++st.h⟩
def gOf (ops:Array Oper) (o:Oper):List Nat:=match o.guard with
 |some (j,_)=>(VN ops j).toList
 |none=>[]
def CY (P:Program) (m:Nat) (ops:Array Oper) (o:Oper) (st:St) (e:OD):Prop:=
 vK e.d=true/\(∀t,o.dst=some t->t<m)/\(∀k,k∈e.nw->zC st.h k=none)/\
 (e.on=true->wP P st o.op e.v e.d e.r e.nw)/\(e.on=false->e.v= .s undef/\e.d=[])/\
 match o.guard with
  |none=>e.on=true
  |some (j,b)=>∃t c,VN ops j=some t/\zG st.tm t= .s c/\e.on=gw c b
def Tr (P:Program) (m:Nat) (ops:Array Oper):List Oper->St->List OD->St->Prop
 | [],st,[],st'=>st=st'
 |o::l,st,e::es,st'=>CY P m ops o st e/\Tr P m ops l (st.app o.dst e.v e.d) es st'
 |_,_,_,_=>False
def kD (L:Nat->Bool):Nat->List (Option Nat×OD)->St->St
 |_,[],st=>st
 |i,(dst,e)::r,st=>kD L (i+1) r (bif L i then st.app dst e.v e.d else st)
def VS (st:St) (dst:Option Nat) (v:AV) (d:List (Nat×xM)) (t:Nat):zG (st.app dst v d).tm t=if dst=some t then v else zG st.tm t:=by
 cases dst with
 |none=>simp[St.app]
 |some j=>simp only[St.app,yE,yCq];by_cases h:t=j<;>simp[h,yHm]
def ZQ (st:St) (dst:Option Nat) (v:AV) (d:List (Nat×xM)) (k:Nat):zC (st.app dst v d).h k=over d (zC st.h) k:=by
 show zC (d++st.h) k=_
 rw[wI]
theorem VT {L L':Nat->Bool} {t:Nat}:∀(r:List (Option Nat×OD)) (i:Nat) (st st':St),zG st.tm t=zG st'.tm t->(∀(j:Nat) p,r[j]? =some p->p.1=some t->L (i+j)=L' (i+j))->
  zG (kD L i r st).tm t=zG (kD L' i r st').tm t
 | [],_,_,_,h,_=>h
 | (dst,e)::r,i,st,st',h,hl=>by
  refine VT r (i+1) _ _ ?_ λj p hp h1=>by have:=hl (j+1) p (by simpa using hp) h1;rwa [show i+1+j=i+(j+1) by omega]
  by_cases hd:dst=some t
  ·have:=hl 0 (dst,e) Z hd;simp only[yEn]at this;rw[this];cases L' i
   ·exact h
   ·simp only[yCu,VS,hd,yGb]
  ·cases L i<;>cases L' i<;>simp only[yCu,yDc,VS,yBc hd,h]
def CZ {d:List (Nat×xM)} {h:yD} {k:Nat} (hk:¬k∈yT d):over d h k=h k:=by
 unfold over
 cases he:zC d k with
 |none=>rfl
 |some e=>exact absurd (vS he) hk
def zD3 {d:List (Nat×xM)} {h h':yD} {k:Nat} (hk:k∈yT d):over d h k=over d h' k:=by
 obtain⟨e,he⟩:=cM hk;simp[over,he]
theorem ZR {L L':Nat->Bool} {k:Nat}:∀(r:List (Option Nat×OD)) (i:Nat) (st st':St),zC st.h k=zC st'.h k->(∀(j:Nat) p,r[j]? =some p->k∈yT p.2.d->L (i+j)=L' (i+j))->
  zC (kD L i r st).h k=zC (kD L' i r st').h k
 | [],_,_,_,h,_=>h
 | (dst,e)::r,i,st,st',h,hl=>by
  refine ZR r (i+1) _ _ ?_ λj p hp h1=>by have:=hl (j+1) p (by simpa using hp) h1;rwa [show i+1+j=i+(j+1) by omega]
  by_cases hd:k∈yT e.d
  ·have:=hl 0 (dst,e) Z hd;simp only[yEn]at this;rw[this];cases L' i
   ·exact h
   ·simp only[yCu,ZQ];exact zD3 hd
  ·cases L i<;>cases L' i<;>simp only[yCu,yDc,ZQ,CZ hd,h]
theorem zD4 {L:Nat->Bool} {P:Program} {m:Nat} {ops:Array Oper}:∀(l:List Oper) (es:List OD) (i:Nat) (st st':St),Tr P m ops l st es st'->(∀j,j<l.length->L (i+j)=true)->kD L i (l.zipWith (λo e=>(o.dst,e)) es) st=st'
 | [],[],_,_,_,h,_=>h
 |o::l,e::es,i,st,st',h,hl=>by
  simp only[yEu,kD];rw[show L i=true from hl 0 zQ];exact zD4 l es (i+1) _ st' h.2 λj hj=>by have:=hl (j+1) (by simpa using hj);rwa [show i+1+j=i+(j+1) by omega]
 | [],_::_,_,_,_,h,_=>h.elim
 |_::_,[],_,_,_,h,_=>h.elim
theorem VU {L:Nat->Bool}:∀(r:List (Option Nat×OD)) (i:Nat) (st:St),(∀j,j<r.length->L (i+j)=false)->kD L i r st=st
 | [],_,_,_=>rfl
 |(dst,e)::r,i,st,h=>by
  unfold kD;rw[show L i=false from h 0 zQ];exact VU r (i+1) st λj hj=>by have:=h (j+1) (by simpa using hj);rwa [show i+1+j=i+(j+1) by omega]
theorem Tr.len {P:Program} {m:Nat} {ops:Array Oper}:∀{l:List Oper} {es:List OD} {st st':St},Tr P m ops l st es st'->es.length=l.length
 | [],[],_,_,_=>rfl
 |o::l,e::es,_,_,h=>by simp[Tr.len h.2]
 | [],_::_,_,_,h=>h.elim
 |_::_,[],_,_,h=>h.elim
theorem Tr.at {P:Program} {m:Nat} {ops:Array Oper}:∀{l:List Oper} {es:List OD} {st st':St} (i k:Nat) (o:Oper) (e:OD),Tr P m ops l st es st'->l[i]? =some o->es[i]? =some e->
  CY P m ops o (kD (λj=>decide (j<k+i)) k (l.zipWith (λo e=>(o.dst,e)) es) st) e/\
   kD (λj=>decide (j<k+i+1)) k (l.zipWith (λo e=>(o.dst,e)) es) st=(kD (λj=>decide (j<k+i)) k (l.zipWith (λo e=>(o.dst,e)) es) st).app o.dst e.v e.d
 | o'::l,e'::es,st,st',0,k,o,e,h,h1,h2=>by
  simp at h1 h2;subst h1 h2;have q1:kD (λj=>decide (j<k+0)) k ((o'::l).zipWith (λo e=>(o.dst,e)) (e'::es)) st=st:=VU _ _ _ λj _=>by simp
  have q2:kD (λj=>decide (j<k+0+1)) k ((o'::l).zipWith (λo e=>(o.dst,e)) (e'::es)) st=st.app o'.dst e'.v e'.d:=by
   simp only[yEu,kD,show decide (k<k+0+1)=true by simp,yCu];exact VU _ _ _ λj _=>by simp
  rw[q1,q2];exact⟨h.1,rfl⟩
 |o'::l,e'::es,st,st',i+1,k,o,e,h,h1,h2=>by
  have ih:=Tr.at i (k+1) o e h.2 KE OO;simp only[yEu,kD,show decide (k<k+(i+1))=true by simp,show decide (k<k+(i+1)+1)=true by simp;omega,yCu];rw[show k+(i+1)=k+1+i by omega];exact ih
 | [],[],_,_,_,_,_,_,_,h1,_=>by simp at h1
 | [],_::_,_,_,_,_,_,_,h,_,_=>h.elim
 |_::_,[],_,_,_,_,_,_,h,_,_=>h.elim
structure FP where
 on:Bool
 w:List Nat
 r:List Nat
def OD.fp (e:OD):FP:=⟨e.on,yT e.d++e.nw,e.r⟩
def zF1 (ops:Array Oper) (o:Oper):List Nat:=gOf ops o++fP o.op
def dR (ops:Array Oper) (oi oj:Oper) (fi fj:FP):Bool:=
 (match oi.dst with|some t=>(zF1 ops oj).contains t||oj.dst==some t|none=>false)||(match oj.dst with|some t=>(zF1 ops oi).contains t|none=>false)||
  fi.w.any (λk=>fj.w.contains k||fj.r.contains k)||fj.w.any (λk=>fi.r.contains k)
def BA (l:List Oper) (T:List Nat) (fs:List FP):Bool:=
 zQ6 l.toArray&&okT l.toArray T&&(List.range l.length).all λj=>(List.range j).all λi=>match l[i]?,l[j]?,fs[i]?,fs[j]? with
  |some oi,some oj,some fi,some fj=>bit T j i|| !dR l.toArray oi oj fi fj
  |_,_,_,_=>false
section
variable {P:Program} {K0:List Nat} {F:Fr K0} {m:Nat}
theorem YC.congr {tm tm':Nat->AV} {h h':yD} {a:Act} {w:World} (R:YC F m tm h a w) (e1:∀t,tm' t=tm t) (e2:∀k,h' k=h k):YC F m tm' h' a w:=by
 obtain rfl:tm'=tm:=funext e1;obtain rfl:h'=h:=funext e2;exact R
def XM (l:List Oper) (n:Nat) (T:List Nat) (fs:List FP):Bool:=
 zQ6 l.toArray&&okT l.toArray T&&((List.range n).all λj=>(List.range j).all λi=>match l[i]?,l[j]?,fs[i]?,fs[j]? with
  |some oi,some oj,some fi,some fj=>bit T j i|| !dR l.toArray oi oj fi fj
  |_,_,_,_=>false)&&Nat.ble n l.length&&((List.range l.length).all λj=>Nat.blt j n||(List.range j).all λi=>bit T j i)
theorem LZ {id:Nat} {l:List Oper} (n:Nat) {st st':St} {es:List OD} {Q:Exit->St->Prop} (hm:P.follows .mixedOrders=true) (hT:Tr P m l.toArray (l.take n) st es st') (hC:XM l n (MQ l) (es.map OD.fp)=true) (hB:FK P F m l.toArray (l.drop n) st' (Q .normal)):
  vO P F m (.region id l.toArray true) st Q:=by
 refine⟨?_⟩;intro a w H;unfold XM at hC;rw[yBq,yBq,yBq,yBq,yBr,yBr]at hC;obtain⟨⟨⟨⟨hA,hTc⟩,hX⟩,hnl⟩,hY⟩:=hC;have hnl:=yBv hnl;generalize MQ l=T at *;have hlen:=hT.len;rw[yB4,Nat.min_eq_left hnl]at hlen
 have hAl:∀(i:Nat) o,(l.take n)[i]? =some o->l[i]? =some o/\i<n:=λi o h=>by
  have h1:i<n:=by
   have:=(yB0.1 h).1;rw[yB4]at this;omega
  rw[List.getElem?_take_of_lt h1]at h;exact⟨h,h1⟩
 have hbt:∀i j,n<=j->j<l.length->i<j->bit T j i=true:=λi j h1 h2 h3=>by
  have:=hY j (yBz.2 h2);rw[show Nat.blt j n=false by cases hb:Nat.blt j n with|false=>rfl|true=>exact absurd (yBv hb) (by omega),yEv,yBr]at this;exact this i (yBz.2 h3)
 let R:=(l.take n).zipWith (λo e=>(o.dst,e)) es
 have hR:∀(j:Nat) p,R[j]? =some p->∃o e,(l.take n)[j]? =some o/\es[j]? =some e/\p=(o.dst,e):=λj p hp=>by
  simp only[R,List.getElem?_zipWith]at hp
  cases ho:(l.take n)[j]? with
  |none=>simp[ho]at hp
  |some o=>cases he:es[j]? with
   |none=>simp[ho,he]at hp
   |some e=>simp[ho,he]at hp;exact⟨o,e,rfl,rfl,hp.symm⟩
 have hcl:∀i j oi oj ei ej,i<j->(l.take n)[i]? =some oi->(l.take n)[j]? =some oj->es[i]? =some ei->es[j]? =some ej->dR l.toArray oi oj ei.fp ej.fp=true->bit T j i=true:=λi j oi oj ei ej hij h1 h2 h3 h4 h5=>by
  have:=yBr.1 (hX j (yBz.2 (hAl j oj h2).2)) i (yBz.2 hij);simp only[(hAl i oi h1).1,(hAl j oj h2).1,yBh,h3,h4,Option.map_some,h5,yGl,yG3]at this;simpa using this
 let QQ:Exit->Act->World->Prop:=λe a' w'=>e= .normal/\∃s,Q .normal s/\xY F m s a' w'
 let J0:Array Bool->Prop:=λL=>L.size=l.toArray.size/\(∀i o,l.toArray[i]? =some o->fO L i=true->∀e∈o.after,binds e=true->fO L e.on=true)
 let JA:Array Bool->Act->World->Prop:=λL a w=>J0 L/\(∀i,n<=i->fO L i=false)/\YC F m (zG (kD (fO L) 0 R st).tm) (zC (kD (fO L) 0 R st).h) a w
 let JB:Array Bool->Act->World->Prop:=λL a w=>J0 L/\∃k,(∀i,fO L i=decide (i<n+k))/\n+k<=l.length/\wpListIn (BF F.ro) 0 P l.toArray QQ (l.drop (n+k)) a w
 let J:Array Bool->Act->World->Prop:=λL a w=>JA L a w∨JB L a w
 have hJ0:∀L a w,J L a w->J0 L:=λL a w h=>h.elim (λh=>h.1) (λh=>h.1)
 have hAB:∀L a w,JA L a w->(∀i,i<n->fO L i=true)->JB L a w:=λL a w hJ hall=>by
  refine⟨hJ.1,0,λi=>?_,hnl,?_⟩
  ·by_cases h:i<n
   ·rw[hall i h];simp[h]
   ·rw[hJ.2.1 i (by omega)];simp[h]
  ·have:kD (fO L) 0 R st=st':=zD4 (l.take n) es 0 st st' hT λj hj=>by rw[yCv];exact hall j (by rw[yB4]at hj;omega)
   have h2:=hJ.2.2;rw[this]at h2;exact hB a w h2
 have hend:∀L a w,(∀i,i<l.toArray.size->fO L i=true)->J L a w->QQ .normal a w:=λL a w hall hJ=>by
  have hJB:JB L a w:=hJ.elim (λh=>hAB L a w h λi hi=>hall i wU) (λh=>h);obtain⟨_,k,h1,h2,h3⟩:=hJB
  have hk:n+k=l.length:=by
   by_cases h:n+k<l.length
   ·have h4:=hall (n+k) HO;rw[h1]at h4;simp at h4
   ·omega
  rw[hk,yE6]at h3;exact h3
 have hcls:∀(L:Array Bool) i o,J0 L->l.toArray[i]? =some o->(∀e∈o.after,binds e=true->fO L e.on=true)->J0 (L.setIfInBounds i true):=λL i o h0 ho hpre=>by
  obtain⟨hs,hdn⟩:=h0;have hin:i<l.toArray.size:=(yDq.1 ho).1
  have hL':∀j,fO (L.setIfInBounds i true) j=if j=i then true else fO L j:=λj=>VR L i j (by rw[hs];exact hin)
  refine⟨by simpa using hs,λj oj hoj hlj ed hed hb=>?_⟩;rw[hL']at hlj⊢;by_cases hji:j=i
  ·subst hji;rw[ho]at hoj;cases hoj;split
   ·rfl
   ·exact hpre ed hed hb
  ·rw[yBc hji]at hlj;split
   ·rfl
   ·exact hdn j oj hoj hlj ed hed hb
 have hstepB:∀L a w i,JB L a w->i∈Region.ready .any l.toArray L->∀K:Act->World->Prop,(∀a' w',J (L.setIfInBounds i true) a' w'->K a' w')->wpOpIn (BF F.ro) 0 P l.toArray QQ i K a w:=by
  intro L a w i hJ hi K hK;obtain⟨h0,k,h1,h2,h3⟩:=hJ;obtain⟨o,ho,hl,hpre⟩:=cJ h0.1 hi;have hin:i<l.toArray.size:=(yDq.1 ho).1;have hin':i<l.length:=by simpa using hin
  have hge:n+k<=i:=by
   rw[h1]at hl;simpa using hl
  have hie:i=n+k:=by
   by_cases h:n+k<i
   ·have h5:=HE hA hTc h0.2 (i+1) i o (by omega) ho hpre (n+k) (hbt _ _ (by omega) hin' h);rw[h1]at h5;simp at h5
   ·omega
  subst hie;rw[yDx hin']at h3
  have ho':l[n+k]'hin'=o:=by
   have:=(yDq.1 ho).2;simpa using this
  rw[ho']at h3
  have hL':∀j,fO (L.setIfInBounds (n+k) true) j=if j=n+k then true else fO L j:=λj=>VR L _ j (by rw[h0.1];exact hin)
  have hnx:∀a' w',wpListIn (BF F.ro) 0 P l.toArray QQ (l.drop (n+k+1)) a' w'->K a' w':=λa' w' h=>by
   refine hK a' w' (.inr ⟨hcls L _ o h0 ho hpre,k+1,λj=>?_,by omega,h⟩);rw[hL',h1];by_cases hj:j=n+k
   ·rw[yBd hj];simp;omega
   ·rw[yBc hj];by_cases hj2:j<n+k
    ·simp[hj2];omega
    ·simp[hj2];omega
  unfold wpOpIn;rw[ho];dsimp only;unfold wpListIn at h3;split
  ·rename_i hw;rw[yBd hw]at h3;exact Oper.wpIn_mono hnx h3
  ·rename_i hw;rw[yBc hw]at h3;exact⟨h3.1,hnx _ _ h3.2⟩
 have hstep:∀L a w i,J L a w->i∈Region.ready .any l.toArray L->∀K:Act->World->Prop,(∀a' w',J (L.setIfInBounds i true) a' w'->K a' w')->wpOpIn (BF F.ro) 0 P l.toArray QQ i K a w:=by
  intro L a w i hJ hi K hK
  rcases hJ with hJ|hJ
  case inr=>exact hstepB L a w i hJ hi K hK
  by_cases hin0:i<n
  case neg=>
   refine hstepB L a w i (hAB L a w hJ λj hj=>?_) hi K hK;obtain⟨o,ho,hl,hpre⟩:=cJ hJ.1.1 hi;have hin:i<l.toArray.size:=(yDq.1 ho).1;exact HE hA hTc hJ.1.2 (i+1) i o (by omega) ho hpre j (hbt _ _ (by omega) (by simpa using hin) (by omega))
  obtain⟨h00,hge0,hRel⟩:=hJ;obtain⟨hs,hdn⟩:=h00;obtain⟨o,ho,hl,hpre⟩:=cJ hs hi;have hin:i<l.toArray.size:=(yDq.1 ho).1;have ho':(l.take n)[i]? =some o:=by rw[List.getElem?_take_of_lt hin0];simpa using ho
  obtain⟨e,he⟩:∃e,es[i]? =some e:=⟨es[i]'(by rw[hlen];exact hin0),by simp⟩;have hahead:=HE hA hTc hdn (i+1) i o (by omega) ho hpre
  have hlate:∀j,j<l.toArray.size->bit T j i=true->fO L j=false:=λj hj hij=>by
   cases hlj:fO L j with
   |false=>rfl
   |true=>
    have hoj:l.toArray[j]? =some l.toArray[j]:=by simp[hj]
    have:=HE hA hTc hdn (j+1) j _ (by omega) hoj (hdn j _ hoj hlj) i hij;rw[hl]at this;cases this
  have hord:∀j oj ej,(l.take n)[j]? =some oj->es[j]? =some ej->j≠i->(j<i->dR l.toArray oj o ej.fp e.fp=true)->(i<j->dR l.toArray o oj e.fp ej.fp=true)->fO L j=decide (j<i):=λj oj ej h1 h2 hne h3 h4=>by
   rcases Nat.lt_or_gt_of_ne hne with h|h
   ·rw[hahead j (hcl j i oj o ej e h h1 ho' h2 he (h3 h))];simp[h]
   ·rw[hlate j (by have:=hAl j oj h1;simp;omega) (hcl i j o oj e ej h ho' h1 he h2 (h4 h))];simp;omega
  obtain⟨⟨s1,s2,s3,s4,s5,s6⟩,hnext⟩:=hT.at i 0 o e ho' he;simp only[yCv]at s3 s4 s6 hnext
  let Li:Nat->Bool:=λj=>decide (j<i)
  have rdS:∀t,t∈zF1 l.toArray o->zG (kD (fO L) 0 R st).tm t=zG (kD Li 0 R st).tm t:=λt ht=>VT R 0 st st Z λj p hp hd=>by
   obtain⟨oj,ej,h1,h2,rfl⟩:=hR j p hp;rw[yCv];by_cases hji:j=i
   ·subst hji;simp only[Li];rw[hl];simp
   ·refine hord j oj ej h1 h2 hji (λ_=>?_) λ_=>?_
    ·unfold dR;simp only[show oj.dst=some t from hd,yD3.2 ht,yE2]
    ·unfold dR;simp only[show oj.dst=some t from hd,yD3.2 ht,yE2,yEl]
  have rdK:∀k,k∈e.r∨k∈e.nw∨k∈yT e.d->zC (kD (fO L) 0 R st).h k=zC (kD Li 0 R st).h k:=λk hk=>ZR R 0 st st Z λj p hp hd=>by
   obtain⟨oj,ej,h1,h2,rfl⟩:=hR j p hp;rw[yCv];by_cases hji:j=i
   ·subst hji;simp only[Li];rw[hl];simp
   ·have hwj:k∈ej.fp.w:=by simp only[OD.fp,yBy];exact .inl hd
    have hki:k∈e.fp.w∨k∈e.fp.r:=by
     simp only[OD.fp,yBy]
     rcases hk with h|h|h
     ·exact .inr h
     ·exact .inl (.inr h)
     ·exact .inl (.inl h)
    refine hord j oj ej h1 h2 hji (λ_=>?_) λ_=>?_
    ·have:ej.fp.w.any (λk=>e.fp.w.contains k||e.fp.r.contains k)=true:=yCx.2 ⟨k,hwj,by simp only[yDo,yD3];exact hki⟩;unfold dR;simp only[this,yEl,yE2]
    ·rcases hki with h|h
     ·have:e.fp.w.any (λk=>ej.fp.w.contains k||ej.fp.r.contains k)=true:=yCx.2 ⟨k,h,by simp only[yDo,yD3];exact .inl hwj⟩;unfold dR;simp only[this,yEl,yE2]
     ·have:ej.fp.w.any (λk=>e.fp.r.contains k)=true:=yCx.2 ⟨k,hwj,yD3.2 h⟩;unfold dR;simp only[this,yEl]
  have hL':∀j,fO (L.setIfInBounds i true) j=if j=i then true else fO L j:=λj=>VR L i j (by rw[hs];exact hin)
  have lookN:∀t,zG (kD (fO (L.setIfInBounds i true)) 0 R st).tm t=if o.dst=some t then e.v else zG (kD (fO L) 0 R st).tm t:=λt=>by
   by_cases hd:o.dst=some t
   ·rw[yBd hd]
    have h1:zG (kD (fO (L.setIfInBounds i true)) 0 R st).tm t=zG (kD (λj=>decide (j<i+1)) 0 R st).tm t:=VT R 0 st st Z λj p hp hdj=>by
     obtain⟨oj,ej,h1,h2,rfl⟩:=hR j p hp;rw[yCv,hL'];by_cases hji:j=i
     ·subst hji;simp
     ·have hdj':oj.dst=some t:=hdj;rw[yBc hji,hord j oj ej h1 h2 hji (λ_=>by unfold dR;simp[hdj',hd]) (λ_=>by unfold dR;simp[hdj',hd])];by_cases h:j<i
      ·simp[h];omega
      ·simp[h];omega
    rw[h1,show(kD (λj=>decide (j<i+1)) 0 R st)=_ from hnext,VS,yBd hd]
   ·rw[yBc hd]
    exact VT R 0 st st Z λj p hp hdj=>by
     obtain⟨oj,ej,h1,h2,rfl⟩:=hR j p hp;rw[yCv,hL'];by_cases hji:j=i
     ·subst hji;rw[ho']at h1;cases h1;exact absurd hdj hd
     ·rw[yBc hji]
  have lookEN:∀k,zC (kD (fO (L.setIfInBounds i true)) 0 R st).h k=over e.d (zC (kD (fO L) 0 R st).h) k:=λk=>by
   by_cases hd:k∈yT e.d
   ·have h1:zC (kD (fO (L.setIfInBounds i true)) 0 R st).h k=zC (kD (λj=>decide (j<i+1)) 0 R st).h k:=ZR R 0 st st Z λj p hp hdj=>by
     obtain⟨oj,ej,h1,h2,rfl⟩:=hR j p hp;rw[yCv,hL'];by_cases hji:j=i
     ·subst hji;simp
     ·have hwj:k∈ej.fp.w:=by simp only[OD.fp,yBy];exact .inl hdj
      have hwi:k∈e.fp.w:=by simp only[OD.fp,yBy];exact .inl hd
      have q1:ej.fp.w.any (λk=>e.fp.w.contains k||e.fp.r.contains k)=true:=yCx.2 ⟨k,hwj,by simp only[yDo,yD3];exact .inl hwi⟩;have q2:e.fp.w.any (λk=>ej.fp.w.contains k||ej.fp.r.contains k)=true:=yCx.2 ⟨k,hwi,by simp only[yDo,yD3];exact .inl hwj⟩;rw[yBc hji,hord j oj ej h1 h2 hji (λ_=>by unfold dR;simp only[q1,yEl,yE2]) (λ_=>by unfold dR;simp only[q2,yEl,yE2])];by_cases h:j<i
      ·simp[h];omega
      ·simp[h];omega
    rw[h1,show(kD (λj=>decide (j<i+1)) 0 R st)=_ from hnext,ZQ];exact zD3 hd
   ·rw[CZ hd]
    exact ZR R 0 st st Z λj p hp hdj=>by
     obtain⟨oj,ej,h1,h2,rfl⟩:=hR j p hp;rw[yCv,hL'];by_cases hji:j=i
     ·subst hji;rw[he]at h2;cases h2;exact absurd hdj hd
     ·rw[yBc hji]
  have hfin:∀a' w',YC F m (λt=>if o.dst=some t then e.v else zG (kD (fO L) 0 R st).tm t) (over e.d (zC (kD (fO L) 0 R st).h)) a' w'->K a' w':=λa' w' h=>by
   refine hK a' w' (.inl ⟨hcls L i o ⟨hs,hdn⟩ ho hpre,λj hj=>?_,h.congr lookN lookEN⟩);rw[hL',yBc (by omega)];exact hge0 j hj
  have hexec:e.on=true->o.wpIn (BF F.ro) 0 P a w K QQ:=λhon=>
   (s4 hon).rel hRel (λt ht=>rdS t (by unfold zF1;simp[ht])) (λk hk=>rdK k (.inl hk)) (λk hk=>by rw[rdK k (.inr (.inl hk))];exact s3 k hk) s1 s2 hfin
  unfold wpOpIn;rw[ho];dsimp only
  cases hg:o.guard with
  |none=>
   rw[hg]at s6;rw[yBd (by simp[Region.wanted,hg])];exact hexec s6
  | some jb=>
   obtain⟨j,b⟩:=jb;rw[hg]at s6;obtain⟨t,c,g1,g2,g3⟩:=s6;have htr:t∈zF1 l.toArray o:=by unfold zF1 gOf;simp[hg,g1]
   have hv:a.eval (.tmp t)=c:=by
    obtain⟨⟨_,β,_,_,Ht,_⟩,_⟩:=hRel;have:=Ht t;rw[rdS t htr,g2]at this;exact this.s_inv
   have hw:=bB hg g1 hv
   cases hon:e.on with
   |true=>
    rw[yBd (by rw[hw,<-g3,hon])];exact hexec hon
   |false=>
    rw[yBc (by rw[hw,<-g3,hon];simp)];obtain⟨v1,v2⟩:=s5 hon;refine⟨λ_ _=>trivial,hfin _ _ ?_⟩;rw[v1,v2];exact YC.bot hRel o.dst s2
 have main:∀(fuel:Nat) (L:Array Bool) (a:Act) (w:World),cnt (λi=>!fO L i) l.toArray.size<=fuel->J L a w->wpAnyIn (BF F.ro) 0 P .any l.toArray QQ fuel L a w:=by
  intro fuel
  induction fuel with
  | zero=>
   intro L a w hf hJ
   have all:∀i,i<l.toArray.size->fO L i=true:=by
    intro i hi
    cases hl:fO L i with
    |true=>rfl
    |false=>
     exfalso;have h:=zD2 (p:=λj=>!fO L j&&j != i) (q:=λj=>!fO L j) l.toArray.size i hi zQ (λj hj=>by simp[hj]);simp[hl]at h;simp at hf;omega
   refine⟨?_,hend L a w all hJ⟩
   cases hr:Region.ready .any l.toArray L with
   |nil=>rfl
   |cons i rest=>
    obtain⟨o,ho,hl,_⟩:=cJ (hJ0 _ _ _ hJ).1 (i:=i) (by rw[hr];simp);rw[all i (yDq.1 ho).1]at hl;cases hl
  |succ fuel ih=>
   intro L a w hf hJ;refine⟨λhr=>hend L a w (λi hi=>zF0 hA (hJ0 _ _ _ hJ).1 hr (i+1) i (by omega) hi) hJ,λi hi=>?_⟩;refine hstep L a w i hJ hi _ (λa' w' hJ'=>ih _ _ _ ?_ hJ');obtain⟨o,ho,hl,_⟩:=cJ (hJ0 _ _ _ hJ).1 hi;have hin:i<l.toArray.size:=(yDq.1 ho).1;have h:=zD2 (p:=λj=>!fO (L.setIfInBounds i true) j) (q:=λj=>!fO L j) l.toArray.size i hin (by simp[VR L i i (by rw[(hJ0 _ _ _ hJ).1];exact hin)]) (λj hj=>by simp[VR L i j (by rw[(hJ0 _ _ _ hJ).1];exact hin),hj]);simp[hl]at h;simp at hf⊢;omega
 refine Code.wpIn_mono (λe a' w' ⟨he,s,h1,h2⟩=>⟨s,by rw[he];exact h1,h2⟩) (wpIn_region_any hm (main _ _ _ _ (zWl _ _) ?_))
 have hf:∀i,fO (Array.replicate l.toArray.size false) i=false:=by
  intro i;unfold fO;simp only[yB3,Array.getElem?_replicate]
  split<;>rfl
 refine .inl ⟨⟨by simp,λi o _ hl=>?_⟩,λi _=>hf i,?_⟩
 ·rw[hf]at hl;cases hl
 ·rw[VU R 0 st λj _=>hf _];obtain⟨⟨X,β,hX,HH,Ht,KK,hJ,hD⟩,nd,gs,hl⟩:=H;have G:=yW.drew HH (w.drawn+1);exact⟨⟨X,β,hX,G.hok,λt=>(Ht t).evo G.evo,KK.goes G nd (G.lives HH nd),λi hi=>F.go G (hJ i hi),hD.goes HH G⟩,nd,gs,hl⟩
def zL9 {id:Nat} {l:List Oper} {st st':St} {es:List OD} {Q:Exit->St->Prop} (hm:P.follows .mixedOrders=true) (hT:Tr P m l.toArray l st es st') (hC:BA l (MQ l) (es.map OD.fp)=true) (hq:Q .normal st'):
  vO P F m (.region id l.toArray true) st Q:=by
 refine LZ l.length hm (by rw[yBj];exact hT) ?_ (by rw[yE6];exact λa w H=>⟨rfl,_,hq,H⟩);unfold XM;unfold BA at hC;rw[hC,yB2,yBq,yBr];refine⟨yE0 (yBg _),λj hj=>?_⟩;rw[show Nat.blt j l.length=true from yE0 (yBz.1 hj),yE2]
end
def zBf {P:Program} {TT:List TI} (h:(List.range TT.length).map (λt=>zMh P t)=TT.map some):uG P TT:=λt ti ht=>by
 have hl:=(yB0.1 ht).1;have:=yB8 (·[t]?) h;simp only[yBh,ht,Option.map_some,yCe hl]at this;simpa using this
def zZc (P:Program) {K0:List Nat} (F:Fr K0) (m:Nat) (ops:Array Oper):Bool->List Oper->St->List FP->(List FP->St->Prop)->Prop
 |false,l,st,_,Q=>FK P F m ops l st (Q [])
 |true,l,st,fs,Q=>∃es st',Tr P m ops l st es st'/\Q ((es.map OD.fp).reverse++fs) st'
structure zX (P:Program) {K0:List Nat} (F:Fr K0) (m:Nat) (ops:Array Oper) (dr:Bool) (l:List Oper) (st:St) (fs:List FP) (Q:List FP->St->Prop):Prop where
 run:zZc P F m ops dr l st fs Q
section
variable {P:Program} {K0:List Nat} {F:Fr K0} {m:Nat} {ops:Array Oper} {rest:List Oper} {Q:List FP->St->Prop} {tm:List (Nat×AV)} {h:List (Nat×xM)} {dr:Bool} {fs:List FP}
def qR {st:St} {Q':St->Prop} (hq:Q' st):zX P F m ops false [] st fs (λ_ s=>Q' s):=⟨zQ4 hq⟩
def HF {l:List Oper} {st:St} {Q':St->Prop} (hc:BA l (MQ l) fs.reverse=true) (hq:Q' st):zX P F m ops true [] st fs (λfs s=>BA l (MQ l) fs.reverse=true/\Q' s):=⟨⟨[],st,rfl,hc,hq⟩⟩
def HG {o:Oper} {st st':St} {e:OD} (hon:e.on=true) (hg:o.guard=none) (hs:wP P st o.op e.v e.d e.r e.nw) (hn:∀k,k∈e.nw->zC st.h k=none) (hd:vK e.d=true) (hm:∀t,o.dst=some t->t<m)
  (he:st'=st.app o.dst e.v e.d) (hk:zX P F m ops dr rest st' (e.fp::fs) Q):zX P F m ops dr (o::rest) st fs Q:=by
 subst he
 cases dr with
 |false=>exact⟨zL7 hg hs hn hd hm (λt=>VS _ _ _ _ _) (funext λk=>ZQ _ _ _ _ _) hk.run⟩
 |true=>
  obtain⟨es,st2,h1,h2⟩:=hk.run;refine⟨⟨e::es,st2,⟨⟨hd,hm,hn,(λ_=>hs),(λh=>by rw[hon]at h;cases h),by rw[hg];exact hon⟩,h1⟩,?_⟩⟩;simpa using h2
section
variable {op:Op} {ty:Nat} {pos:String} {after:Array Edge} {t:Nat} {v:AV} {r nw:List Nat}
def wK (hs:wP P ⟨tm,h⟩ op v [] r []) (hm:Nat.blt t m=true) (hk:zX P F m ops dr rest ⟨(t,v)::tm,h⟩ (⟨true,[],r⟩::fs) Q):zX P F m ops dr (⟨some t,op,ty,pos,after,none⟩::rest) ⟨tm,h⟩ fs Q:=
 HG (e:=⟨true,v,[],r,[]⟩) Z Z hs zQ Z (λj hj=>by cases hj;exact yBv hm) Z hk
def qA {k:Nat} {e:xM} (hs:wP P ⟨tm,h⟩ op v [(k,e)] r nw) (hm:Nat.blt t m=true) (hn:nw.all (λj=>(zC h j).isNone)=true) (hd:vK [(k,e)]=true) (hk:zX P F m ops dr rest ⟨(t,v)::tm,(k,e)::h⟩ (⟨true,k::nw,r⟩::fs) Q):
  zX P F m ops dr (⟨some t,op,ty,pos,after,none⟩::rest) ⟨tm,h⟩ fs Q:=
 HG (e:=⟨true,v,[(k,e)],r,nw⟩) Z Z hs (λj hj=>by have:=yBr.1 hn j hj;simpa using this) hd (λj hj=>by cases hj;exact yBv hm) Z hk
def x_s {k:Nat} {e:xM} (hs:wP P ⟨tm,h⟩ op v [(k,e)] r nw) (hn:nw.all (λj=>(zC h j).isNone)=true) (hd:vK [(k,e)]=true) (hk:zX P F m ops dr rest ⟨tm,(k,e)::h⟩ (⟨true,k::nw,r⟩::fs) Q):zX P F m ops dr (⟨none,op,ty,pos,after,none⟩::rest) ⟨tm,h⟩ fs Q:=
 HG (e:=⟨true,v,[(k,e)],r,nw⟩) Z Z hs (λj hj=>by have:=yBr.1 hn j hj;simpa using this) hd (λj hj=>by cases hj) Z hk
def XZ {d:List (Nat×xM)} (hs:wP P ⟨tm,h⟩ op v d r nw) (hm:Nat.blt t m=true) (hn:nw.all (λj=>(zC h j).isNone)=true) (hd:vK d=true) (hk:zX P F m ops dr rest ⟨(t,v)::tm,d++h⟩ (⟨true,yT d++nw,r⟩::fs) Q):
  zX P F m ops dr (⟨some t,op,ty,pos,after,none⟩::rest) ⟨tm,h⟩ fs Q:=
 HG (e:=⟨true,v,d,r,nw⟩) Z Z hs (λj hj=>by have:=yBr.1 hn j hj;simpa using this) hd (λj hj=>by cases hj;exact yBv hm) Z hk
end
theorem CY.on {P:Program} {m:Nat} {ops:Array Oper} {d:Option Nat} {op:Op} {ty:Nat} {pos:String} {after:Array Edge} {j t:Nat} {b:Bool} {st:St} {e:OD} (ht:VN ops j=some t) (hv:zG st.tm t= .s (.bool b)) (hs:CY P m ops ⟨d,op,ty,pos,after,none⟩ st e):
  CY P m ops ⟨d,op,ty,pos,after,some (j,b)⟩ st e:=by
 obtain⟨h1,h2,h3,h4,h5,h6⟩:=hs;exact⟨h1,h2,h3,h4,h5,t,.bool b,ht,hv,by rw[show e.on=true from h6];simp[gw]⟩
def yAv {d:Option Nat} {op:Op} {ty:Nat} {pos:String} {after:Array Edge} {j t:Nat} {b:Bool} {st:St} (ht:VN ops j=some t) (hv:zG st.tm t= .s (.bool b)) (hk:zX P F m ops dr (⟨d,op,ty,pos,after,none⟩::rest) st fs Q):
  zX P F m ops dr (⟨d,op,ty,pos,after,some (j,b)⟩::rest) st fs Q:=by
 cases dr with
 |false=>exact⟨zWk ht hv hk.run⟩
 |true=>
  obtain⟨es,st2,h1,h2⟩:=hk.run
  cases es with
  |nil=>exact h1.elim
  |cons e es=>exact⟨⟨e::es,st2,⟨h1.1.on ht hv,h1.2⟩,h2⟩⟩
def zZd {d:Nat} {op:Op} {ty:Nat} {pos:String} {after:Array Edge} {j t:Nat} {b:Bool} {c:Value} (ht:VN ops j=some t) (hv:zG tm t= .s c) (hc:gw c b=false) (hm:Nat.blt d m=true) (hk:zX P F m ops dr rest ⟨(d,.s undef)::tm,h⟩ (⟨false,[],[]⟩::fs) Q):
  zX P F m ops dr (⟨some d,op,ty,pos,after,some (j,b)⟩::rest) ⟨tm,h⟩ fs Q:=by
 cases dr with
 |false=>exact⟨zQ5 ht hv hc hm hk.run⟩
 |true=>
  obtain⟨es,st2,h1,h2⟩:=hk.run;refine⟨⟨⟨false,.s undef,[],[],[]⟩::es,st2,⟨⟨rfl,(λj hj=>by cases hj;exact yBv hm),by simp,(λh=>by cases h),(λ_=>⟨rfl,rfl⟩),t,c,ht,hv,hc.symm⟩,h1⟩,?_⟩⟩;rw[yCh,List.reverse_cons,yCa];exact h2
def zQ8 {st:St} {l:List Oper} {t:Nat} {c:Bool} (hv:zG st.tm t= .s (.bool c)) (h1:c=true->zX P F m ops false l ⟨(t,.s (.bool true))::st.tm,st.h⟩ fs Q) (h2:c=false->zX P F m ops false l ⟨(t,.s (.bool false))::st.tm,st.h⟩ fs Q):zX P F m ops false l st fs Q:=⟨zFy hv (λh=>(h1 h).run) (λh=>(h2 h).run)⟩
def VV {d:Option Nat} {op:Op} {ty:Nat} {pos:String} {after:Array Edge} {j t:Nat} {b c:Bool} (ht:VN ops j=some t) (hv:zG tm t= .s (.bool c)) (h1:c=true->zX P F m ops false (⟨d,op,ty,pos,after,some (j,b)⟩::rest) ⟨(t,.s (.bool true))::tm,h⟩ fs Q) (h2:c=false->zX P F m ops false (⟨d,op,ty,pos,after,some (j,b)⟩::rest) ⟨(t,.s (.bool false))::tm,h⟩ fs Q):
  zX P F m ops false (⟨d,op,ty,pos,after,some (j,b)⟩::rest) ⟨tm,h⟩ fs Q:=by
 have:=ht;exact zQ8 (st:=⟨tm,h⟩) hv h1 h2
section
variable {ty t:Nat} {pos:String} {after:Array Edge} {st:St} {g:Option (Nat×Bool)} {d:Option Nat}
def wA {c:Operand} {asq:Array Operand} {ts:Array Nat} (hk:zX P F m ops dr (⟨some t,(.call ⟨.value c,asq,ts⟩),ty,pos,after,none⟩::rest) st fs Q):zX P F m ops dr (⟨some t,(.call ⟨.value c,asq,ts⟩),ty,pos,after,none⟩::rest) st fs Q:=hk
def wO {op:BinOp} {tx t2:Nat} {x y:Operand} (hk:zX P F m ops dr (⟨some t,(.binOp op tx x y t2),ty,pos,after,none⟩::rest) st fs Q):zX P F m ops dr (⟨some t,(.binOp op tx x y t2),ty,pos,after,none⟩::rest) st fs Q:=hk
def zWm {tx:Nat} {x y:Operand} (hk:zX P F m ops dr (⟨some t,(.indexAddr tx x y),ty,pos,after,none⟩::rest) st fs Q):zX P F m ops dr (⟨some t,(.indexAddr tx x y),ty,pos,after,none⟩::rest) st fs Q:=hk
def zQ9 {tx:Nat} {x:Operand} (hk:zX P F m ops dr (⟨some t,(.load tx x),ty,pos,after,none⟩::rest) st fs Q):zX P F m ops dr (⟨some t,(.load tx x),ty,pos,after,none⟩::rest) st fs Q:=hk
def zWn {tx n:Nat} {x:Operand} (hk:zX P F m ops dr (⟨some t,(.fieldAddr tx x n),ty,pos,after,none⟩::rest) st fs Q):zX P F m ops dr (⟨some t,(.fieldAddr tx x n),ty,pos,after,none⟩::rest) st fs Q:=hk
def XN {tx:Nat} {x y:Operand} (hk:zX P F m ops dr (⟨none,(.store tx x y),ty,pos,after,none⟩::rest) st fs Q):zX P F m ops dr (⟨none,(.store tx x y),ty,pos,after,none⟩::rest) st fs Q:=hk
def OE {op:Op} {j:Nat} {b:Bool} (hk:zX P F m ops dr (⟨d,op,ty,pos,after,some (j,b)⟩::rest) st fs Q):zX P F m ops dr (⟨d,op,ty,pos,after,some (j,b)⟩::rest) st fs Q:=hk
def zE {l:List Oper} (hk:zX P F m ops dr l st fs Q):zX P F m ops dr l st fs Q:=hk
end
def xI {Q:Exit->St->Prop} {id:Nat} {l:List Oper} {st:St} (hk:zX P F m l.toArray false l st [] (λ_ s=>Q .normal s)):vO P F m (.region id l.toArray false) st Q:=zBj hk.run
def vJ {Q:Exit->St->Prop} {id:Nat} {l:List Oper} {st:St} (hm:P.follows .mixedOrders=true) (hk:zX P F m l.toArray true l st [] (λfs s=>BA l (MQ l) fs.reverse=true/\Q .normal s)):vO P F m (.region id l.toArray true) st Q:=by
 obtain⟨es,st2,h1,h2,h3⟩:=hk.run;exact zL9 hm h1 OO h3
end
end Av
end Go.Proofs.YteajjdidebfcjaaGreat
