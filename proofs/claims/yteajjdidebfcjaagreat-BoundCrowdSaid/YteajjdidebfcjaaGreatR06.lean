/- Part 6. -/
import Derived.Test.YteajjdidebfcjaaGreatR05
import Derived.RangeFuncLeaves
import Derived.Orders
namespace Go.Proofs.YteajjdidebfcjaaGreat
namespace Av
set_option linter.all false
section
section ops
variable {P:Program} {K0:List Nat} {F:Fr K0} {m:Nat} {ops:Array Oper} {rest:List Oper} {Q:St->Prop} {tm:List (Nat×AV)} {h:List (Nat×xN)}
def zP9 {st:St} (hq:Q st):GN P F m ops [] st Q:=λ_ _ H=>⟨rfl,st,hq,H⟩
def zLv {o:Oper} {st:St} {v:AV} {d:List (Nat×xN)} {r nw:List Nat} {st':St} (hg:o.guard=none) (hs:wM P st o.op v d r nw) (hn:∀k,k∈nw->zC st.h k=none) (hd:vJ d=true) (hm:∀t,o.dst=some t->t<m)
  (he:∀t,zG st'.tm t=if o.dst=some t then v else zG st.tm t) (hh:zC st'.h=over d (zC st.h)) (hk:GN P F m ops rest st' Q):GN P F m ops (o::rest) st Q:=λa w H=>
 wpListIn_plain hg λK hK=>hs.rel H (λ_ _=>rfl) (λ_ _=>rfl) hn hd hm λa' w' H'=>hK _ _ (hk a' w' (by
  have e1:zG st'.tm=λt=>if o.dst=some t then v else zG st.tm t:=funext he
  unfold xV;rw[e1,hh]
  exact H'))
section
variable {op:Op} {ty:Nat} {pos:String} {after:Array Edge} {t:Nat} {v:AV} {r nw:List Nat}
end
def WU (ops:Array Oper) (j:Nat):Option Nat:=(ops[j]?).bind (·.dst)
def gw (v:Value) (b:Bool):Bool:=match v with
 | .bool c=>c==b
 |_=>false
def cM {o:Oper} {j t:Nat} {b:Bool} {v:Value} (hg:o.guard=some (j,b)) (ht:WU ops j=some t) {a:Act} (hv:a.eval (.tmp t)=v):Region.wanted o (yielded ops a.tmps)=gw v b:=by
 subst hv;simp only[Region.wanted,hg,yielded,show(ops[j]?).bind (·.dst)=some t from ht,Option.bind_some,Act.eval,yAy]
 cases h:a.tmps[t]? with
 |none=>simp[undef,gw]
 |some u=>cases u<;>simp[gw]
def DO {st:St} {a:Act} {w:World} (H:xV F m st a w) {t:Nat} {c:Value} (hv:zG st.tm t= .s c):a.eval (.tmp t)=c:=by
 obtain⟨⟨_,β,_,_,Ht,_⟩,_⟩:=H;have:=Ht t;rw[hv]at this;exact this.s_inv
def zVu {d:Option Nat} {op:Op} {ty:Nat} {pos:String} {after:Array Edge} {j t:Nat} {b:Bool} {st:St} (ht:WU ops j=some t) (hv:zG st.tm t= .s (.bool b)) (hk:GN P F m ops (⟨d,op,ty,pos,after,none⟩::rest) st Q):
  GN P F m ops (⟨d,op,ty,pos,after,some (j,b)⟩::rest) st Q:=λa w H=>by
 have hw:=cM (o:=⟨d,op,ty,pos,after,some (j,b)⟩) Z ht (DO H hv);have:=hk a w H;unfold wpListIn at this⊢;rw[zZ8 (by rw[hw];simp[gw])];rw[zZ8 (by simp[Region.wanted])]at this;exact this
theorem XF.bot {tm:Nat->AV} {h:yC} {a:Act} {w:World} (H:XF F m tm h a w) (dst:Option Nat) (hm:∀t,dst=some t->t<m):XF F m (λt=>if dst=some t then .s undef else tm t) h (a.put dst undef) w:=by
 obtain⟨⟨X,β,hX,HH,Ht,KK,hJ,hD⟩,nd,gs,hl⟩:=H;exact XF.put hX HH Ht KK hJ hD gs hl (yX.refl HH) nd (.fz _ _ (.s _)) dst hm
def zQa {d:Nat} {op:Op} {ty:Nat} {pos:String} {after:Array Edge} {j t:Nat} {b:Bool} {c:Value} (ht:WU ops j=some t) (hv:zG tm t= .s c) (hc:gw c b=false) (hm:Nat.blt d m=true) (hk:GN P F m ops rest ⟨(d,.s undef)::tm,h⟩ Q):
  GN P F m ops (⟨some d,op,ty,pos,after,some (j,b)⟩::rest) ⟨tm,h⟩ Q:=λa w H=>by
 have hw:=cM (o:=⟨some d,op,ty,pos,after,some (j,b)⟩) Z ht (DO H hv);unfold wpListIn;rw[zZ7 (by rw[hw,hc];simp)];refine⟨λ_ _=>trivial,hk _ _ ?_⟩;have:=XF.bot H (some d) (λj hj=>by cases hj;exact yAq hm)
 have e1:zG ((d,.s undef)::tm)=λt=>if some d=some t then AV.s undef else zG tm t:=funext λt=>by rw[yF];simp[yGe]
 unfold xV;rw[e1];exact this
def DP {st:St} {l:List Oper} {t:Nat} {c c':Bool} (hv:zG st.tm t= .s (.bool c)) (hc:c=c') (hk:GN P F m ops l ⟨(t,.s (.bool c'))::st.tm,st.h⟩ Q):GN P F m ops l st Q:=λa w H=>hk a w (by
 subst hc
 have e1:zG ((t,.s (.bool c))::st.tm)=zG st.tm:=funext λj=>by
  rw[yF];split
  ·rename_i h;subst h;exact hv.symm
  ·rfl
 unfold xV;dsimp only;rw[e1]
 exact H)
def zE4 {st:St} {l:List Oper} {t:Nat} {c:Bool} (hv:zG st.tm t= .s (.bool c)) (h1:c=true->GN P F m ops l ⟨(t,.s (.bool true))::st.tm,st.h⟩ Q) (h2:c=false->GN P F m ops l ⟨(t,.s (.bool false))::st.tm,st.h⟩ Q):GN P F m ops l st Q:=by
 cases c with
 |true=>exact DP hv Z (h1 Z)
 |false=>exact DP hv Z (h2 Z)
end ops
section code
variable {P:Program} {K0:List Nat} {F:Fr K0} {m:Nat} {Q:Exit->St->Prop} {st:St}
def uZ {c:Code} (K ts:List Nat) (hK:K0.all (K.contains ·)=true) {st':St} (he:restr K ts st=st') (h:vK P F m c st' Q):vK P F m c st Q:=⟨λa w H=>h.run a w (he▸xV.restr H K ts hK)⟩
def wT {c:Code} (I:Nat->St->Prop) (n:Nat) (K ts:List Nat) (hK:K0.all (K.contains ·)=true) (h0:I n (restr K ts st)) (round:∀n st,I n st->vK P F m c st (λe s=>match e with
  | .normal=>∃n',n'<n/\I n' (restr K ts s)
  |e=>Q e s)):vK P F m (.loop c) st Q:=by
 refine uZ K ts hK Z ⟨λa w H=>?_⟩;refine SO (λn a w=>∃st,I n st/\xV F m st a w) n ⟨_,h0,H⟩ λn a w ⟨st,hI,hR⟩=>?_
 refine Code.wpIn_mono (λe a' w' ⟨s,h1,h2⟩=>?_) ((round n st hI).run a w hR)
 cases e with
 |normal=>
  obtain⟨n',hlt,hI'⟩:=h1;exact⟨n',hlt,_,hI',xV.restr h2 K ts hK⟩
 |_=>exact⟨s,h1,h2⟩
end code
def NZ (TT:List TI) (st:St):List ResultVar->Option (List AV)
 | []=>some []
 | .tmp t::r=>(NZ TT st r).map (zG st.tm t:: ·)
 | .cell a T::r=>match zG st.tm a with
  | .ptr k 0 off=>match zC st.h k,TT[T]? with
   |some (.box cs),some ti=>match ldv ti.d.agg ti.size cs off with
    |some v=>(NZ TT st r).map (v:: ·)
    |none=>none
   |_,_=>none
  |_=>none
def DQ:List AV->AV
 | [v]=>v
 |vs=> .tup vs
def zLw (tmps:Array Value):ResultVar->Sem Value
 | .tmp t=>pure (tmps.getD t undef)
 | .cell b t=>do loadVar t (<-asAddr (tmps.getD b undef))
theorem PO {P:Program} {TT:List TI} (hP:uI P TT) {st:St} {X:Nat->Prop} {β:vP} {w:World} {a:Act} (H:qV X (zC st.h) β w) (Ht:∀t,zQ w (xK X β) (zC st.h) β (zG st.tm t) (a.eval (.tmp t))):
  ∀(l:List ResultVar) (vs:List AV),NZ TT st l=some vs->∃cs:List Value,(l.mapM (zLw a.tmps)).run P w= .ok cs w/\cs.length=vs.length/\
   ∀(i:Nat) v,vs[i]? =some v->zQ w (xK X β) (zC st.h) β v (cs.getD i undef)
 | [],vs,h=>by cases h;exact⟨[],rfl,rfl,λi v hv=>by simp at hv⟩
 | .tmp t::r,vs,h=>by
  simp only[NZ,yAo]at h;obtain⟨vs',h1,rfl⟩:=h;obtain⟨cs,h2,h3,h4⟩:=PO hP H Ht r vs' h1;refine⟨a.tmps.getD t undef::cs,by simp only[yGc,zLw,Sem.run_bind,Sem.run_pure,Result.andThen_ok,h2],by simp[h3],λi v hv=>?_⟩
  cases i with
  |zero=>simp at hv;subst hv;exact Ht t
  |succ i=>simpa using h4 i v LK
 | .cell b T::r,vs,h=>by
  simp only[NZ]at h;split at h
  ·rename_i k off hb;split at h
   ·rename_i cs ti hk hT;split at h
    ·rename_i v hv;rw[yAo]at h;obtain⟨vs',h1,rfl⟩:=h;obtain⟨cs',h2,h3,h4⟩:=PO hP H Ht r vs' h1;have hp:=Ht b;rw[hb]at hp;obtain⟨bl,hc,_,hR⟩:=RR H hk hp;obtain⟨c,h5,h6⟩:=IV hP hT hR hv;rw[yBu]at h5;have hc':a.tmps.getD b undef= .pointer (some ⟨bl,off,none⟩):=hc;refine⟨c::cs',by simp only[yGc,zLw,Sem.run_bind,hc',asAddr,Sem.run_pure,Result.andThen_ok,h5,h2],by simp[h3],λi v hv=>?_⟩
     cases i with
     |zero=>simp at hv;subst hv;exact h6
     |succ i=>simpa using h4 i v LK
    ·cases h
   ·cases h
  ·cases h
def VA:Nat->List AV->List (Nat×AV)
 |_,[]=>[]
 |i,v::r=>(i,v)::VA (i+1) r
theorem YY:∀(l:List AV) (i t:Nat),zG (VA i l) t=if i<=t then l.getD (t-i) .bot else .bot
 | [],i,t=>by simp[VA,zG]
 | v::r,i,t=>by
  rw[VA,yF,YY r];by_cases h:t=i
  ·subst h;simp
  ·rw[zZ7 h];by_cases h2:i<=t
   ·rw[zZ8 h2,zZ8 (by omega),show t-i=(t-(i+1))+1 by omega];simp
   ·rw[zZ7 h2,zZ7 (by omega)]
def Fin (TT:List TI) (rs:List ResultVar) (h0:List (Nat×xN)) (r:AV) (h1:List (Nat×xN)) (e:Exit) (st:St):Prop:=
 (e= .normal∨e= .ret)/\∃vs K,NZ TT st rs=some vs/\(yO h0).all (K.contains ·)=true/\(r=wD K (zC st.h) (DQ vs)∨r=XC (wD K (zC st.h) (DQ vs)))/\zC h1=zC (wY K (zC st.h))
def zK {TT:List TI} {rs:List ResultVar} {h0:List (Nat×xN)} {r:AV} {h1:List (Nat×xN)} {st:St} {vs:List AV} (K:List Nat) (h:NZ TT st rs=some vs) (hK:(yO h0).all (K.contains ·)=true) (hr:XC (wD K (zC st.h) (DQ vs))=r) (hh:wY K (zC st.h)=h1):
 Fin TT rs h0 r h1 .ret st:=⟨.inr Z,vs,K,h,hK,.inr hr.symm,by rw[hh]⟩
def zL {TT:List TI} {rs:List ResultVar} {h0:List (Nat×xN)} {r:AV} {h1:List (Nat×xN)} {st:St} {vs:List AV} (K:List Nat) (h:NZ TT st rs=some vs) (hK:(yO h0).all (K.contains ·)=true) (hr:wD K (zC st.h) (DQ vs)=r) (hh:wY K (zC st.h)=h1):
 Fin TT rs h0 r h1 .ret st:=⟨.inr Z,vs,K,h,hK,.inl hr.symm,by rw[hh]⟩
theorem xH.less {w:World} {D D':Nat->Prop} (h:∀b,D' b->D b) {v:AV} {c:Value} (hv:xH w D v c):xH w D' v c:=
 hv.evo (yAb _) λb _ hd=>⟨rfl,λh'=>hd (h b h')⟩
theorem zQ.less {w:World} {X X':Nat->Prop} {h:yC} {β:vP} (hX:∀b,X' b->X b) {v:AV} {c:Value} (hv:zQ w (xK X β) h β v c):zQ w (xK X' β) h β v c:=
 hv.evo ⟨yAb _,λb _ hd=>⟨rfl,λh'=>hd (h'.imp (hX b) id)⟩,λ_ _ _ _=>rfl,qO h β⟩
theorem qV.less {w:World} {X X':Nat->Prop} {h:yC} {β:vP} (hX:∀b,X' b->X b) (H:qV X h β w):qV X' h β w:=
 ⟨λk e he=>(H.ent k e he).evo ⟨yAb _,λb _ hd=>⟨rfl,λh'=>hd (h'.imp (hX b) id)⟩,λ_ _ _ _=>rfl,qO h β⟩ rfl λ_ _ _=>rfl,H.off,H.disj,λk b n hm hx=>H.free k b n hm (hX b hx),λb hd=>H.lt b (hd.imp (hX b) id)⟩
def VB {w w':World} {X:Nat->Prop} {h:yC} {β:vP} (H:qV X h β w) (hs:w.heap.size<=w'.heap.size) (hk:∀b,b<w.heap.size->¬X b->w'.heap[b]? =w.heap[b]?):GO w (xK X β) h β w' (xK X β) h β:=
 ⟨hs,λb hb hd=>⟨hk b hb λhx=>hd (.inl hx),hd⟩,λk b n hm=>by
  unfold wB World.shape?
  rw[hk b (H.lt b (.inr ⟨k,n,hm⟩)) (H.free k b n hm)],qO h β⟩
theorem qV.turn {w w':World} {X:Nat->Prop} {h:yC} {β:vP} (H:qV X h β w) (hs:w.heap.size<=w'.heap.size) (hk:∀b,b<w.heap.size->¬X b->w'.heap[b]? =w.heap[b]?):qV X h β w':=
 ⟨λk e he=>(H.ent k e he).evo (VB H hs hk) Z λb n hm=>hk b (H.lt b (.inr ⟨k,n,hm⟩)) (H.free k b n hm),H.off,H.disj,H.free,λb hd=>yBl (H.lt b hd) hs⟩
theorem VC {P:Program} {fn:Func} {tmps:Array Value} {R:Ending->World->Prop}:∀(bs:List Nat) (w:World),bs.Nodup->(∀b,b∈bs->w.heap[b]? =some (.deferred (some [])))->
  (∀w',w'.heap.size=w.heap.size->(∀b,¬b∈bs->w'.heap[b]? =w.heap[b]?)->w'.os=w.os->w'.tape=w.tape->w'.output=w.output->∃v,(results fn tmps).run P w'= .ok v w'/\R (.returned v) w')->
  LeavesInM Fence.wide 0 P fn tmps R (bs.map λb=>{target:= .collected b,args:= #[]}) .returning w
 | [],w,_,_,h=>h w Z (λ_ _=>rfl) Z Z Z
 |b::bs,w,hn,hb,h=>by
  have hn':=yD3.1 hn;refine⟨by simp,.inl ⟨b,w.putObj b (.deferred none),rfl,run_takeDeferred (hb b zU),VC bs _ hn'.2 (λc hc=>?_) (λw' h1 h2 h3 h4 h5=>?_)⟩⟩
  ·rw[World.putObj_heap_other (show c≠b from λe=>hn'.1 (by rw[<-e];exact hc))];exact hb c (by simp[hc])
  ·refine h w' (by rw[h1];simp) (λc hc=>?_) h3 h4 h5;simp at hc;rw[h2 c hc.2,World.putObj_heap_other hc.1]
theorem YZ {P:Program} {TT:List TI} (hP:uI P TT) {f:Nat} {fn:Func} {body:Code} {args:List AV} {h0:List (Nat×xN)} {r:AV} {h1:List (Nat×xN)} (hf:P.funcs[f]? =some fn) (hb:fn.body=some body) (able:dS P f) (hlen:Nat.ble args.length fn.ntmps=true)
    (hnd:vJ h0=true) (hnd1:vJ h1=true) (h:∀F:Fr (yO h0),F.ro=none/\F.it=false->vK P F fn.ntmps body ⟨VA 0 args,h0⟩ (Fin TT fn.results.toList h0 r h1)) (hgs:Nat.ble fn.ntmps GS=true:=by rfl):yE P f args h0 r h1:=by
  refine⟨able,λk=>uG hnd1,λX w β cargs hcl H hargs=>(callsIn_wide (n:=0)).1 ?_⟩;have hlen:=yAq hlen
  let F:Fr (yO h0):=⟨X,w,β,zC h0,λk b n hm=>by
    cases hk:zC h0 k with
    |none=>rw[H.off k hk]at hm;simp at hm
    |some e=>exact vT hk,λk e he=>vT he,none,false,λ_=>False,λ_ _ _ _=>True,λ_ _ _ _ _ _ _ _ _ _ _ _ _ _=>trivial⟩
  refine callsIn_of_wp_marks (F:=Fence.wide) (n:=0) hf hb trivial (Code.wpIn_mono (λe a' w1 q=>?_) ((h F ⟨rfl,rfl⟩).run _ w ⟨⟨X,β,⟨λ_ h=>h,λ_ h=> .inl h⟩,H,λt=>?_,⟨λk e he=>?_,yAb _,λ_ _ _ _=>rfl,λk b n hm=> .inl ⟨k,n,hm⟩,λk b n hm=>⟨n,yAb _,hm⟩,λ_ _ _ _=>rfl,rfl,rfl,rfl⟩,λ_ _=>trivial,[],rfl,λ_=>rfl,yFr,λb hb=>by simp at hb⟩,λk=>uG hnd,yAq hgs,by simp;omega⟩)) Z
  · obtain ⟨st,⟨he,vs,K,hv,hK,hr,hh⟩,R⟩:=q;obtain⟨⟨X2,β2,⟨hX2,_⟩,H2',Ht2',KK',_,bs,hds,_,hbn,hbs⟩,nd2,_,hl2⟩:=R
    have goal:LeavesInM Fence.wide 0 P fn a'.tmps (λe w'=>∃c β',e= .returned c/\yX X w (zC h0) β w' (zC h1) β'/\zQ w' (xK X β') (zC h1) β' r c) a'.defers .returning w1:=by
     rw[hds];refine VC bs w1 hbn (λb hb=>(hbs b hb).2.2) λw' sz kp o1 o2 o3=>?_
     have kp':∀b,b<w1.heap.size->¬X2 b->w'.heap[b]? =w1.heap[b]? :=λb _ hx=>kp b λhm=>hx (hbs b hm).1
     have H2:=H2'.turn (yB7 sz.symm) kp';have Ht2:=λt=>(Ht2' t).evo (VB H2' (yB7 sz.symm) kp')
     have KK:jY F (zC st.h) β2 w':=⟨KK'.knd,by rw[sz];exact KK'.size,λb hb hi hn=>by rw[kp b λhm=>by have:=(hbs b hm).2.1;omega];exact KK'.keep b hb hi hn,KK'.own,KK'.pas,λk b n hm=>by
      rw[<-KK'.bs k b n hm];obtain⟨n',_,hm'⟩:=KK'.pas k b n hm;unfold wB World.shape?
      rw[kp' b (H2'.lt b (.inr ⟨k,n',hm'⟩)) (H2'.free k b n' hm')],o1.trans KK'.os,o2.trans KK'.tape,o3.trans KK'.output⟩
     obtain⟨cs,q1,q2,q3⟩:=PO hP H2 Ht2 _ _ hv;obtain⟨H3',hv3'⟩:=H2.restr K;have H3:=H3'.less hX2;have hv3:=λv c hv=>(hv3' v c hv).less hX2
     have hrun:∃c,(results fn a'.tmps).run P w'= .ok c w'/\zQ w' (xK X2 β2) (zC st.h) β2 (DQ vs) c:=by
       have hm:(fn.results.mapM (zLw a'.tmps)).run P w'= .ok cs.toArray w':=by
         rw[<-Array.toArray_toList (xs:=fn.results),List.mapM_toArray];simp only[Sem.run_map,q1,Result.andThen_ok]
       have hres:(results fn a'.tmps).run P w'= .ok (if h:cs.toArray.size=1 then cs.toArray[0]else .tuple cs.toArray) w':=by
         show(fn.results.mapM (zLw a'.tmps) >>= λvs=>pure (if h:vs.size=1 then vs[0]else .tuple vs)).run P w'=_
         rw[Sem.run_bind,hm];rfl
       refine⟨_,hres,?_⟩;by_cases h1:cs.length=1
       · rw[dif_pos LN]
         match cs,vs,h1,q2,q3 with
         | [c],[v],_,_,q3=>exact q3 0 v Z
       · rw[dif_neg LN]
         have hvs:DQ vs= .tup vs:=by
           match vs,q2 with
           | [],_=>rfl
           | [v],q2=>exact absurd q2 h1
           |_::_::_,_=>rfl
         rw[hvs];exact .tup vs _ (by simpa using q2) λi v hi=>by simpa [List.getD]using q3 i v hi
     obtain⟨c,hc1,hc2⟩:=hrun
     have hpost:∃c β',Ending.returned c= .returned c/\(results fn a'.tmps).run P w'= .ok c w'/\yX X w (zC h0) β w' (zC h1) β'/\zQ w' (xK X β') (zC h1) β' r c:=by
       refine⟨c,λk=>if k∈K then β2 k else [],rfl,hc1,?_,?_⟩
       · rw [hh];refine⟨KK.size,λb hb hn=>KK.keep b hb (λhf=>hf) hn,λk b n hm=>?_,KK.bs,λk e he=> .inr ?_,H3,KK.os,KK.tape,KK.output⟩
         · (try dsimp only at hm)
           split at hm
           · exact KK.own k b n hm
           · simp at hm
         · have hkK:k∈K:=by
             have:=yAm.1 hK k (vT he);simpa using this
           have h1:=KK.knd k e he;have hrr:∀e',zC st.h k=some e'->zC (wY K (zC st.h)) k=some (qK K (zC st.h) e'):=λe' h2=>by rw[wE,zZ8 hkK,h2];rfl
           cases e with
           |dead=>exact h1
           | box cs0=>
             obtain⟨cs',h2⟩:=h1;refine⟨⟨_,hrr _ h2⟩,λb n hm=>?_⟩
             (try dsimp only)
             rw[zZ8 hkK];obtain⟨n',hn',hm'⟩:=KK.pas k b n hm;obtain⟨b2,_,_,e2,_⟩:=H2.ent k _ h2;obtain⟨b1,_,_,e1,_⟩:=H.ent k _ he;rw[e1]at hm;rw[e2]at hm'⊢;simp at hm hm'⊢;exact⟨hm'.1,hm.2⟩
           | obj cs=>
             obtain⟨cs',h2⟩:=h1;refine⟨⟨_,hrr _ h2⟩,λb n hm=>?_⟩
             (try dsimp only)
             rw[zZ8 hkK];obtain⟨n',hn',hm'⟩:=KK.pas k b n hm;have e2:=(H2.ent k _ h2).1;have e1:=(H.ent k _ he).1;rw[e1]at hm;rw[e2]at hm'⊢;simp at hm hm'⊢;exact⟨hm'.1,hm.2⟩
           | arr sz xs sl=>
             obtain⟨xs',sl',h2,h3⟩:=h1;obtain⟨xs2,fl2,h4,h5⟩:=fW K (zC st.h) sz xs' sl';refine⟨⟨xs2,fl2,(hrr _ h2).trans (by rw[h4]),by rw[h5];exact h3⟩,λb n hm=>?_⟩
             (try dsimp only)
             rw[zZ8 hkK];exact KK.pas k b n hm
       · rw[hh]
         rcases hr with rfl|rfl
         · exact hv3 _ _ hc2
         · exact(hv3 _ _ hc2).wk
     obtain⟨c,β',_,hc1,hc2,hc3⟩:=hpost;exact⟨c,hc1,c,β',rfl,hc2,hc3⟩
    rcases he with rfl|rfl
    · exact goal
    · exact goal
  · show zQ w (xK X β) (zC h0) β (zG (VA 0 args) t) _
    rw[YY,zZ8 (yAp _),yFc];by_cases ht:t<args.length
    · have h2:args[t]? =some (args.getD t .bot):=by simp[List.getD,ht]
      have:=hargs t _ h2
      have e:Act.eval {tmps:=cargs++Array.replicate (fn.ntmps-cargs.size) undef,defers:=[]} (.tmp t)=cargs.getD t undef:=by
        simp only[Act.eval,yAy];rw[yCb (by omega)]
      rw[e];exact this
    · have:args.getD t .bot= .bot:=by simp[List.getD,yAz (by omega:args.length<=t)]
      rw[this];exact .fz _ _ (.bot _)
  · have he':zC h0 k=some e:=he
    cases e with
    |dead=>exact absurd he' (uG hnd)
    |box cs=>exact⟨cs,he'⟩
    |obj cs=>exact⟨cs,he'⟩
    |arr sz xs sl=>exact⟨xs,sl,he',yAb _⟩
end
def gY (l:Array Bool) (i:Nat):Bool:=l.getD i false
def binds (e:Edge):Bool:=Region.binds .any e
def zQb (ops:Array Oper):Bool:=(List.range ops.size).all λi=>((ops[i]?).map λo=>o.after.all λe=>!binds e||decide (e.on<i)).getD false
def zQc (T:List Nat):List Edge->Nat->Nat
 | [],m=>m
 |e::r,m=>zQc T r (bif binds e then m ||| (2 ^ e.on ||| T.getD e.on 0)else m)
def zSo:List Oper->List Nat->List Nat
 | [],T=>T
 |o::r,T=>zSo r (T++[zQc T o.after.toList 0])
def MA (ops:List Oper):List Nat:=zSo ops []
def okT (ops:Array Oper) (T:List Nat):Bool:=
 (List.range ops.size).all λi=>((ops[i]?).map λo=>Nat.beq (T.getD i 0) (zQc T o.after.toList 0)).getD false
def bit (T:List Nat) (i j:Nat):Bool:=(T.getD i 0).testBit j
theorem DS (T:List Nat) (j:Nat):∀(l:List Edge) (m:Nat),(zQc T l m).testBit j=true->m.testBit j=true∨∃e,e∈l/\binds e=true/\(e.on=j∨bit T e.on j=true)
 | [],m,h=> .inl h
 | e::r,m,h=>by
  rcases DS T j r _ h with h1|⟨e',h1,h2,h3⟩
  ·cases hb:binds e with
   |false=>rw[hb]at h1;exact .inl h1
   |true=>
    rw[hb,yBn,yGd,yGd,Nat.testBit_two_pow,yCi,yCi]at h1
    rcases h1 with h1|h1|h1
    ·exact .inl h1
    ·exact .inr ⟨e,by simp,hb,.inl LN⟩
    ·exact .inr ⟨e,by simp,hb,.inr h1⟩
  ·exact .inr ⟨e',by simp[h1],h2,h3⟩
def VD (l:Array Bool) (i j:Nat) (hi:i<l.size):gY (l.setIfInBounds i true) j=if j=i then true else gY l j:=by
 unfold gY;by_cases e:j=i
 ·subst e;simp[yAy,hi]
 ·rw[zZ7 e];simp only[yAy,Array.getElem?_setIfInBounds_ne (Ne.symm e)]
def cnt (p:Nat->Bool):Nat->Nat
 |0=>0
 |k+1=>cnt p k+if p k then 1 else 0
def zE5 {p q:Nat->Bool} (n:Nat) (h:∀i,i<n->p i=q i):cnt p n=cnt q n:=by
 induction n with
 |zero=>rfl
 |succ n ih=>unfold cnt;rw[ih λi hi=>h i (by omega),h n (by omega)]
def zVv (p:Nat->Bool) (n:Nat):cnt p n<=n:=by
 induction n with
 |zero=>exact yAb _
 |succ n ih=>unfold cnt;split<;>omega
def zDf {p q:Nat->Bool} (n i:Nat) (hi:i<n) (hp:p i=false) (h:∀j,j≠i->q j=p j):cnt q n=cnt p n+if q i then 1 else 0:=by
 induction n with
 |zero=>omega
 |succ n ih=>
  unfold cnt;by_cases e:i=n
  ·subst e;rw[zE5 (q:=p) i λj hj=>h j (by omega),hp];simp
  ·rw[ih (by omega),h n (λe'=>e e'.symm)];omega
section
variable {ops:Array Oper} {T:List Nat}
def IR (hA:zQb ops=true) (hT:okT ops T=true) {l:Array Bool} (hd:∀i o,ops[i]? =some o->gY l i=true->∀e∈o.after,binds e=true->gY l e.on=true):
  ∀(n i:Nat) (o:Oper),i<n->ops[i]? =some o->(∀e∈o.after,binds e=true->gY l e.on=true)->∀j,bit T i j=true->gY l j=true:=by
 intro n
 induction n with
 |zero=>intro i o h;omega
 | succ n ih=>
  intro i o hin ho he j hj;have hi:i<ops.size:=(yCk.1 ho).1;have h1:=yAm.1 hT i (yAt.2 hi);simp only[ho,Option.map_some,yCd]at h1;unfold bit at hj;rw[yA2 h1]at hj
  rcases DS T j _ _ hj with h2|⟨x,hx,hb,h2⟩
  ·simp at h2
  have hm:x∈o.after:=by simpa using hx
  have hl:=he _ hm hb
  rcases h2 with h2|h2
  ·rw[<-h2];exact hl
  ·have h3:=yAm.1 hA i (yAt.2 hi);obtain⟨y,hy,rfl⟩:=Array.getElem_of_mem hm;simp only[ho,Option.map_some,yCd,yFy,yCi,yCe,yAc]at h3;have h4:o.after[y].on<i:=(h3 y hy).resolve_left (by rw[hb];simp);have h5:o.after[y].on<ops.size:=by omega
   exact ih _ ops[o.after[y].on] (by omega) (by simp[h5]) (hd _ _ (by simp[h5]) hl) j h2
def dQ {l:Array Bool} {i:Nat} (hs:l.size=ops.size) (h:i∈Region.ready .any ops l):∃o,ops[i]? =some o/\gY l i=false/\∀e∈o.after,binds e=true->gY l e.on=true:=by
 unfold Region.ready at h;rw[yC5,yAt]at h;obtain⟨hi,h⟩:=h;have ho:ops[i]? =some ops[i]:=by simp[hi]
 simp only[ho,Option.map_some,yCd,yAk,yCe,yFy,yCi]at h;refine⟨ops[i],ho,?_,λe he hb=>?_⟩
 ·have:=h.1;unfold gY;simp only[yAy]at this⊢;rw[yDs (by omega)]at this⊢;simpa using this
 ·obtain⟨x,hx,rfl⟩:=Array.getElem_of_mem he
  rcases h.2 x hx with h2|h2
  ·unfold binds at hb;rw[hb]at h2;cases h2
  ·exact h2
def zE6 (hA:zQb ops=true) {l:Array Bool} (hs:l.size=ops.size) (h:Region.ready .any ops l=[]):∀n i,i<n->i<ops.size->gY l i=true:=by
 intro n
 induction n with
 |zero=>intro i h;omega
 | succ n ih=>
  intro i hin hi
  cases hl:gY l i with
  |true=>rfl
  | false=>
   exfalso
   have hm:i∈Region.ready .any ops l:=by
    unfold Region.ready;rw[yC5,yAt];refine⟨hi,?_⟩;have ho:ops[i]? =some ops[i]:=by simp[hi]
    have h3:=yAm.1 hA i (yAt.2 hi);simp only[ho,Option.map_some,yCd,yAk,yCe,yFy,yCi,yAc]at h3⊢;refine⟨?_,λx hx=>?_⟩
    ·unfold gY at hl;simp only[yAy]at hl⊢;rw[yDs (by omega)]at hl⊢;simpa using hl
    ·rcases h3 x hx with h4|h4
     ·exact .inl h4
     ·exact .inr (ih _ (by omega) (by omega))
   rw[h]at hm;cases hm
end
structure PP where
 on:Bool
 v:AV
 d:List (Nat×xN)
 r:List Nat
 nw:List Nat
def St.app (st:St) (dst:Option Nat) (v:AV) (d:List (Nat×xN)):St:=⟨match dst with
 |some t=>(t,v)::st.tm
 |none=>st.tm,d++st.h⟩
def gOf (ops:Array Oper) (o:Oper):List Nat:=match o.guard with
 |some (j,_)=>(WU ops j).toList
 |none=>[]
def DT (P:Program) (m:Nat) (ops:Array Oper) (o:Oper) (st:St) (e:PP):Prop:=
 vJ e.d=true/\(∀t,o.dst=some t->t<m)/\(∀k,k∈e.nw->zC st.h k=none)/\
 (e.on=true->wM P st o.op e.v e.d e.r e.nw)/\(e.on=false->e.v= .s undef/\e.d=[])/\
 match o.guard with
  |none=>e.on=true
  |some (j,b)=>∃t c,WU ops j=some t/\zG st.tm t= .s c/\e.on=gw c b
def Tr (P:Program) (m:Nat) (ops:Array Oper):List Oper->St->List PP->St->Prop
 | [],st,[],st'=>st=st'
 |o::l,st,e::es,st'=>DT P m ops o st e/\Tr P m ops l (st.app o.dst e.v e.d) es st'
 |_,_,_,_=>False
def qU (L:Nat->Bool):Nat->List (Option Nat×PP)->St->St
 |_,[],st=>st
 |i,(dst,e)::r,st=>qU L (i+1) r (bif L i then st.app dst e.v e.d else st)
def VE (st:St) (dst:Option Nat) (v:AV) (d:List (Nat×xN)) (t:Nat):zG (st.app dst v d).tm t=if dst=some t then v else zG st.tm t:=by
 cases dst with
 |none=>simp[St.app]
 |some j=>simp only[St.app,yF,yBj];by_cases h:t=j<;>simp[h,yGe]
def aX (st:St) (dst:Option Nat) (v:AV) (d:List (Nat×xN)) (k:Nat):zC (st.app dst v d).h k=over d (zC st.h) k:=by
 show zC (d++st.h) k=_
 rw[wQ]
theorem VF {L L':Nat->Bool} {t:Nat}:∀(r:List (Option Nat×PP)) (i:Nat) (st st':St),zG st.tm t=zG st'.tm t->(∀(j:Nat) p,r[j]? =some p->p.1=some t->L (i+j)=L' (i+j))->
  zG (qU L i r st).tm t=zG (qU L' i r st').tm t
 | [],_,_,_,h,_=>h
 | (dst,e)::r,i,st,st',h,hl=>by
  refine VF r (i+1) _ _ ?_ λj p hp h1=>by have:=hl (j+1) p (by simpa using hp) h1;rwa [show i+1+j=i+(j+1) by omega]
  by_cases hd:dst=some t
  ·have:=hl 0 (dst,e) Z hd;simp only[yDd]at this;rw[this];cases L' i
   ·exact h
   ·simp only[yBn,VE,hd,yE2]
  ·cases L i<;>cases L' i<;>simp only[yBn,yB5,VE,zZ7 hd,h]
def DU {d:List (Nat×xN)} {h:yC} {k:Nat} (hk:¬k∈yO d):over d h k=h k:=by
 unfold over
 cases he:zC d k with
 |none=>rfl
 |some e=>exact absurd (vT he) hk
def zDg {d:List (Nat×xN)} {h h':yC} {k:Nat} (hk:k∈yO d):over d h k=over d h' k:=by
 obtain⟨e,he⟩:=dT hk;simp[over,he]
theorem aY {L L':Nat->Bool} {k:Nat}:∀(r:List (Option Nat×PP)) (i:Nat) (st st':St),zC st.h k=zC st'.h k->(∀(j:Nat) p,r[j]? =some p->k∈yO p.2.d->L (i+j)=L' (i+j))->
  zC (qU L i r st).h k=zC (qU L' i r st').h k
 | [],_,_,_,h,_=>h
 | (dst,e)::r,i,st,st',h,hl=>by
  refine aY r (i+1) _ _ ?_ λj p hp h1=>by have:=hl (j+1) p (by simpa using hp) h1;rwa [show i+1+j=i+(j+1) by omega]
  by_cases hd:k∈yO e.d
  ·have:=hl 0 (dst,e) Z hd;simp only[yDd]at this;rw[this];cases L' i
   ·exact h
   ·simp only[yBn,aX];exact zDg hd
  ·cases L i<;>cases L' i<;>simp only[yBn,yB5,aX,DU hd,h]
theorem zDh {L:Nat->Bool} {P:Program} {m:Nat} {ops:Array Oper}:∀(l:List Oper) (es:List PP) (i:Nat) (st st':St),Tr P m ops l st es st'->(∀j,j<l.length->L (i+j)=true)->qU L i (l.zipWith (λo e=>(o.dst,e)) es) st=st'
 | [],[],_,_,_,h,_=>h
 |o::l,e::es,i,st,st',h,hl=>by
  simp only[yDl,qU];rw[show L i=true from hl 0 zU];exact zDh l es (i+1) _ st' h.2 λj hj=>by have:=hl (j+1) (by simpa using hj);rwa [show i+1+j=i+(j+1) by omega]
 | [],_::_,_,_,_,h,_=>h.elim
 |_::_,[],_,_,_,h,_=>h.elim
theorem VG {L:Nat->Bool}:∀(r:List (Option Nat×PP)) (i:Nat) (st:St),(∀j,j<r.length->L (i+j)=false)->qU L i r st=st
 | [],_,_,_=>rfl
 |(dst,e)::r,i,st,h=>by
  unfold qU;rw[show L i=false from h 0 zU];exact VG r (i+1) st λj hj=>by have:=h (j+1) (by simpa using hj);rwa [show i+1+j=i+(j+1) by omega]
theorem Tr.len {P:Program} {m:Nat} {ops:Array Oper}:∀{l:List Oper} {es:List PP} {st st':St},Tr P m ops l st es st'->es.length=l.length
 | [],[],_,_,_=>rfl
 |o::l,e::es,_,_,h=>by simp[Tr.len h.2]
 | [],_::_,_,_,h=>h.elim
 |_::_,[],_,_,h=>h.elim
theorem Tr.at {P:Program} {m:Nat} {ops:Array Oper}:∀{l:List Oper} {es:List PP} {st st':St} (i k:Nat) (o:Oper) (e:PP),Tr P m ops l st es st'->l[i]? =some o->es[i]? =some e->
  DT P m ops o (qU (λj=>decide (j<k+i)) k (l.zipWith (λo e=>(o.dst,e)) es) st) e/\
   qU (λj=>decide (j<k+i+1)) k (l.zipWith (λo e=>(o.dst,e)) es) st=(qU (λj=>decide (j<k+i)) k (l.zipWith (λo e=>(o.dst,e)) es) st).app o.dst e.v e.d
 | o'::l,e'::es,st,st',0,k,o,e,h,h1,h2=>by
  simp at h1 h2;subst h1 h2;have q1:qU (λj=>decide (j<k+0)) k ((o'::l).zipWith (λo e=>(o.dst,e)) (e'::es)) st=st:=VG _ _ _ λj _=>by simp
  have q2:qU (λj=>decide (j<k+0+1)) k ((o'::l).zipWith (λo e=>(o.dst,e)) (e'::es)) st=st.app o'.dst e'.v e'.d:=by
   simp only[yDl,qU,show decide (k<k+0+1)=true by simp,yBn];exact VG _ _ _ λj _=>by simp
  rw[q1,q2];exact⟨h.1,rfl⟩
 |o'::l,e'::es,st,st',i+1,k,o,e,h,h1,h2=>by
  have ih:=Tr.at i (k+1) o e h.2 LN OC;simp only[yDl,qU,show decide (k<k+(i+1))=true by simp,show decide (k<k+(i+1)+1)=true by simp;omega,yBn];rw[show k+(i+1)=k+1+i by omega];exact ih
 | [],[],_,_,_,_,_,_,_,h1,_=>by simp at h1
 | [],_::_,_,_,_,_,_,_,h,_,_=>h.elim
 |_::_,[],_,_,_,_,_,_,h,_,_=>h.elim
structure FP where
 on:Bool
 w:List Nat
 r:List Nat
def PP.fp (e:PP):FP:=⟨e.on,yO e.d++e.nw,e.r⟩
def zE7 (ops:Array Oper) (o:Oper):List Nat:=gOf ops o++fA o.op
def dA (ops:Array Oper) (oi oj:Oper) (fi fj:FP):Bool:=
 (match oi.dst with|some t=>(zE7 ops oj).contains t||oj.dst==some t|none=>false)||(match oj.dst with|some t=>(zE7 ops oi).contains t|none=>false)||
  fi.w.any (λk=>fj.w.contains k||fj.r.contains k)||fj.w.any (λk=>fi.r.contains k)
def DV (l:List Oper) (T:List Nat) (fs:List FP):Bool:=
 zQb l.toArray&&okT l.toArray T&&(List.range l.length).all λj=>(List.range j).all λi=>match l[i]?,l[j]?,fs[i]?,fs[j]? with
  |some oi,some oj,some fi,some fj=>bit T j i|| !dA l.toArray oi oj fi fj
  |_,_,_,_=>false
section
variable {P:Program} {K0:List Nat} {F:Fr K0} {m:Nat}
theorem XF.congr {tm tm':Nat->AV} {h h':yC} {a:Act} {w:World} (R:XF F m tm h a w) (e1:∀t,tm' t=tm t) (e2:∀k,h' k=h k):XF F m tm' h' a w:=by
 obtain rfl:tm'=tm:=funext e1;obtain rfl:h'=h:=funext e2;exact R
def XA (l:List Oper) (n:Nat) (T:List Nat) (fs:List FP):Bool:=
 zQb l.toArray&&okT l.toArray T&&((List.range n).all λj=>(List.range j).all λi=>match l[i]?,l[j]?,fs[i]?,fs[j]? with
  |some oi,some oj,some fi,some fj=>bit T j i|| !dA l.toArray oi oj fi fj
  |_,_,_,_=>false)&&Nat.ble n l.length&&((List.range l.length).all λj=>Nat.blt j n||(List.range j).all λi=>bit T j i)
theorem LI {id:Nat} {l:List Oper} (n:Nat) {st st':St} {es:List PP} {Q:Exit->St->Prop} (hm:P.follows .mixedOrders=true) (hT:Tr P m l.toArray (l.take n) st es st') (hC:XA l n (MA l) (es.map PP.fp)=true) (hB:GN P F m l.toArray (l.drop n) st' (Q .normal)):
  vK P F m (.region id l.toArray true) st Q:=by
 refine⟨?_⟩;intro a w H;unfold XA at hC;rw[yAk,yAk,yAk,yAk,yAm,yAm]at hC;obtain⟨⟨⟨⟨hA,hTc⟩,hX⟩,hnl⟩,hY⟩:=hC;have hnl:=yAq hnl;generalize MA l=T at *;have hlen:=hT.len;rw[yA3,Nat.min_eq_left hnl]at hlen
 have hAl:∀(i:Nat) o,(l.take n)[i]? =some o->l[i]? =some o/\i<n:=λi o h=>by
  have h1:i<n:=by
   have:=(yAu.1 h).1;rw[yA3]at this;omega
  rw[List.getElem?_take_of_lt h1]at h;exact⟨h,h1⟩
 have hbt:∀i j,n<=j->j<l.length->i<j->bit T j i=true:=λi j h1 h2 h3=>by
  have:=hY j (yAt.2 h2);rw[show Nat.blt j n=false by cases hb:Nat.blt j n with|false=>rfl|true=>exact absurd (yAq hb) (by omega),yDm,yAm]at this;exact this i (yAt.2 h3)
 let R:=(l.take n).zipWith (λo e=>(o.dst,e)) es
 have hR:∀(j:Nat) p,R[j]? =some p->∃o e,(l.take n)[j]? =some o/\es[j]? =some e/\p=(o.dst,e):=λj p hp=>by
  simp only[R,List.getElem?_zipWith]at hp
  cases ho:(l.take n)[j]? with
  |none=>simp[ho]at hp
  |some o=>cases he:es[j]? with
   |none=>simp[ho,he]at hp
   |some e=>simp[ho,he]at hp;exact⟨o,e,rfl,rfl,hp.symm⟩
 have hcl:∀i j oi oj ei ej,i<j->(l.take n)[i]? =some oi->(l.take n)[j]? =some oj->es[i]? =some ei->es[j]? =some ej->dA l.toArray oi oj ei.fp ej.fp=true->bit T j i=true:=λi j oi oj ei ej hij h1 h2 h3 h4 h5=>by
  have:=yAm.1 (hX j (yAt.2 (hAl j oj h2).2)) i (yAt.2 hij);simp only[(hAl i oi h1).1,(hAl j oj h2).1,yAa,h3,h4,Option.map_some,h5,yFf,yFw]at this;simpa using this
 let QQ:Exit->Act->World->Prop:=λe a' w'=>e= .normal/\∃s,Q .normal s/\xV F m s a' w'
 let J0:Array Bool->Prop:=λL=>L.size=l.toArray.size/\(∀i o,l.toArray[i]? =some o->gY L i=true->∀e∈o.after,binds e=true->gY L e.on=true)
 let JA:Array Bool->Act->World->Prop:=λL a w=>J0 L/\(∀i,n<=i->gY L i=false)/\XF F m (zG (qU (gY L) 0 R st).tm) (zC (qU (gY L) 0 R st).h) a w
 let JB:Array Bool->Act->World->Prop:=λL a w=>J0 L/\∃k,(∀i,gY L i=decide (i<n+k))/\n+k<=l.length/\wpListIn (fen F.ro) 0 P l.toArray QQ (l.drop (n+k)) a w
 let J:Array Bool->Act->World->Prop:=λL a w=>JA L a w∨JB L a w
 have hJ0:∀L a w,J L a w->J0 L:=λL a w h=>h.elim (λh=>h.1) (λh=>h.1)
 have hAB:∀L a w,JA L a w->(∀i,i<n->gY L i=true)->JB L a w:=λL a w hJ hall=>by
  refine⟨hJ.1,0,λi=>?_,hnl,?_⟩
  ·by_cases h:i<n
   ·rw[hall i h];simp[h]
   ·rw[hJ.2.1 i (by omega)];simp[h]
  ·have:qU (gY L) 0 R st=st':=zDh (l.take n) es 0 st st' hT λj hj=>by rw[yBu];exact hall j (by rw[yA3]at hj;omega)
   have h2:=hJ.2.2;rw[this]at h2;exact hB a w h2
 have hend:∀L a w,(∀i,i<l.toArray.size->gY L i=true)->J L a w->QQ .normal a w:=λL a w hall hJ=>by
  have hJB:JB L a w:=hJ.elim (λh=>hAB L a w h λi hi=>hall i vA) (λh=>h);obtain⟨_,k,h1,h2,h3⟩:=hJB
  have hk:n+k=l.length:=by
   by_cases h:n+k<l.length
   ·have h4:=hall (n+k) IY;rw[h1]at h4;simp at h4
   ·omega
  rw[hk,yEd]at h3;exact h3
 have hcls:∀(L:Array Bool) i o,J0 L->l.toArray[i]? =some o->(∀e∈o.after,binds e=true->gY L e.on=true)->J0 (L.setIfInBounds i true):=λL i o h0 ho hpre=>by
  obtain⟨hs,hdn⟩:=h0;have hin:i<l.toArray.size:=(yCk.1 ho).1
  have hL':∀j,gY (L.setIfInBounds i true) j=if j=i then true else gY L j:=λj=>VD L i j (by rw[hs];exact hin)
  refine⟨by simpa using hs,λj oj hoj hlj ed hed hb=>?_⟩;rw[hL']at hlj⊢;by_cases hji:j=i
  ·subst hji;rw[ho]at hoj;cases hoj;split
   ·rfl
   ·exact hpre ed hed hb
  ·rw[zZ7 hji]at hlj;split
   ·rfl
   ·exact hdn j oj hoj hlj ed hed hb
 have hstepB:∀L a w i,JB L a w->i∈Region.ready .any l.toArray L->∀K:Act->World->Prop,(∀a' w',J (L.setIfInBounds i true) a' w'->K a' w')->wpOpIn (fen F.ro) 0 P l.toArray QQ i K a w:=by
  intro L a w i hJ hi K hK;obtain⟨h0,k,h1,h2,h3⟩:=hJ;obtain⟨o,ho,hl,hpre⟩:=dQ h0.1 hi;have hin:i<l.toArray.size:=(yCk.1 ho).1;have hin':i<l.length:=by simpa using hin
  have hge:n+k<=i:=by
   rw[h1]at hl;simpa using hl
  have hie:i=n+k:=by
   by_cases h:n+k<i
   ·have h5:=IR hA hTc h0.2 (i+1) i o (by omega) ho hpre (n+k) (hbt _ _ (by omega) hin' h);rw[h1]at h5;simp at h5
   ·omega
  subst hie;rw[yCr hin']at h3
  have ho':l[n+k]'hin'=o:=by
   have:=(yCk.1 ho).2;simpa using this
  rw[ho']at h3
  have hL':∀j,gY (L.setIfInBounds (n+k) true) j=if j=n+k then true else gY L j:=λj=>VD L _ j (by rw[h0.1];exact hin)
  have hnx:∀a' w',wpListIn (fen F.ro) 0 P l.toArray QQ (l.drop (n+k+1)) a' w'->K a' w':=λa' w' h=>by
   refine hK a' w' (.inr ⟨hcls L _ o h0 ho hpre,k+1,λj=>?_,by omega,h⟩);rw[hL',h1];by_cases hj:j=n+k
   ·rw[zZ8 hj];simp;omega
   ·rw[zZ7 hj];by_cases hj2:j<n+k
    ·simp[hj2];omega
    ·simp[hj2];omega
  unfold wpOpIn;rw[ho];dsimp only;unfold wpListIn at h3;split
  ·rename_i hw;rw[zZ8 hw]at h3;exact Oper.wpIn_mono hnx h3
  ·rename_i hw;rw[zZ7 hw]at h3;exact⟨h3.1,hnx _ _ h3.2⟩
 have hstep:∀L a w i,J L a w->i∈Region.ready .any l.toArray L->∀K:Act->World->Prop,(∀a' w',J (L.setIfInBounds i true) a' w'->K a' w')->wpOpIn (fen F.ro) 0 P l.toArray QQ i K a w:=by
  intro L a w i hJ hi K hK
  rcases hJ with hJ|hJ
  case inr=>exact hstepB L a w i hJ hi K hK
  by_cases hin0:i<n
  case neg=>
   refine hstepB L a w i (hAB L a w hJ λj hj=>?_) hi K hK;obtain⟨o,ho,hl,hpre⟩:=dQ hJ.1.1 hi;have hin:i<l.toArray.size:=(yCk.1 ho).1;exact IR hA hTc hJ.1.2 (i+1) i o (by omega) ho hpre j (hbt _ _ (by omega) (by simpa using hin) (by omega))
  obtain⟨h00,hge0,hRel⟩:=hJ;obtain⟨hs,hdn⟩:=h00;obtain⟨o,ho,hl,hpre⟩:=dQ hs hi;have hin:i<l.toArray.size:=(yCk.1 ho).1;have ho':(l.take n)[i]? =some o:=by rw[List.getElem?_take_of_lt hin0];simpa using ho
  obtain⟨e,he⟩:∃e,es[i]? =some e:=⟨es[i]'(by rw[hlen];exact hin0),by simp⟩;have hahead:=IR hA hTc hdn (i+1) i o (by omega) ho hpre
  have hlate:∀j,j<l.toArray.size->bit T j i=true->gY L j=false:=λj hj hij=>by
   cases hlj:gY L j with
   |false=>rfl
   |true=>
    have hoj:l.toArray[j]? =some l.toArray[j]:=by simp[hj]
    have:=IR hA hTc hdn (j+1) j _ (by omega) hoj (hdn j _ hoj hlj) i hij;rw[hl]at this;cases this
  have hord:∀j oj ej,(l.take n)[j]? =some oj->es[j]? =some ej->j≠i->(j<i->dA l.toArray oj o ej.fp e.fp=true)->(i<j->dA l.toArray o oj e.fp ej.fp=true)->gY L j=decide (j<i):=λj oj ej h1 h2 hne h3 h4=>by
   rcases Nat.lt_or_gt_of_ne hne with h|h
   ·rw[hahead j (hcl j i oj o ej e h h1 ho' h2 he (h3 h))];simp[h]
   ·rw[hlate j (by have:=hAl j oj h1;simp;omega) (hcl i j o oj e ej h ho' h1 he h2 (h4 h))];simp;omega
  obtain⟨⟨s1,s2,s3,s4,s5,s6⟩,hnext⟩:=hT.at i 0 o e ho' he;simp only[yBu]at s3 s4 s6 hnext
  let Li:Nat->Bool:=λj=>decide (j<i)
  have rdS:∀t,t∈zE7 l.toArray o->zG (qU (gY L) 0 R st).tm t=zG (qU Li 0 R st).tm t:=λt ht=>VF R 0 st st Z λj p hp hd=>by
   obtain⟨oj,ej,h1,h2,rfl⟩:=hR j p hp;rw[yBu];by_cases hji:j=i
   ·subst hji;simp only[Li];rw[hl];simp
   ·refine hord j oj ej h1 h2 hji (λ_=>?_) λ_=>?_
    ·unfold dA;simp only[show oj.dst=some t from hd,yCw.2 ht,yDu]
    ·unfold dA;simp only[show oj.dst=some t from hd,yCw.2 ht,yDu,yDb]
  have rdK:∀k,k∈e.r∨k∈e.nw∨k∈yO e.d->zC (qU (gY L) 0 R st).h k=zC (qU Li 0 R st).h k:=λk hk=>aY R 0 st st Z λj p hp hd=>by
   obtain⟨oj,ej,h1,h2,rfl⟩:=hR j p hp;rw[yBu];by_cases hji:j=i
   ·subst hji;simp only[Li];rw[hl];simp
   ·have hwj:k∈ej.fp.w:=by simp only[PP.fp,yAw];exact .inl hd
    have hki:k∈e.fp.w∨k∈e.fp.r:=by
     simp only[PP.fp,yAw]
     rcases hk with h|h|h
     ·exact .inr h
     ·exact .inl (.inr h)
     ·exact .inl (.inl h)
    refine hord j oj ej h1 h2 hji (λ_=>?_) λ_=>?_
    ·have:ej.fp.w.any (λk=>e.fp.w.contains k||e.fp.r.contains k)=true:=yBo.2 ⟨k,hwj,by simp only[yCi,yCw];exact hki⟩;unfold dA;simp only[this,yDb,yDu]
    ·rcases hki with h|h
     ·have:e.fp.w.any (λk=>ej.fp.w.contains k||ej.fp.r.contains k)=true:=yBo.2 ⟨k,h,by simp only[yCi,yCw];exact .inl hwj⟩;unfold dA;simp only[this,yDb,yDu]
     ·have:ej.fp.w.any (λk=>e.fp.r.contains k)=true:=yBo.2 ⟨k,hwj,yCw.2 h⟩;unfold dA;simp only[this,yDb]
  have hL':∀j,gY (L.setIfInBounds i true) j=if j=i then true else gY L j:=λj=>VD L i j (by rw[hs];exact hin)
  have lookN:∀t,zG (qU (gY (L.setIfInBounds i true)) 0 R st).tm t=if o.dst=some t then e.v else zG (qU (gY L) 0 R st).tm t:=λt=>by
   by_cases hd:o.dst=some t
   ·rw[zZ8 hd]
    have h1:zG (qU (gY (L.setIfInBounds i true)) 0 R st).tm t=zG (qU (λj=>decide (j<i+1)) 0 R st).tm t:=VF R 0 st st Z λj p hp hdj=>by
     obtain⟨oj,ej,h1,h2,rfl⟩:=hR j p hp;rw[yBu,hL'];by_cases hji:j=i
     ·subst hji;simp
     ·have hdj':oj.dst=some t:=hdj;rw[zZ7 hji,hord j oj ej h1 h2 hji (λ_=>by unfold dA;simp[hdj',hd]) (λ_=>by unfold dA;simp[hdj',hd])];by_cases h:j<i
      ·simp[h];omega
      ·simp[h];omega
    rw[h1,show(qU (λj=>decide (j<i+1)) 0 R st)=_ from hnext,VE,zZ8 hd]
   ·rw[zZ7 hd]
    exact VF R 0 st st Z λj p hp hdj=>by
     obtain⟨oj,ej,h1,h2,rfl⟩:=hR j p hp;rw[yBu,hL'];by_cases hji:j=i
     ·subst hji;rw[ho']at h1;cases h1;exact absurd hdj hd
     ·rw[zZ7 hji]
  have lookEN:∀k,zC (qU (gY (L.setIfInBounds i true)) 0 R st).h k=over e.d (zC (qU (gY L) 0 R st).h) k:=λk=>by
   by_cases hd:k∈yO e.d
   ·have h1:zC (qU (gY (L.setIfInBounds i true)) 0 R st).h k=zC (qU (λj=>decide (j<i+1)) 0 R st).h k:=aY R 0 st st Z λj p hp hdj=>by
     obtain⟨oj,ej,h1,h2,rfl⟩:=hR j p hp;rw[yBu,hL'];by_cases hji:j=i
     ·subst hji;simp
     ·have hwj:k∈ej.fp.w:=by simp only[PP.fp,yAw];exact .inl hdj
      have hwi:k∈e.fp.w:=by simp only[PP.fp,yAw];exact .inl hd
      have q1:ej.fp.w.any (λk=>e.fp.w.contains k||e.fp.r.contains k)=true:=yBo.2 ⟨k,hwj,by simp only[yCi,yCw];exact .inl hwi⟩;have q2:e.fp.w.any (λk=>ej.fp.w.contains k||ej.fp.r.contains k)=true:=yBo.2 ⟨k,hwi,by simp only[yCi,yCw];exact .inl hwj⟩;rw[zZ7 hji,hord j oj ej h1 h2 hji (λ_=>by unfold dA;simp only[q1,yDb,yDu]) (λ_=>by unfold dA;simp only[q2,yDb,yDu])];by_cases h:j<i
      ·simp[h];omega
      ·simp[h];omega
    rw[h1,show(qU (λj=>decide (j<i+1)) 0 R st)=_ from hnext,aX];exact zDg hd
   ·rw[DU hd]
    exact aY R 0 st st Z λj p hp hdj=>by
     obtain⟨oj,ej,h1,h2,rfl⟩:=hR j p hp;rw[yBu,hL'];by_cases hji:j=i
     ·subst hji;rw[he]at h2;cases h2;exact absurd hdj hd
     ·rw[zZ7 hji]
  have hfin:∀a' w',XF F m (λt=>if o.dst=some t then e.v else zG (qU (gY L) 0 R st).tm t) (over e.d (zC (qU (gY L) 0 R st).h)) a' w'->K a' w':=λa' w' h=>by
   refine hK a' w' (.inl ⟨hcls L i o ⟨hs,hdn⟩ ho hpre,λj hj=>?_,h.congr lookN lookEN⟩);rw[hL',zZ7 (by omega)];exact hge0 j hj
  have hexec:e.on=true->o.wpIn (fen F.ro) 0 P a w K QQ:=λhon=>
   (s4 hon).rel hRel (λt ht=>rdS t (by unfold zE7;simp[ht])) (λk hk=>rdK k (.inl hk)) (λk hk=>by rw[rdK k (.inr (.inl hk))];exact s3 k hk) s1 s2 hfin
  unfold wpOpIn;rw[ho];dsimp only
  cases hg:o.guard with
  |none=>
   rw[hg]at s6;rw[zZ8 (by simp[Region.wanted,hg])];exact hexec s6
  | some jb=>
   obtain⟨j,b⟩:=jb;rw[hg]at s6;obtain⟨t,c,g1,g2,g3⟩:=s6;have htr:t∈zE7 l.toArray o:=by unfold zE7 gOf;simp[hg,g1]
   have hv:a.eval (.tmp t)=c:=by
    obtain⟨⟨_,β,_,_,Ht,_⟩,_⟩:=hRel;have:=Ht t;rw[rdS t htr,g2]at this;exact this.s_inv
   have hw:=cM hg g1 hv
   cases hon:e.on with
   |true=>
    rw[zZ8 (by rw[hw,<-g3,hon])];exact hexec hon
   |false=>
    rw[zZ7 (by rw[hw,<-g3,hon];simp)];obtain⟨v1,v2⟩:=s5 hon;refine⟨λ_ _=>trivial,hfin _ _ ?_⟩;rw[v1,v2];exact XF.bot hRel o.dst s2
 have main:∀(fuel:Nat) (L:Array Bool) (a:Act) (w:World),cnt (λi=>!gY L i) l.toArray.size<=fuel->J L a w->wpAnyIn (fen F.ro) 0 P .any l.toArray QQ fuel L a w:=by
  intro fuel
  induction fuel with
  | zero=>
   intro L a w hf hJ
   have all:∀i,i<l.toArray.size->gY L i=true:=by
    intro i hi
    cases hl:gY L i with
    |true=>rfl
    |false=>
     exfalso;have h:=zDf (p:=λj=>!gY L j&&j != i) (q:=λj=>!gY L j) l.toArray.size i hi zU (λj hj=>by simp[hj]);simp[hl]at h;simp at hf;omega
   refine⟨?_,hend L a w all hJ⟩
   cases hr:Region.ready .any l.toArray L with
   |nil=>rfl
   |cons i rest=>
    obtain⟨o,ho,hl,_⟩:=dQ (hJ0 _ _ _ hJ).1 (i:=i) (by rw[hr];simp);rw[all i (yCk.1 ho).1]at hl;cases hl
  |succ fuel ih=>
   intro L a w hf hJ;refine⟨λhr=>hend L a w (λi hi=>zE6 hA (hJ0 _ _ _ hJ).1 hr (i+1) i (by omega) hi) hJ,λi hi=>?_⟩;refine hstep L a w i hJ hi _ (λa' w' hJ'=>ih _ _ _ ?_ hJ');obtain⟨o,ho,hl,_⟩:=dQ (hJ0 _ _ _ hJ).1 hi;have hin:i<l.toArray.size:=(yCk.1 ho).1;have h:=zDf (p:=λj=>!gY (L.setIfInBounds i true) j) (q:=λj=>!gY L j) l.toArray.size i hin (by simp[VD L i i (by rw[(hJ0 _ _ _ hJ).1];exact hin)]) (λj hj=>by simp[VD L i j (by rw[(hJ0 _ _ _ hJ).1];exact hin),hj]);simp[hl]at h;simp at hf⊢;omega
 refine Code.wpIn_mono (λe a' w' ⟨he,s,h1,h2⟩=>⟨s,by rw[he];exact h1,h2⟩) (wpIn_region_any hm (main _ _ _ _ (zVv _ _) ?_))
 have hf:∀i,gY (Array.replicate l.toArray.size false) i=false:=by
  intro i;unfold gY;simp only[yAy,Array.getElem?_replicate]
  split<;>rfl
 refine .inl ⟨⟨by simp,λi o _ hl=>?_⟩,λi _=>hf i,?_⟩
 ·rw[hf]at hl;cases hl
 ·rw[VG R 0 st λj _=>hf _];obtain⟨⟨X,β,hX,HH,Ht,KK,hJ,hD⟩,nd,gs,hl⟩:=H;have G:=yX.drew HH (w.drawn+1);exact⟨⟨X,β,hX,G.hok,λt=>(Ht t).evo G.evo,KK.goes G nd (G.lives HH nd),λi hi=>F.go G (hJ i hi),hD.goes HH G⟩,nd,gs,hl⟩
def zLx {id:Nat} {l:List Oper} {st st':St} {es:List PP} {Q:Exit->St->Prop} (hm:P.follows .mixedOrders=true) (hT:Tr P m l.toArray l st es st') (hC:DV l (MA l) (es.map PP.fp)=true) (hq:Q .normal st'):
  vK P F m (.region id l.toArray true) st Q:=by
 refine LI l.length hm (by rw[yAf];exact hT) ?_ (by rw[yEd];exact λa w H=>⟨rfl,_,hq,H⟩);unfold XA;unfold DV at hC;rw[hC,yAv,yAk,yAm];refine⟨yDr (yAb _),λj hj=>?_⟩;rw[show Nat.blt j l.length=true from yDr (yAt.1 hj),yDu]
end
def zAv {P:Program} {TT:List TI} (h:(List.range TT.length).map (λt=>zL5 P t)=TT.map some):uI P TT:=λt ti ht=>by
 have hl:=(yAu.1 ht).1;have:=yA6 (·[t]?) h;simp only[yAa,ht,Option.map_some,yA4 hl]at this;simpa using this
def zYo (P:Program) {K0:List Nat} (F:Fr K0) (m:Nat) (ops:Array Oper):Bool->List Oper->St->List FP->(List FP->St->Prop)->Prop
 |false,l,st,_,Q=>GN P F m ops l st (Q [])
 |true,l,st,fs,Q=>∃es st',Tr P m ops l st es st'/\Q ((es.map PP.fp).reverse++fs) st'
structure zX (P:Program) {K0:List Nat} (F:Fr K0) (m:Nat) (ops:Array Oper) (dr:Bool) (l:List Oper) (st:St) (fs:List FP) (Q:List FP->St->Prop):Prop where
 run:zYo P F m ops dr l st fs Q
section
variable {P:Program} {K0:List Nat} {F:Fr K0} {m:Nat} {ops:Array Oper} {rest:List Oper} {Q:List FP->St->Prop} {tm:List (Nat×AV)} {h:List (Nat×xN)} {dr:Bool} {fs:List FP}
def qJ {st:St} {Q':St->Prop} (hq:Q' st):zX P F m ops false [] st fs (λ_ s=>Q' s):=⟨zP9 hq⟩
def IS {l:List Oper} {st:St} {Q':St->Prop} (hc:DV l (MA l) fs.reverse=true) (hq:Q' st):zX P F m ops true [] st fs (λfs s=>DV l (MA l) fs.reverse=true/\Q' s):=⟨⟨[],st,rfl,hc,hq⟩⟩
def IT {o:Oper} {st st':St} {e:PP} (hon:e.on=true) (hg:o.guard=none) (hs:wM P st o.op e.v e.d e.r e.nw) (hn:∀k,k∈e.nw->zC st.h k=none) (hd:vJ e.d=true) (hm:∀t,o.dst=some t->t<m)
  (he:st'=st.app o.dst e.v e.d) (hk:zX P F m ops dr rest st' (e.fp::fs) Q):zX P F m ops dr (o::rest) st fs Q:=by
 subst he
 cases dr with
 |false=>exact⟨zLv hg hs hn hd hm (λt=>VE _ _ _ _ _) (funext λk=>aX _ _ _ _ _) hk.run⟩
 |true=>
  obtain⟨es,st2,h1,h2⟩:=hk.run;refine⟨⟨e::es,st2,⟨⟨hd,hm,hn,(λ_=>hs),(λh=>by rw[hon]at h;cases h),by rw[hg];exact hon⟩,h1⟩,?_⟩⟩;simpa using h2
section
variable {op:Op} {ty:Nat} {pos:String} {after:Array Edge} {t:Nat} {v:AV} {r nw:List Nat}
def wG (hs:wM P ⟨tm,h⟩ op v [] r []) (hm:Nat.blt t m=true) (hk:zX P F m ops dr rest ⟨(t,v)::tm,h⟩ (⟨true,[],r⟩::fs) Q):zX P F m ops dr (⟨some t,op,ty,pos,after,none⟩::rest) ⟨tm,h⟩ fs Q:=
 IT (e:=⟨true,v,[],r,[]⟩) Z Z hs zU Z (λj hj=>by cases hj;exact yAq hm) Z hk
def uS {k:Nat} {e:xN} (hs:wM P ⟨tm,h⟩ op v [(k,e)] r nw) (hm:Nat.blt t m=true) (hn:nw.all (λj=>(zC h j).isNone)=true) (hd:vJ [(k,e)]=true) (hk:zX P F m ops dr rest ⟨(t,v)::tm,(k,e)::h⟩ (⟨true,k::nw,r⟩::fs) Q):
  zX P F m ops dr (⟨some t,op,ty,pos,after,none⟩::rest) ⟨tm,h⟩ fs Q:=
 IT (e:=⟨true,v,[(k,e)],r,nw⟩) Z Z hs (λj hj=>by have:=yAm.1 hn j hj;simpa using this) hd (λj hj=>by cases hj;exact yAq hm) Z hk
def x_s {k:Nat} {e:xN} (hs:wM P ⟨tm,h⟩ op v [(k,e)] r nw) (hn:nw.all (λj=>(zC h j).isNone)=true) (hd:vJ [(k,e)]=true) (hk:zX P F m ops dr rest ⟨tm,(k,e)::h⟩ (⟨true,k::nw,r⟩::fs) Q):zX P F m ops dr (⟨none,op,ty,pos,after,none⟩::rest) ⟨tm,h⟩ fs Q:=
 IT (e:=⟨true,v,[(k,e)],r,nw⟩) Z Z hs (λj hj=>by have:=yAm.1 hn j hj;simpa using this) hd (λj hj=>by cases hj) Z hk
def ZU {d:List (Nat×xN)} (hs:wM P ⟨tm,h⟩ op v d r nw) (hm:Nat.blt t m=true) (hn:nw.all (λj=>(zC h j).isNone)=true) (hd:vJ d=true) (hk:zX P F m ops dr rest ⟨(t,v)::tm,d++h⟩ (⟨true,yO d++nw,r⟩::fs) Q):
  zX P F m ops dr (⟨some t,op,ty,pos,after,none⟩::rest) ⟨tm,h⟩ fs Q:=
 IT (e:=⟨true,v,d,r,nw⟩) Z Z hs (λj hj=>by have:=yAm.1 hn j hj;simpa using this) hd (λj hj=>by cases hj;exact yAq hm) Z hk
end
theorem DT.on {P:Program} {m:Nat} {ops:Array Oper} {d:Option Nat} {op:Op} {ty:Nat} {pos:String} {after:Array Edge} {j t:Nat} {b:Bool} {st:St} {e:PP} (ht:WU ops j=some t) (hv:zG st.tm t= .s (.bool b)) (hs:DT P m ops ⟨d,op,ty,pos,after,none⟩ st e):
  DT P m ops ⟨d,op,ty,pos,after,some (j,b)⟩ st e:=by
 obtain⟨h1,h2,h3,h4,h5,h6⟩:=hs;exact⟨h1,h2,h3,h4,h5,t,.bool b,ht,hv,by rw[show e.on=true from h6];simp[gw]⟩
def zZt {d:Option Nat} {op:Op} {ty:Nat} {pos:String} {after:Array Edge} {j t:Nat} {b:Bool} {st:St} (ht:WU ops j=some t) (hv:zG st.tm t= .s (.bool b)) (hk:zX P F m ops dr (⟨d,op,ty,pos,after,none⟩::rest) st fs Q):
  zX P F m ops dr (⟨d,op,ty,pos,after,some (j,b)⟩::rest) st fs Q:=by
 cases dr with
 |false=>exact⟨zVu ht hv hk.run⟩
 |true=>
  obtain⟨es,st2,h1,h2⟩:=hk.run
  cases es with
  |nil=>exact h1.elim
  |cons e es=>exact⟨⟨e::es,st2,⟨h1.1.on ht hv,h1.2⟩,h2⟩⟩
def zYp {d:Nat} {op:Op} {ty:Nat} {pos:String} {after:Array Edge} {j t:Nat} {b:Bool} {c:Value} (ht:WU ops j=some t) (hv:zG tm t= .s c) (hc:gw c b=false) (hm:Nat.blt d m=true) (hk:zX P F m ops dr rest ⟨(d,.s undef)::tm,h⟩ (⟨false,[],[]⟩::fs) Q):
  zX P F m ops dr (⟨some d,op,ty,pos,after,some (j,b)⟩::rest) ⟨tm,h⟩ fs Q:=by
 cases dr with
 |false=>exact⟨zQa ht hv hc hm hk.run⟩
 |true=>
  obtain⟨es,st2,h1,h2⟩:=hk.run;refine⟨⟨⟨false,.s undef,[],[],[]⟩::es,st2,⟨⟨rfl,(λj hj=>by cases hj;exact yAq hm),by simp,(λh=>by cases h),(λ_=>⟨rfl,rfl⟩),t,c,ht,hv,hc.symm⟩,h1⟩,?_⟩⟩;rw[yBb,List.reverse_cons,yA7];exact h2
def zQd {st:St} {l:List Oper} {t:Nat} {c:Bool} (hv:zG st.tm t= .s (.bool c)) (h1:c=true->zX P F m ops false l ⟨(t,.s (.bool true))::st.tm,st.h⟩ fs Q) (h2:c=false->zX P F m ops false l ⟨(t,.s (.bool false))::st.tm,st.h⟩ fs Q):zX P F m ops false l st fs Q:=⟨zE4 hv (λh=>(h1 h).run) (λh=>(h2 h).run)⟩
def VH {d:Option Nat} {op:Op} {ty:Nat} {pos:String} {after:Array Edge} {j t:Nat} {b c:Bool} (ht:WU ops j=some t) (hv:zG tm t= .s (.bool c)) (h1:c=true->zX P F m ops false (⟨d,op,ty,pos,after,some (j,b)⟩::rest) ⟨(t,.s (.bool true))::tm,h⟩ fs Q) (h2:c=false->zX P F m ops false (⟨d,op,ty,pos,after,some (j,b)⟩::rest) ⟨(t,.s (.bool false))::tm,h⟩ fs Q):
  zX P F m ops false (⟨d,op,ty,pos,after,some (j,b)⟩::rest) ⟨tm,h⟩ fs Q:=by
 have:=ht;exact zQd (st:=⟨tm,h⟩) hv h1 h2
section
variable {ty t:Nat} {pos:String} {after:Array Edge} {st:St} {g:Option (Nat×Bool)} {d:Option Nat}
def xT {c:Operand} {asq:Array Operand} {ts:Array Nat} (hk:zX P F m ops dr (⟨some t,(.call ⟨.value c,asq,ts⟩),ty,pos,after,none⟩::rest) st fs Q):zX P F m ops dr (⟨some t,(.call ⟨.value c,asq,ts⟩),ty,pos,after,none⟩::rest) st fs Q:=hk
def wL {op:BinOp} {tx t2:Nat} {x y:Operand} (hk:zX P F m ops dr (⟨some t,(.binOp op tx x y t2),ty,pos,after,none⟩::rest) st fs Q):zX P F m ops dr (⟨some t,(.binOp op tx x y t2),ty,pos,after,none⟩::rest) st fs Q:=hk
def zVw {tx:Nat} {x y:Operand} (hk:zX P F m ops dr (⟨some t,(.indexAddr tx x y),ty,pos,after,none⟩::rest) st fs Q):zX P F m ops dr (⟨some t,(.indexAddr tx x y),ty,pos,after,none⟩::rest) st fs Q:=hk
def zQe {tx:Nat} {x:Operand} (hk:zX P F m ops dr (⟨some t,(.load tx x),ty,pos,after,none⟩::rest) st fs Q):zX P F m ops dr (⟨some t,(.load tx x),ty,pos,after,none⟩::rest) st fs Q:=hk
def zVx {tx n:Nat} {x:Operand} (hk:zX P F m ops dr (⟨some t,(.fieldAddr tx x n),ty,pos,after,none⟩::rest) st fs Q):zX P F m ops dr (⟨some t,(.fieldAddr tx x n),ty,pos,after,none⟩::rest) st fs Q:=hk
def XB {tx:Nat} {x y:Operand} (hk:zX P F m ops dr (⟨none,(.store tx x y),ty,pos,after,none⟩::rest) st fs Q):zX P F m ops dr (⟨none,(.store tx x y),ty,pos,after,none⟩::rest) st fs Q:=hk
def PQ {op:Op} {j:Nat} {b:Bool} (hk:zX P F m ops dr (⟨d,op,ty,pos,after,some (j,b)⟩::rest) st fs Q):zX P F m ops dr (⟨d,op,ty,pos,after,some (j,b)⟩::rest) st fs Q:=hk
def zE {l:List Oper} (hk:zX P F m ops dr l st fs Q):zX P F m ops dr l st fs Q:=hk
end
def xD {Q:Exit->St->Prop} {id:Nat} {l:List Oper} {st:St} (hk:zX P F m l.toArray false l st [] (λ_ s=>Q .normal s)):vK P F m (.region id l.toArray false) st Q:=zAz hk.run
def vI {Q:Exit->St->Prop} {id:Nat} {l:List Oper} {st:St} (hm:P.follows .mixedOrders=true) (hk:zX P F m l.toArray true l st [] (λfs s=>DV l (MA l) fs.reverse=true/\Q .normal s)):vK P F m (.region id l.toArray true) st Q:=by
 obtain⟨es,st2,h1,h2,h3⟩:=hk.run;exact zLx hm h1 OC h3
end
end Av
end Go.Proofs.YteajjdidebfcjaaGreat
