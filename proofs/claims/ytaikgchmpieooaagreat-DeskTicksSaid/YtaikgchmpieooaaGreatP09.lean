/- Part 9: contracts of the functions, and what they rest upon. -/
import Derived.Test.YtaikgchmpieooaaGreatP08
namespace Go.Proofs.YtaikgchmpieooaaGreat
namespace Av
set_option linter.unusedSimpArgs false
set_option linter.unusedVariables false
def Callable (P:Program) (f:Nat):Prop:=∀(args:Array Value) (w:World),(callFunc f args).run P w= .ok (.enter f args) w
structure CallSim (P:Program) (f:Nat) (args:List AV) (h0:List (Nat×Ent)) (r:AV) (h1:List (Nat×Ent)):Prop where
 able:Callable P f
 nd:∀k,lookE h1 k≠some .dead
 sim:∀(X:Nat→Prop) (w:World) (β:Map) (cargs:Array Value),cargs.size=args.length→HOK X (lookE h0) β w→(∀(i:Nat) v,args[i]? =some v→RepV w (Dom X β) (lookE h0) β v (cargs.getD i undef))→
  Calls P f cargs w fun e w'=>∃c β',e= .returned c∧Goes X w (lookE h0) β w' (lookE h1) β'∧RepV w' (Dom X β') (lookE h1) β' r c
def Ent.nosl:Ent→Bool
 | .box cs=>noslL cs
 | .arr _ xs _=>noslL xs
 | .dead=>true
def noslH:List (Nat×Ent)→Bool
 | []=>true
 |(_,e)::r=>e.nosl&&noslH r
theorem noslH_at:∀{h:List (Nat×Ent)} {k:Nat} {e:Ent},noslH h=true→lookE h k=some e→e.nosl=true
 | [],k,e,_,he=>by simp[lookE]at he
 |(j,e0)::r,k,e,hn,he=>by
  simp[noslH]at hn
  rw[lookE_cons]at he
  split at he
  ·cases he;exact hn.1
  ·exact noslH_at hn.2 he
def keys (h:List (Nat×Ent)):List Nat:=h.map (·.1)
theorem lookE_mem:∀{h:List (Nat×Ent)} {k:Nat} {e:Ent},lookE h k=some e→k∈keys h
 | [],k,e,he=>by simp[lookE]at he
 |(j,e0)::r,k,e,he=>by
  rw[lookE_cons]at he
  split at he
  ·rename_i h;simp[keys,h]
  ·have:=lookE_mem he;simp[keys]at this⊢;exact .inr this
theorem mem_lookE:∀{h:List (Nat×Ent)} {k:Nat},k∈keys h→∃e,lookE h k=some e
 | [],k,hk=>by simp[keys]at hk
 | (j,e0)::r,k,hk=>by
  rw[lookE_cons]
  split
  ·exact⟨_,rfl⟩
  ·rename_i h
   simp only[keys,List.map_cons,List.mem_cons]at hk
   exact mem_lookE (hk.resolve_left h)
theorem lookE_pair:∀{h:List (Nat×Ent)} {k:Nat} {e:Ent},lookE h k=some e→∃p∈h,p.2=e
 | [],k,e,he=>by simp[lookE]at he
 |(j,e0)::r,k,e,he=>by
  rw[lookE_cons]at he
  split at he
  ·cases he;exact⟨(j,e0),by simp,rfl⟩
  ·obtain⟨p,hp,h2⟩:=lookE_pair he;exact⟨p,by simp[hp],h2⟩
def clE (ks:List Nat):Ent→Bool
 | .box cs=>(refsL cs).all (ks.contains ·)
 | .arr _ xs fl=>bif fl.nest then(refsL xs).all (ks.contains ·)else true
 | .dead=>true
theorem refs_cells {x v:AV} {j:Nat} (h:x.cells[j]? =some v) {k:Nat} (hk:k∈v.refs):k∈x.refs:=by
 cases x<;>first
  |(simp[AV.cells]at h;cases j<;>simp at h;subst h;exact hk)
  |exact refsL_at h hk
def arg1 (K:List Nat) (h:Heap) (v:AV):AV:=wkV (frz0 K h v)
theorem zip_get {args:Array Operand} {caps:List AV} {ρ:Operand→Value} {cv:Array Value} (g:Operand→AV) {i:Nat} {v:AV} (hc:cv.size=caps.length) (h:(args.toList.map g++caps)[i]? =some v):
  (∃x,x∈args∧g x=v∧(args.map ρ++cv).getD i undef=ρ x)∨∃j,caps[j]? =some v∧(args.map ρ++cv).getD i undef=cv.getD j undef:=by
 by_cases hi:i<args.size
 ·rw[List.getElem?_append_left (by simpa using hi),List.getElem?_map,Option.map_eq_some_iff]at h
  obtain⟨x,hx,rfl⟩:=h
  have hx':args[i]? =some x:=by simpa using hx
  refine .inl ⟨x,Array.mem_of_getElem? hx',rfl,getD_of ?_⟩
  rw[Array.getElem?_append_left (by simpa using hi)]
  simp[hx']
 ·rw[List.getElem?_append_right (by simp;omega)]at h
  refine .inr ⟨i-args.size,by simpa using h,?_⟩
  have hlt:i-args.size<caps.length:=by simpa using (List.getElem?_eq_some_iff.1 h).1
  apply getD_of
  rw[Array.getElem?_append_right (by simp;omega)]
  simpa using getD_eq cv (i-args.size) (by omega)
section
variable {P:Program} {st:St}
theorem lift_rep {X Xc:Nat→Prop} {w':World} {h h':Heap} {β1 β':Map} (hh:∀k e,h k=some e→h' k=some e∧β' k=β1 k) (hD:∀b,Dom X β' b→b<w'.heap.size→Dom Xc β1 b∨False) {v:AV} {c:Value} (hv:RepV w' (Dom Xc β1) h β1 v c):RepV w' (Dom X β') h' β' v c:=by
 have ef:∀{v c},RepF w' (Dom Xc β1) v c→RepF w' (Dom X β') v c:=fun hf=>hf.evo (Nat.le_refl _) fun b hb hd=>⟨rfl,fun h'=>hd ((hD b h' hb).resolve_right id)⟩
 induction hv with
 |fz v c hf=>exact .fz _ _ (ef hf)
 |agg cs c hl h1 _ ih=>exact .agg cs c hl h1 ih
 |fn f caps c hl _ ih=>exact .fn f caps c hl ih
 |tup vs c hl _ ih=>exact .tup vs c hl ih
 |dref k off len c hk h1=>exact .dref _ _ _ _ (hh k _ hk).1 h1
 |dptr k i off c hk h1=>exact .dptr _ _ _ _ (hh k _ hk).1 h1
 |ref k off len sz xs st b n cap hk hb hn hc hs=>exact .ref k off len sz xs st b n cap (hh k _ hk).1 (by rw[(hh k _ hk).2];exact hb) hn hc hs
 |ref0 k off sz xs st a hk hn=>exact .ref0 k off sz xs st a (hh k _ hk).1 hn
 |pbox k off cs b n hk hb=>exact .pbox k off cs b n (hh k _ hk).1 (by rw[(hh k _ hk).2];exact hb)
 |parr k i off sz xs st b n hk hb hi ho=>exact .parr k i off sz xs st b n (hh k _ hk).1 (by rw[(hh k _ hk).2];exact hb) hi ho
theorem lift_nosl {X Xc:Nat→Prop} {w':World} {h h':Heap} {β1 β':Map} (hh:∀k e,h k=some e→h' k=some e∧β' k=β1 k) {v:AV} {c:Value} (hv:RepV w' (Dom Xc β1) h β1 v c):v.nosl=true→RepV w' (Dom X β') h' β' v c:=by
 induction hv with
 |fz v c hf=>exact fun hn=> .fz _ _ (hf.free hn)
 |agg cs c hl h1 _ ih=>exact fun hn=> .agg cs c hl h1 fun i v hv=>ih i v hv (noslL_at (by simpa [AV.nosl]using hn) hv)
 |fn f caps c hl _ ih=>exact fun hn=> .fn f caps c hl fun i v hv=>ih i v hv (noslL_at (by simpa [AV.nosl]using hn) hv)
 |tup vs c hl _ ih=>exact fun hn=> .tup vs c hl fun i v hv=>ih i v hv (noslL_at (by simpa [AV.nosl]using hn) hv)
 |dref k off len c hk h1=>exact fun _=> .dref _ _ _ _ (hh k _ hk).1 h1
 |dptr k i off c hk h1=>exact fun _=> .dptr _ _ _ _ (hh k _ hk).1 h1
 |ref k off len sz xs st b n cap hk hb hn hc hs=>exact fun _=> .ref k off len sz xs st b n cap (hh k _ hk).1 (by rw[(hh k _ hk).2];exact hb) hn hc hs
 |ref0 k off sz xs st a hk hn=>exact fun _=> .ref0 k off sz xs st a (hh k _ hk).1 hn
 |pbox k off cs b n hk hb=>exact fun _=> .pbox k off cs b n (hh k _ hk).1 (by rw[(hh k _ hk).2];exact hb)
 |parr k i off sz xs st b n hk hb hi ho=>exact fun _=> .parr k i off sz xs st b n (hh k _ hk).1 (by rw[(hh k _ hk).2];exact hb) hi ho
theorem EntOK.lift {w:World} {D D':Nat→Prop} {h h':Heap} {β β':Map} {k:Nat} {e:Ent} (hb:β' k=β k) (hv:∀cs,e= .box cs→∀(i:Nat) v c,cs[i]? =some v→RepV w D h β v c→RepV w D' h' β' v c)
  (hf:∀sz xs st,e= .arr sz xs st→∀(i:Nat) (x:AV) (j:Nat) v c,xs[i]? =some x→x.cells[j]? =some v→(RepF w D v c→RepF w D' v c)∧(st.nest=true→RepV w D h β v c→RepV w D' h' β' v c)) (H:EntOK w D h β k e):EntOK w D' h' β' k e:=by
 cases e with
 |dead=>exact hb.trans H
 |box cs=>
  obtain⟨b,c,el,h1,h2,h3,h4,h5⟩:=H
  exact⟨b,c,el,hb.trans h1,h2,h3,h4,fun i v hi=>hv cs rfl i v _ hi (h5 i v hi)⟩
 | arr sz xs st=>
  obtain⟨h1,h2,h3,h4,h5,f,h6,h7,h8⟩:=H
  exact⟨h1,h2,by rwa [hb],h4,by rwa [hb],f,fun i x j v hx hv=>by
   obtain⟨q1,q2⟩:=hf sz xs st rfl i x j v (f i j) hx hv
   cases hn:st.nest with
   |true=>exact⟨q2 hn (h6.toV i x j v hx hv),fun h=>by cases h⟩
   |false=>exact⟨.fz _ _ (q1 (h6.toF hn i x j v hx hv)),fun _=>q1 (h6.toF hn i x j v hx hv)⟩,h7,by rwa [hb]⟩
theorem stp_call {f:Nat} {x:Operand} {args:Array Operand} {ats:Array Nat} {caps as':List AV} {h0 h1:List (Nat×Ent)} {r:AV} (hc:CallSim P f as' h0 r h1) (hx:opv (look st.tm) x= .fn f caps)
  (has:(args.toList.map (opv (look st.tm))++caps).map (arg1 (keys h0) (lookE st.h))=as') (hh0:(keys h0).map (lookE st.h)=(keys h0).map (lookE h0)) (hcl:h0.all (fun p=>clE (keys h0) p.2)=true)
  (hnb:((refsL (args.toList.map (opv (look st.tm))++caps)).all ((keys h0).contains ·)||(r.nosl&&noslH h1))=true):
  Stp P st (.call ⟨.value x,args,ats⟩) r h1 (keys h0++refsL (args.toList.map (opv (look st.tm))++caps)) ((keys h1).filter fun k=>!(keys h0).contains k):=by
 refine⟨?_⟩
 intro X tm h hg hr hn o a w β ho HH Ht
 obtain⟨dst,op',type,pos,after,guard⟩:=o
 dsimp only at ho;subst ho
 have hfv:=arg Ht hg (x:=x) (by simp[Op.operands,Call.operands]) hx
 obtain⟨cv,hfx,hcvl,hcv⟩:∃cv:Array Value,a.eval x= .func (.func f) #[] cv∧cv.size=caps.length∧∀(i:Nat) v,caps[i]? =some v→RepV w (Dom X β) h β v (cv.getD i undef):=by
  generalize a.eval x=cx at hfv
  cases hfv with
  |fz _ _ hf=>cases hf
  |fn _ _ c hl hh=>exact⟨c,rfl,hl,hh⟩
 have hrun:(execOp a.eval ⟨dst,.call ⟨.value x,args,ats⟩,type,pos,after,guard⟩).run P w= .ok (.enter f (args.map a.eval++cv)) w:=by
  have hab:=hc.able (args.map a.eval++cv) w
  simp[execOp,resolve,hfx,Deferred.ofValue,invoke,hab]
 rw[hrun]
 have hK:∀k,k∈keys h0→h k=lookE h0 k:=fun k hk=>by
  rw[hr k (by simp[hk])]
  obtain⟨i,hi⟩:=List.getElem?_of_mem hk
  have:=congrArg (·[i]?) hh0
  simpa [hi]using this
 have hoff0:∀k,lookE h0 k=none→¬k∈keys h0:=fun k hk hm=>by
  obtain⟨e,he⟩:=mem_lookE hm
  rw[hk]at he;cases he
 let βc:Map:=fun k=>if k∈keys h0 then β k else []
 have hβc:∀k,k∈keys h0→βc k=β k:=fun k hk=>by simp[βc,hk]
 have hβn:∀k,¬k∈keys h0→βc k=[]:=fun k hk=>by simp[βc,hk]
 have hβm:∀k b n,(b,n)∈βc k→k∈keys h0∧(b,n)∈β k:=fun k b n hm=>by
  by_cases hk:k∈keys h0
  ·rw[hβc k hk]at hm;exact⟨hk,hm⟩
  ·rw[hβn k hk]at hm;simp at hm
 let lent:Bool:=!(refsL (args.toList.map (opv (look st.tm))++caps)).all ((keys h0).contains ·)
 let Xc:Nat→Prop:=fun b=>X b∨(lent=false∧∃k n,¬k∈keys h0∧(b,n)∈β k)
 have hDc:∀b,Dom Xc βc b→Dom X β b:=fun b hd=>by
  rcases hd with(hx|⟨_,k,n,_,hm⟩)|⟨k,n,hm⟩
  ·exact .inl hx
  ·exact .inr ⟨k,n,hm⟩
  ·exact .inr ⟨k,n,(hβm k b n hm).2⟩
 have hclosed:∀k e,lookE h0 k=some e→clE (keys h0) e=true:=fun k e hk=>by
  obtain⟨p,hp,he⟩:=lookE_pair hk
  have:=List.all_eq_true.1 hcl p hp
  rw[he]at this
  exact this
 have hfrz:∀{v c},RepV w (Dom X β) h β v c→(∀k,k∈v.refs→k∈keys h0∨∀b n,(b,n)∈β k→¬Dom Xc βc b)→RepV w (Dom Xc βc) (lookE h0) βc (frz0 (keys h0) h v) c:=fun hv hrf=>
  RepV.fz0 HH (fun k hk e he=>by
   rw[hK k hk]at he
   cases e with
   |box cs=>exact⟨cs,he⟩
   |arr sz xs fl=>exact⟨xs,fl,he,rfl⟩
   |dead=>exact he) hβc (fun b _ hd h'=>hd (hDc b h')) hv hrf
 have hclv:∀{v c},RepV w (Dom X β) h β v c→(∀k,k∈v.refs→k∈keys h0)→RepV w (Dom Xc βc) (lookE h0) βc v c:=by
  intro v c hv
  have ef:∀{v c},RepF w (Dom X β) v c→RepF w (Dom Xc βc) v c:=fun hf=>hf.evo (Nat.le_refl _) fun b _ hd=>⟨rfl,fun h'=>hd (hDc b h')⟩
  induction hv with
  |fz v c hf=>exact fun _=> .fz _ _ (ef hf)
  |agg cs c hl h1 _ ih=>exact fun hr=> .agg cs c hl h1 fun i v hv=>ih i v hv fun k hk=>hr k (by simpa [AV.refs]using refsL_at hv hk)
  |fn f caps c hl _ ih=>exact fun hr=> .fn f caps c hl fun i v hv=>ih i v hv fun k hk=>hr k (by simpa [AV.refs]using refsL_at hv hk)
  |tup vs c hl _ ih=>exact fun hr=> .tup vs c hl fun i v hv=>ih i v hv fun k hk=>hr k (by simpa [AV.refs]using refsL_at hv hk)
  |dref k off len c hk h1=>exact fun hr=> .dref _ _ _ _ ((hK k (hr k (by simp[AV.refs])))▸hk) h1
  |dptr k i off c hk h1=>exact fun hr=> .dptr _ _ _ _ ((hK k (hr k (by simp[AV.refs])))▸hk) h1
  |ref k off len sz xs st b n cap hk hb hn hc hs=>exact fun hr=> .ref k off len sz xs st b n cap ((hK k (hr k (by simp[AV.refs])))▸hk) (by rw[hβc k (hr k (by simp[AV.refs]))];exact hb) hn hc hs
  |ref0 k off sz xs st a hk hn=>exact fun hr=> .ref0 k off sz xs st a ((hK k (hr k (by simp[AV.refs])))▸hk) hn
  |pbox k off cs b n hk hb=>exact fun hr=> .pbox k off cs b n ((hK k (hr k (by simp[AV.refs])))▸hk) (by rw[hβc k (hr k (by simp[AV.refs]))];exact hb)
  |parr k i off sz xs st b n hk hb hi ho=>exact fun hr=> .parr k i off sz xs st b n ((hK k (hr k (by simp[AV.refs])))▸hk) (by rw[hβc k (hr k (by simp[AV.refs]))];exact hb) hi ho
 have Hc:HOK Xc (lookE h0) βc w:=by
  refine⟨fun k e he=>?_,fun k he=>hβn k (hoff0 k he),fun k k' b n n' q1 q2=>HH.disj _ _ _ _ _ (hβm _ _ _ q1).2 (hβm _ _ _ q2).2,fun k b n hm hx=>?_,fun b hd=>HH.lt b (hDc b hd)⟩
  ·have hk:=lookE_mem he
   refine(HH.ent k e ((hK k hk).trans he)).lift (hβc k hk) (fun cs hcs i v c hi hv=>hclv hv fun j hj=>by
    have:=hclosed k e he
    rw[hcs]at this
    simpa using List.all_eq_true.1 this j (refsL_at hi hj)) fun sz xs fl hxs i x j v c hi hj=>⟨fun hf=>hf.evo (Nat.le_refl _) fun b _ hd=>⟨rfl,fun h'=>hd (hDc b h')⟩,fun hn hv=>hclv hv fun q hq=>by
    have:=hclosed k e he
    rw[hxs]at this
    simp only[clE,hn,cond_true]at this
    simpa using List.all_eq_true.1 this q (refsL_at hi (refs_cells hj hq))⟩
  ·obtain⟨hk,hm⟩:=hβm k b n hm
   rcases hx with hx|⟨_,k',n',hk',hm'⟩
   ·exact HH.free k b n hm hx
   ·exact hk' (HH.disj k k' b n n' hm hm'▸hk)
 have hargs:∀(i:Nat) v,(args.toList.map (opv (look st.tm))++caps)[i]? =some v→RepV w (Dom X β) h β v ((args.map a.eval++cv).getD i undef):=fun i v hi=>by
  rcases zip_get (ρ:=a.eval) (opv (look st.tm)) hcvl hi with⟨y,hy,rfl,he⟩|⟨j,hj,he⟩
  ·rw[he]
   exact arg Ht hg (by
    simp only[Op.operands,Call.operands,Array.mem_append]
    exact .inr hy) rfl
  ·rw[he];exact hcv j v hj
 have hrefs:∀(i:Nat) v,(args.toList.map (opv (look st.tm))++caps)[i]? =some v→∀k,k∈v.refs→k∈keys h0∨∀b n,(b,n)∈β k→¬Dom Xc βc b:=fun i v hi k hk=>by
  by_cases hk0:k∈keys h0
  ·exact .inl hk0
  ·refine .inr fun b n hm hd=>?_
   have hlent:lent=true:=by
    cases hl:lent with
    |true=>rfl
    |false=>
     simp only[lent,Bool.not_eq_false']at hl
     have:=List.all_eq_true.1 hl k (refsL_at hi hk)
     exact absurd (by simpa using this) hk0
   rcases hd with(hx|⟨hf,_⟩)|⟨k',n',hm'⟩
   ·exact HH.free k b n hm hx
   ·rw[hlent]at hf;cases hf
   ·obtain⟨q1,q2⟩:=hβm k' b n' hm'
    exact hk0 (HH.disj k k' b n n' hm q2▸q1)
 have hfreq:∀(i:Nat) v,(args.toList.map (opv (look st.tm))++caps)[i]? =some v→frz0 (keys h0) (lookE st.h) v=frz0 (keys h0) h v:=by
  have main:∀v:AV,(∀k,k∈v.refs→h k=lookE st.h k)→frz0 (keys h0) (lookE st.h) v=frz0 (keys h0) h v:=by
   intro v
   refine AV.rec (motive_1:=fun v=>(∀k,k∈v.refs→h k=lookE st.h k)→frz0 (keys h0) (lookE st.h) v=frz0 (keys h0) h v)
    (motive_2:=fun cs=>(∀k,k∈refsL cs→h k=lookE st.h k)→frz0L (keys h0) (lookE st.h) cs=frz0L (keys h0) h cs) ?_ ?_ ?_ ?_ ?_ ?_ ?_ ?_ ?_ ?_ ?_ ?_ ?_ v
   ·exact fun _=>rfl
   ·exact fun _ _=>rfl
   ·exact fun _ _=>rfl
   ·exact fun cs ih hk=>by simp only[frz0];rw[ih (by simpa [AV.refs]using hk)]
   ·exact fun _ _ _ _=>rfl
   ·exact fun _ _ _ _=>rfl
   ·exact fun k off len hk=>by simp only[frz0];rw[hk k (by simp[AV.refs])]
   ·exact fun _ _ _ _=>rfl
   ·exact fun _ _ _ _ _=>rfl
   ·exact fun f cs ih hk=>by simp only[frz0];rw[ih (by simpa [AV.refs]using hk)]
   ·exact fun cs ih hk=>by simp only[frz0];rw[ih (by simpa [AV.refs]using hk)]
   ·exact fun _=>rfl
   ·exact fun v r ihv ihr hk=>by
     simp only[frz0L]
     rw[ihv fun k h=>hk k (by simp[refsL,h]),ihr fun k h=>hk k (by simp[refsL,h])]
  exact fun i v hi=>main v fun k hk=>hr k (by simp[refsL_at hi hk])
 have hsim:=hc.sim Xc w βc (args.map a.eval++cv) (by rw[←has];simp[hcvl]) Hc (fun i v hi=>by
  rw[←has,List.getElem?_map,Option.map_eq_some_iff]at hi
  obtain⟨u,hu,rfl⟩:=hi
  unfold arg1
  rw[hfreq i u hu]
  exact(hfrz (hargs i u hu) (hrefs i u hu)).wk)
 refine Calls.mono hsim ?_
 rintro e w' ⟨c,β1,he,G,hv⟩
 refine⟨c,he,?_⟩
 have hlive:=G.lives Hc hc.nd
 let β':Map:=fun k=>if(lookE h1 k).isSome then β1 k else β k
 have hb1:∀k e,lookE h1 k=some e→β' k=β1 k:=fun k e hk=>by simp[β',hk]
 have hb2:∀k,lookE h1 k=none→β' k=β k:=fun k hk=>by simp[β',hk]
 have hin:∀k,k∈keys h0→∃e,lookE h1 k=some e:=fun k hk=>by
  obtain⟨e,he⟩:=mem_lookE hk
  rcases G.key k e he with h2|h2
  ·exact⟨_,h2⟩
  ·cases e with
   |dead=>exact h2.elim
   |box cs=>exact⟨_,h2.1.choose_spec⟩
   |arr sz xs st=>obtain⟨xs',st',h3,_⟩:=h2.1;exact⟨_,h3⟩
 have hnew:∀k e,lookE h1 k=some e→¬k∈keys h0→h k=none:=fun k e hk hk0=>hn k (by
  simp only[List.mem_filter,Bool.not_eq_true',List.contains_eq_mem,decide_eq_false_iff_not]
  exact⟨lookE_mem hk,hk0⟩)
 have ov1:∀k e,lookE h1 k=some e→over h1 h k=some e:=fun k e hk=>by simp[over,hk]
 have ov2:∀k,lookE h1 k=none→over h1 h k=h k:=fun k hk=>by simp[over,hk]
 have hβ':∀k b n,(b,n)∈β' k→((∃e,lookE h1 k=some e)∧(b,n)∈β1 k)∨(lookE h1 k=none∧¬k∈keys h0∧(b,n)∈β k):=fun k b n hm=>by
  cases hk:lookE h1 k with
  |none=>rw[hb2 k hk]at hm;exact .inr ⟨rfl,(fun h2=>by obtain⟨e,he⟩:=hin k h2;rw[hk]at he;cases he),hm⟩
  |some e=>rw[hb1 k e hk]at hm;exact .inl ⟨⟨e,rfl⟩,hm⟩
 have own1:∀k b n,(b,n)∈β1 k→(∃k' n',k'∈keys h0∧(b,n')∈β k')∨w.heap.size≤b:=fun k b n hm=>by
  rcases G.own k b n hm with⟨k',n',h2⟩|h2
  ·obtain⟨q1,q2⟩:=hβm k' b n' h2;exact .inl ⟨k',n',q1,q2⟩
  ·exact .inr h2
 have keepK:∀b,b<w.heap.size→(∀k n,k∈keys h0→(b,n)∉β k)→w'.heap[b]? =w.heap[b]? :=fun b hb hk=>G.keep b hb fun k n hm=>by
  obtain⟨q1,q2⟩:=hβm k b n hm;exact hk k n q1 q2
 have keepO:∀k b n,¬k∈keys h0→(b,n)∈β k→w'.heap[b]? =w.heap[b]? :=fun k b n hk hm=>keepK b (HH.lt b (.inr ⟨k,n,hm⟩)) fun k' n' hk' hm'=>hk (HH.disj k k' b n n' hm hm'▸hk')
 have bs':∀k b n,(b,n)∈β k→bsize w' b=bsize w b:=fun k b n hm=>by
  by_cases hk:k∈keys h0
  ·exact G.bs k b n (by rw[hβc k hk];exact hm)
  ·unfold bsize World.shape?;rw[keepO k b n hk hm]
 have key':∀k e,h k=some e→over h1 h k=some .dead∨match e with
   | .dead=>False
   | .box _=>(∃cs',over h1 h k=some (.box cs'))∧∀b n,(b,n)∈β k→(b,n)∈β' k
   | .arr sz xs _=>(∃xs' st',over h1 h k=some (.arr sz xs' st')∧xs.length≤xs'.length)∧∀b n,(b,n)∈β k→∃n',n≤n'∧(b,n')∈β' k:=fun k e he=>by
  by_cases hk:k∈keys h0
  ·have he0:=(hK k hk)▸he
   have:=G.key k e he0
   obtain⟨e1,he1⟩:=hin k hk
   rw[he1]at this
   rw[ov1 k e1 he1,hb1 k e1 he1,←hβc k hk]
   exact this
  ·have hno:lookE h1 k=none:=by
    cases h2:lookE h1 k with
    |none=>rfl
    |some e1=>rw[hnew k e1 h2 hk]at he;cases he
   rw[ov2 k hno,hb2 k hno]
   exact keyRefl h β k e he
 have own':∀k b n,(b,n)∈β' k→(∃k' n',(b,n')∈β k')∨w.heap.size≤b:=fun k b n hm=>by
  rcases hβ' k b n hm with⟨_,h2⟩|⟨_,_,h2⟩
  ·rcases own1 k b n h2 with⟨k',n',_,h3⟩|h3
   ·exact .inl ⟨k',n',h3⟩
   ·exact .inr h3
  ·exact .inl ⟨k,n,h2⟩
 have keep':∀b,b<w.heap.size→(∀k n,(b,n)∉β k)→w'.heap[b]? =w.heap[b]? :=fun b hb hk=>keepK b hb fun k n _=>hk k n
 have E:Evo w (Dom X β) h β w' (Dom X β') (over h1 h) β':=by
  refine⟨G.size,fun b hb hd=>?_,bs',key'⟩
  have q1:∀k n,(b,n)∉β k:=fun k n hm=>hd (.inr ⟨k,n,hm⟩)
  refine⟨keep' b hb q1,?_⟩
  rintro(hx|⟨k,n,hm⟩)
  ·exact hd (.inl hx)
  ·rcases own' k b n hm with⟨k',n',h2⟩|h2
   ·exact q1 _ _ h2
   ·omega
 have hup:∀k e,lookE h1 k=some e→over h1 h k=some e∧β' k=β1 k:=fun k e hk=>⟨ov1 k e hk,hb1 k e hk⟩
 have hDl:lent=false→∀b,Dom X β' b→Dom Xc β1 b:=fun hl b hd=>by
  rcases hd with hx|⟨k,n,hm⟩
  ·exact .inl (.inl hx)
  ·rcases hβ' k b n hm with⟨_,h2⟩|⟨_,h2,h3⟩
   ·exact .inr ⟨k,n,h2⟩
   ·exact .inl (.inr ⟨hl,k,n,h2,h3⟩)
 have hcase:lent=false∨(r.nosl=true∧noslH h1=true):=by
  rw[Bool.or_eq_true]at hnb
  rcases hnb with h2|h2
  ·left;show(!(_:Bool))=false;rw[h2];rfl
  ·right;simpa using h2
 have hliftV:∀{v c},(lent=false∨v.nosl=true)→RepV w' (Dom Xc β1) (lookE h1) β1 v c→RepV w' (Dom X β') (over h1 h) β' v c:=fun hl hv=>by
  rcases hl with hl|hl
  ·exact lift_rep (h':=over h1 h) hup (fun b hd _=> .inl (hDl hl b hd)) hv
  ·exact lift_nosl hup hv hl
 have hliftF:∀{v c},(lent=false∨v.nosl=true)→RepF w' (Dom Xc β1) v c→RepF w' (Dom X β') v c:=fun hl hv=>by
  rcases hl with hl|hl
  ·exact hv.evo (Nat.le_refl _) fun b _ hd=>⟨rfl,fun h'=>hd (hDl hl b h')⟩
  ·exact hv.free hl
 have HK:HOK X (over h1 h) β' w':=by
  refine⟨fun k e he=>?_,fun k he=>?_,fun k k' b n n' q1 q2=>?_,fun k b n hm hx=>?_,fun b hd=>?_⟩
  ·cases hk:lookE h1 k with
   |none=>
    rw[ov2 k hk]at he
    have hk0:¬k∈keys h0:=fun h2=>by obtain⟨e1,he1⟩:=hin k h2;rw[hk]at he1;cases he1
    exact(HH.ent k e he).evo E (hb2 k hk) fun b n hm=>keepO k b n hk0 hm
   | some e1=>
    rw[ov1 k e1 hk]at he
    obtain rfl:=Option.some.inj he
    have hns:lent=false∨e1.nosl=true:=hcase.imp id fun h2=>noslH_at h2.2 hk
    refine(G.hok.ent k e1 hk).lift (hb1 k e1 hk) (fun cs hcs i v c hi hv=>hliftV (hns.imp id fun h2=>noslL_at (by rw[hcs]at h2;exact h2) hi) hv) fun sz xs st hxs i x j v c hi hj=>by
     have hns':lent=false∨v.nosl=true:=hns.imp id fun h2=>by
      have hxn:x.nosl=true:=noslL_at (by rw[hxs]at h2;exact h2) hi
      cases x<;>first
       |(simp[AV.cells]at hj;cases j<;>simp at hj;subst hj;exact hxn)
       |(exact noslL_at (by simpa [AV.nosl,AV.cells]using hxn) hj)
     exact⟨fun hf=>hliftF hns' hf,fun _ hv=>hliftV hns' hv⟩
  ·cases hk:lookE h1 k with
   |none=>rw[ov2 k hk]at he;rw[hb2 k hk];exact HH.off k he
   |some e1=>rw[ov1 k e1 hk]at he;cases he
  ·rcases hβ' k b n q1 with⟨_,h2⟩|⟨_,h2,h3⟩<;>rcases hβ' k' b n' q2 with⟨_,h4⟩|⟨_,h4,h5⟩
   ·exact G.hok.disj _ _ _ _ _ h2 h4
   ·rcases own1 k b n h2 with⟨j,m,hj,hm⟩|h6
    ·exact absurd (HH.disj j k' b m n' hm h5▸hj) h4
    ·have:=HH.lt b (.inr ⟨k',n',h5⟩);omega
   ·rcases own1 k' b n' h4 with⟨j,m,hj,hm⟩|h6
    ·exact absurd (HH.disj j k b m n hm h3▸hj) h2
    ·have:=HH.lt b (.inr ⟨k,n,h3⟩);omega
   ·exact HH.disj _ _ _ _ _ h3 h5
  ·rcases hβ' k b n hm with⟨_,h2⟩|⟨_,_,h3⟩
   ·exact G.hok.free k b n h2 (.inl hx)
   ·exact HH.free k b n h3 hx
  ·rcases hd with hx|⟨k,n,hm⟩
   ·exact Nat.lt_of_lt_of_le (HH.lt b (.inl hx)) G.size
   ·rcases hβ' k b n hm with⟨_,h2⟩|⟨_,_,h3⟩
    ·exact G.hok.lt b (.inr ⟨k,n,h2⟩)
    ·exact Nat.lt_of_lt_of_le (HH.lt b (.inr ⟨k,n,h3⟩)) G.size
 exact⟨β',⟨G.size,keep',own',bs',key',HK,G.os,G.tape,G.output⟩,hliftV (hcase.imp id (·.1)) hv⟩
end
end Av
end Go.Proofs.YtaikgchmpieooaaGreat
