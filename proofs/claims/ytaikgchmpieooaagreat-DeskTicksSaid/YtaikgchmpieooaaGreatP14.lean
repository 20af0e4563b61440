/- Part 14: contracts of the functions, and what they rest upon. -/
import Derived.Test.YtaikgchmpieooaaGreatP13
import Derived.RangeFuncIn
import Derived.RangeFuncSeq
import Derived.RangeFuncLeaves
namespace Go.Proofs.YtaikgchmpieooaaGreat
namespace Av
set_option linter.unusedSimpArgs false
set_option linter.unusedVariables false
section
def litF (TT:List TI) (tm:List (Nat×AV)):Op→Option (List AV)
 | .buildSlice T len ps=>match TT[T]? with
  | some ti=>match ti.d with
   | .slice e=>match TT[e]? with
    |some te=>bif rangeIs 0 (ps.toList.map (·.1))&&(Nat.beq ps.toList.length len&&(Nat.ble 1 te.size&&(Nat.ble (len*te.size) 65536&&Nat.beq te.zero.length te.size)))then
     frcL (ps.toList.map fun p=>opv (look tm) p.2) fun xs=>bif xs.all (fun x=>Nat.beq x.cells.length te.size&&(x.ok&&x.nokey))then some xs else none else none
    |none=>none
   |_=>none
  |none=>none
 |_=>none
section
variable {P:Program} {TT:List TI} (hP:TOK P TT) {tm:List (Nat×AV)} {h:List (Nat×Ent)}
include hP in
theorem litF_sound {op:Op} {xs:List AV} (he:litF TT tm op=some xs):Stp P ⟨tm,h⟩ op (.sl true xs) [] [] []:=by
 unfold litF at he
 split at he
 ·rename_i T len ps
  split at he
  ·rename_i ti hT
   split at he
   ·rename_i e hd
    split at he
    ·rename_i te hte
     rw[frcL_eq]at he
     cases hc:(rangeIs 0 (ps.toList.map (·.1))&&(Nat.beq ps.toList.length len&&(Nat.ble 1 te.size&&(Nat.ble (len*te.size) 65536&&Nat.beq te.zero.length te.size))))with
     |false=>rw[hc]at he;cases he
     | true=>
      rw[hc]at he
      simp only[cond_true]at he
      generalize hxs:(ps.toList.map fun p=>opv (look tm) p.2)=ys at he
      cases hw:ys.all (fun x=>Nat.beq x.cells.length te.size&&(x.ok&&x.nokey))with
      |false=>simp[hw]at he
      | true=>
       simp only[hw,cond_true,Option.some.injEq]at he
       subst he
       simp only[Bool.and_eq_true]at hc
       obtain⟨c1,c2,c3,c4,c5⟩:=hc
       refine stp_buildSliceF hP hT hd hte c3 ?_ (by rw[←hxs];simpa using c2) hw c4 c5
       rw[←hxs]
       apply List.ext_getElem?
       intro j
       simp only[prts,List.getElem?_map,List.getElem?_zipIdx,Nat.zero_add]
       cases hj:ps.toList[j]? with
       |none=>simp
       |some p=>
        have:=rangeIs_eq _ 0 c1 j p.1 (by simp[hj])
        simp[this]
    ·cases he
   ·cases he
  ·cases he
 ·cases he
end
theorem Stp.wkS {P:Program} {st:St} {op:Op} {xs:List AV} {d:List (Nat×Ent)} {r nw:List Nat} (hs:Stp P st op (.sl true xs) d r nw):Stp P st op (.sl false xs) d r nw:=
 ⟨fun X tm h h1 h2 h3 o a w β ho HH Ht=>by
  have:=hs.run X tm h h1 h2 h3 o a w β ho HH Ht
  unfold OpDone at this⊢
  split at this
  ·obtain⟨β',G,hv⟩:=this;exact⟨β',G,hv.wk⟩
  ·obtain⟨β',G,hv⟩:=this;exact⟨β',G,hv.wk⟩
  ·exact this.mono fun e w' ⟨c,he,β',G,hv⟩=>⟨c,he,β',G,hv.wk⟩
  ·exact this.elim⟩
def putF (y:AV) (off:Nat) (cs:List AV):Option AV:=match y with
 | .agg ds=>frcL (setL ds off cs) fun l=>some (.agg l)
 |_=>match cs with
  | [v]=>frc v some
  |_=>none
theorem putF_eq {y:AV} {off:Nat} {cs:List AV} {v:AV} (h:putF y off cs=some v):putc y off cs=v:=by
  unfold putF at h
  unfold putc
  cases y<;>first
    |(dsimp only at h⊢;rw[frcL_eq]at h;exact Option.some.inj h)
    | (dsimp only at h⊢
       split at h
       · rw[frc_eq]at h;exact Option.some.inj h
       · cases h)
section
variable {P:Program} {TT:List TI} {K0:List Nat} {F:Fr K0} {m:Nat} {ops:Array Oper} {rest:List Oper} {Q:List FP→St→Prop} {tm:List (Nat×AV)} {h:List (Nat×Ent)} {dr:Bool} {fs:List FP}
variable {ty:Nat} {pos:String} {after:Array Edge} {t:Nat}
theorem is_bsl {T len:Nat} {ps:Array (Nat×Operand)} {st:St} (hk:OpsX P F m ops dr (⟨some t,.buildSlice T len ps,ty,pos,after,none⟩::rest) st fs Q):OpsX P F m ops dr (⟨some t,.buildSlice T len ps,ty,pos,after,none⟩::rest) st fs Q:=hk
theorem is_mks {T:Nat} {x y:Operand} {st:St} (hk:OpsX P F m ops dr (⟨some t,.makeSlice T x y,ty,pos,after,none⟩::rest) st fs Q):OpsX P F m ops dr (⟨some t,.makeSlice T x y,ty,pos,after,none⟩::rest) st fs Q:=hk
theorem is_nck {x:Operand} {st:St} (hk:OpsX P F m ops dr (⟨some t,.nilCheck x,ty,pos,after,none⟩::rest) st fs Q):OpsX P F m ops dr (⟨some t,.nilCheck x,ty,pos,after,none⟩::rest) st fs Q:=hk
theorem is_cv {x:Nat} {asq:Array Operand} {ts:Array Nat} {st:St} (hk:OpsX P F m ops dr (⟨some t,.call ⟨.value (.tmp x),asq,ts⟩,ty,pos,after,none⟩::rest) st fs Q):OpsX P F m ops dr (⟨some t,.call ⟨.value (.tmp x),asq,ts⟩,ty,pos,after,none⟩::rest) st fs Q:=hk
theorem x_lit (hP:TOK P TT) {op:Op} {xs:List AV} (he:litF TT tm op=some xs) (hm:Nat.blt t m=true) (hk:OpsX P F m ops dr rest ⟨(t,.sl false xs)::tm,h⟩ (⟨true,[],[]⟩::fs) Q):
 OpsX P F m ops dr (⟨some t,op,ty,pos,after,none⟩::rest) ⟨tm,h⟩ fs Q:=x_q (litF_sound hP he).wkS hm hk
theorem x_appnilF (hP:TOK P TT) {T e:Nat} {s x:Operand} {ti te:TI} {xv:AV} {ys:List AV} (hs:opv (look tm) s= .s (.slice none 0 0)) (hx:opv (look tm) x=xv) (hT:TT[T]? =some ti) (hd:ti.d= .slice e) (he:TT[e]? =some te)
  (hys:els (lookE h) xv=some ys) (hsz:∀y,ys[0]? =some y→y.cells.length=te.size) (hp:Nat.ble 1 te.size=true) (hb:Nat.ble te.bytes 65536=true) (hz:Nat.beq te.zero.length te.size=true) (hn:ys.length≤1073741824) (hm:Nat.blt t m=true)
  (hk:OpsX P F m ops dr rest ⟨(t,.sl false ys)::tm,h⟩ (⟨true,[],elk xv⟩::fs) Q):OpsX P F m ops dr (⟨some t,.call ⟨.builtin .append, #[s,x], #[T,T]⟩,ty,pos,after,none⟩::rest) ⟨tm,h⟩ fs Q:=
 x_q (stp_append_nilF hP hs hx hT hd he hys hsz hp hb hz hn) hm hk
theorem x_appnilK (kn:Nat) (hP:TOK P TT) {T e:Nat} {s x:Operand} {ti te:TI} {xv:AV} {ys:List AV} (hs:opv (look tm) s= .s (.slice none 0 0)) (hx:opv (look tm) x=xv) (hT:TT[T]? =some ti) (hd:ti.d= .slice e) (he:TT[e]? =some te)
  (hys:els (lookE h) xv=some ys) (hsz:∀y,ys[0]? =some y→y.cells.length=te.size) (hp:Nat.ble 1 te.size=true) (hb:Nat.ble te.bytes 65536=true) (hz:Nat.beq te.zero.length te.size=true) (hn:ys.length≤1073741824) (hm:Nat.blt t m=true) (hnn:(lookE h kn).isNone=true)
  {sz:Nat} (hse:te.size=sz) (hk:OpsX P F m ops dr rest ⟨(t,.ref kn 0 ys.length)::tm,(kn,.arr sz ys false)::h⟩ (⟨true,[kn,kn],elk xv⟩::fs) Q) (hz1:te.zero.all (·.oneCell')=true:=by rfl):OpsX P F m ops dr (⟨some t,.call ⟨.builtin .append, #[s,x], #[T,T]⟩,ty,pos,after,none⟩::rest) ⟨tm,h⟩ fs Q:=by
 subst hse;exact x_w (nw:=[kn]) (stp_append_nil hP kn hs hx hT hd he hys hsz hp hb hz hz1 hn) hm (all1 hnn) rfl hk
theorem x_appref0 (hP:TOK P TT) {T e:Nat} {s x:Operand} {ti te:TI} {k sz:Nat} {sb:Bool} {xv:AV} {ys:List AV} (hs:opv (look tm) s= .ref k 0 0) (hk:lookE h k=some (.arr sz [] ⟨sb,false⟩)) (hx:opv (look tm) x=xv) (hT:TT[T]? =some ti) (hd:ti.d= .slice e) (he:TT[e]? =some te)
  (hys:els (lookE h) xv=some ys) (hsz:∀y,ys[0]? =some y→y.cells.length=sz) (hss:Nat.beq sz te.size=true) (hb:Nat.ble te.bytes 65536=true) (hz:Nat.beq te.zero.length te.size=true) (hn:ys.length≤1073741824) (hm:Nat.blt t m=true)
  (hq:OpsX P F m ops dr rest ⟨(t,.ref k 0 ys.length)::tm,(k,.arr sz ys false)::h⟩ (⟨true,[k],k::elk xv⟩::fs) Q) (hz1:te.zero.all (·.oneCell')=true:=by rfl):OpsX P F m ops dr (⟨some t,.call ⟨.builtin .append, #[s,x], #[T,T]⟩,ty,pos,after,none⟩::rest) ⟨tm,h⟩ fs Q:=
 x_w (nw:=[]) (stp_append_refS (xs:=[]) false false hP hs hk hx hT hd he (fun _=>rfl) hys hsz hss hb hz hz1 (by simpa using hn) (fun _=>rfl)) hm rfl rfl hq
theorem x_appref0N (hP:TOK P TT) {T e:Nat} {s x:Operand} {ti te:TI} {k sz:Nat} {sl:Fl} {xv:AV} {ys:List AV} (hs:opv (look tm) s= .ref k 0 0) (hk:lookE h k=some (.arr sz [] sl)) (hx:opv (look tm) x=xv) (hT:TT[T]? =some ti) (hd:ti.d= .slice e) (he:TT[e]? =some te)
  (hys:elsG true (lookE h) xv=some ys) (hsz:∀y,ys[0]? =some y→y.cells.length=sz) (hss:Nat.beq sz te.size=true) (hb:Nat.ble te.bytes 65536=true) (hz:Nat.beq te.zero.length te.size=true) (hn:ys.length≤1073741824) (hm:Nat.blt t m=true)
  (hq:OpsX P F m ops dr rest ⟨(t,.ref k 0 ys.length)::tm,(k,.arr sz ys ⟨false,true⟩)::h⟩ (⟨true,[k],k::elk xv⟩::fs) Q) (hz1:te.zero.all (·.oneCell')=true:=by rfl):OpsX P F m ops dr (⟨some t,.call ⟨.builtin .append, #[s,x], #[T,T]⟩,ty,pos,after,none⟩::rest) ⟨tm,h⟩ fs Q:=
 x_w (nw:=[]) (stp_append_refS (xs:=[]) false true hP hs hk hx hT hd he (fun h=>by cases h) hys hsz hss hb hz hz1 (by simpa using hn) (fun _=>rfl)) hm rfl rfl hq
theorem x_sto1 (hP:TOK P TT) {T:Nat} {p x:Operand} {k i off sz:Nat} {xs:List AV} {y v y':AV} {ti:TI} {nest:Bool} (hp:opv (look tm) p= .ptr k i off) (hx:opv (look tm) x=v) (hk:lookE h k=some (.arr sz xs ⟨false,nest⟩)) (hy:xs[i]? =some y) (hT:TT[T]? =some ti)
  (h1:v.ok=true) (h2:Nat.beq v.cells.length ti.size=true) (h3:Nat.ble (off+ti.size) y.cells.length=true) (h4:(nest||v.nokey)=true) (h5:Nat.ble 1 ti.size=true) (h6:v.cells.all (fun v=>!v.isAgg)=true) (he:putF y off v.cells=some y')
  (hq:OpsX P F m ops dr rest ⟨tm,(k,.arr sz (xs.set i y') ⟨false,nest⟩)::h⟩ (⟨true,[k],[k]⟩::fs) Q):OpsX P F m ops dr (⟨none,.store T p x,ty,pos,after,none⟩::rest) ⟨tm,h⟩ fs Q:=by
 have hs:=stp_store_arr (st:=⟨tm,h⟩) hP hp hx hk hy hT h1 h2 h3 h4 h5 h6
 rw[putF_eq he]at hs
 exact x_s (nw:=[]) hs rfl rfl hq
theorem x_stoa (hP:TOK P TT) {T:Nat} {p x:Operand} {k i sz:Nat} {xs ds cs:List AV} {ti:TI} {nest:Bool} (hp:opv (look tm) p= .ptr k i 0) (hx:opv (look tm) x= .agg cs) (hk:lookE h k=some (.arr sz xs ⟨false,nest⟩)) (hy:xs[i]? =some (.agg ds)) (hT:TT[T]? =some ti)
  (h2:Nat.beq cs.length ti.size=true) (h3:Nat.beq ti.size ds.length=true) (h4:(nest||(AV.agg cs).nokey)=true) (h5:Nat.ble 1 ti.size=true) (h6:cs.all (fun v=>!v.isAgg)=true)
  (hq:OpsX P F m ops dr rest ⟨tm,(k,.arr sz (xs.set i (.agg cs)) ⟨false,nest⟩)::h⟩ (⟨true,[k],[k]⟩::fs) Q):OpsX P F m ops dr (⟨none,.store T p x,ty,pos,after,none⟩::rest) ⟨tm,h⟩ fs Q:=by
 have e2:=Nat.eq_of_beq_eq_true h2
 have e3:=Nat.eq_of_beq_eq_true h3
 have hs:=stp_store_arr (st:=⟨tm,h⟩) hP hp hx hk hy hT rfl (by simpa [AV.cells]using h2) (Nat.ble_eq_true_of_le (by simp[AV.cells];omega)) h4 h5 h6
 have:putc (.agg ds) 0 (AV.agg cs).cells= .agg cs:=by
  unfold putc AV.cells
  dsimp only
  congr 1
  apply List.ext_getElem?
  intro j
  rw[setL_at _ _ _ _ (by omega)]
  split
  ·rfl
  ·rw[List.getElem?_eq_none (by omega),List.getElem?_eq_none (by omega)]
 rw[this]at hs
 exact x_s (nw:=[]) hs rfl rfl hq
theorem RelS.nsplit {a:Act} {w:World} (H:RelS F m ⟨tm,h⟩ a w) {t:Nat} {xs:List AV} (hv:look tm t= .sl false xs):(∃cap,xs=[]∧RelS F m ⟨(t,.s (.slice none 0 cap))::tm,h⟩ a w)∨RelS F m ⟨(t,.sl true xs)::tm,h⟩ a w:=by
 obtain⟨⟨X,β,hX,HH,Ht,KK,hJ,hD⟩,nd,gs,hl⟩:=H
 have key:∀v,(∀i,v≠ .gh i)→RepV w (Dom X β) (lookE h) β v (a.eval (.tmp t))→RelS F m ⟨(t,v)::tm,h⟩ a w:=fun v hg hv=>by
  refine⟨⟨X,β,hX,HH,fun j=>?_,KK,fun i hi=>?_,hD⟩,nd,gs,hl⟩
  ·rw[look_cons]
   split
   ·rename_i hj;subst hj;exact hv
   ·exact Ht j
  ·rw[look_cons]at hi
   split at hi
   ·exact absurd hi (hg i)
   ·exact hJ i hi
 have h0:=Ht t
 dsimp only at h0
 rw[hv]at h0
 generalize hc:a.eval (.tmp t)=c at*
 cases h0 with
 | fz _ _ hf=>
  cases hf with
  |nil b cap=>
   cases b with
   |none=>exact .inl ⟨cap,rfl,key _ (fun _ h=>by cases h) (.fz _ _ (.s _))⟩
   |some b=>exact .inr (key _ (fun _ h=>by cases h) (.fz _ _ (.nil1 b cap)))
  |sl _ _ b o sz cap f hx hL hcc hh=>exact .inr (key _ (fun _ h=>by cases h) (.fz _ _ (.sl true _ b o sz cap f hx hL hcc hh)))
theorem sim_nsplit {c:Code} {Q:Exit→St→Prop} (t:Nat) {xs:List AV} (hv:look tm t= .sl false xs) (h1:∀cap,xs=[]→Sim P F m c ⟨(t,.s (.slice none 0 cap))::tm,h⟩ Q) (h2:Sim P F m c ⟨(t,.sl true xs)::tm,h⟩ Q):Sim P F m c ⟨tm,h⟩ Q:=
 ⟨fun a w H=>by
  rcases H.nsplit hv with⟨cap,hx,H1⟩|H2
  ·exact(h1 cap hx).run a w H1
  ·exact h2.run a w H2⟩
end
section
variable {P:Program} {K0:List Nat} {F:Fr K0} {m:Nat} {tm:List (Nat×AV)} {h:List (Nat×Ent)}
theorem goes_virtF {X:Nat→Prop} {h:Heap} {β:Map} {w:World} (H:HOK X h β w) {K:Nat} (hK:h K=none) {sz:Nat} (hp:1≤sz):Goes X w h β w (over [(K,.arr sz [] false)] h) (upd β K []):=
 Goes.step H K _ _ (Nat.le_refl _) (fun _ _ _=>rfl) rfl rfl rfl (fun b n hm=>by simp at hm) (fun _ _ _=>rfl) (fun e he=>by rw[hK]at he;cases he) (fun E=>⟨hp,by simp,fun h=>absurd rfl h,fun i y hy=>by simp at hy,
  fun b n r hr=>by rw[upd_same]at hr;simp at hr,fun _ _=>undef,fun i y j v hy _=>by simp at hy,fun i j hi _=>by simp at hi,fun b n hm=>by rw[upd_same]at hm;simp at hm⟩)
theorem RelS.virtF {a:Act} {w:World} (H:RelS F m ⟨tm,h⟩ a w) (t K sz:Nat) {cap:Nat} (hv:look tm t= .s (.slice none 0 0)) (hK:(lookE h K).isNone=true) (hp:Nat.ble 1 sz=true):RelS F m ⟨(t,.ref K 0 0)::tm,(K,.arr sz [] false)::h⟩ a w:=by
 obtain⟨⟨X,β,hX,HH,Ht,KK,hJ,hD⟩,nd,gs,hl⟩:=H
 have hk:lookE h K=none:=by simpa using hK
 have G:=goes_virtF HH hk (Nat.le_of_ble_eq_true hp)
 have nd':∀k,over [(K,.arr sz [] false)] (lookE h) k≠some .dead:=noDead_over rfl nd
 have R:Rel F m (look ((t,.ref K 0 0)::tm)) (over [(K,.arr sz [] false)] (lookE h)) a w:=by
  refine⟨⟨X,_,hX,G.hok,fun j=>?_,KK.goes G nd' (G.lives HH nd'),fun i hi=>?_,hD.goes HH G⟩,nd',gs,hl⟩
  ·rw[look_cons]
   split
   ·rename_i hj
    subst hj
    have:=Ht j
    rw[hv]at this
    rw[this.s_inv]
    exact .ref0 K 0 sz [] false none (over_same _ _ _) (Nat.le_refl _)
   ·exact(Ht j).evo G.evo
  ·rw[look_cons]at hi
   split at hi
   ·cases hi
   ·exact F.go G (hJ i hi)
 unfold RelS
 dsimp only
 rw[show lookE ((K,.arr sz [] false)::h)=over [(K,.arr sz [] false)] (lookE h)from lookE_append [(K,.arr sz [] false)] h]
 exact R
theorem sim_virtF {c:Code} {Q:Exit→St→Prop} (t K sz:Nat) (hv:look tm t= .s (.slice none 0 0)) (hK:(lookE h K).isNone=true) (hp:Nat.ble 1 sz=true) (hk:Sim P F m c ⟨(t,.ref K 0 0)::tm,(K,.arr sz [] false)::h⟩ Q):Sim P F m c ⟨tm,h⟩ Q:=
 ⟨fun a w H=>hk.run a w (H.virtF (cap:=0) t K sz hv hK hp)⟩
end
end
section
structure Quiet (X X':Nat→Prop) (W W':World):Prop where
 size:W.heap.size≤W'.heap.size
 fz:∀b,b<W.heap.size→¬X b→W'.heap[b]? =W.heap[b]? ∧¬X' b
 sup:∀b,X b→X' b
 lt:∀b,X' b→b<W'.heap.size
 os:W'.os=W.os
 tape:W'.tape=W.tape
 output:W'.output=W.output
def YOK {K0:List Nat} (P:Program) (F:Fr K0) (l:Nat) (xs:List (List AV)):Prop:=
 ∀(i:Nat) (ys:List AV) (X O:Nat→Prop) (W:World) (cs:Array Value),xs[i]? =some ys→F.J i O X W→cs.size=ys.length→(∀(j:Nat) v,ys[j]? =some v→RepF W (fun b=>X b∨O b) v (cs.getD j undef))→
  YieldAt Fence.wide 0 P l cs W fun e W'=>(e= .returned (.bool true)∧∃X',Quiet X X' W W'∧F.J (i+1) O X' W')∨(e= .returned (.bool false)∧∃X',Quiet X X' W W'∧F.J (xs.length+1+i) O X' W')
section
variable {X X':Nat→Prop} {W W':World} {h:Heap} {β:Map}
theorem Quiet.evo (H:HOK X h β W) (q:Quiet X X' W W'):Evo W (Dom X β) h β W' (Dom X' β) h β:=
 ⟨q.size,fun b hb hd=>⟨(q.fz b hb fun hx=>hd (.inl hx)).1,fun h'=>h'.elim (q.fz b hb fun hx=>hd (.inl hx)).2 fun ho=>hd (.inr ho)⟩,fun k b n hm=>by
  unfold bsize World.shape?
  rw[(q.fz b (H.lt b (.inr ⟨k,n,hm⟩)) (H.free k b n hm)).1],keyRefl h β⟩
theorem Quiet.hok (H:HOK X h β W) (q:Quiet X X' W W'):HOK X' h β W':=
 ⟨fun k e he=>(H.ent k e he).evo (q.evo H) rfl fun b n hm=>(q.fz b (H.lt b (.inr ⟨k,n,hm⟩)) (H.free k b n hm)).1,H.off,H.disj,fun k b n hm=>(q.fz b (H.lt b (.inr ⟨k,n,hm⟩)) (H.free k b n hm)).2,
  fun b hd=>hd.elim (q.lt b) fun ho=>Nat.lt_of_lt_of_le (H.lt b (.inr ho)) q.size⟩
end
section
variable {P:Program} {K0:List Nat} {F:Fr K0} {m:Nat} {ops:Array Oper} {rest:List Oper} {tm:List (Nat×AV)} {h:List (Nat×Ent)}
theorem Rel.quiet {X X':Nat→Prop} {β:Map} {hh:Heap} {t:Nat→AV} {a:Act} {W W':World} {j:Nat} (hit:F.it=true) (hV:∀b,F.X b→F.V b) (hX:XOK F X) (H:HOK X hh β W) (Ht:∀s,RepV W (Dom X β) hh β (t s) (a.eval (.tmp s))) (KK:Keep F hh β W) (hD:DOK X F a.defers W) (nd:∀k,hh k≠some .dead) (gs:m≤GS) (hl:a.tmps.size=m)
  (q:Quiet X X' W W') (hj:F.J j (Own β) X' W') (d:Nat) (hd:d<m) (b:Bool):Rel F m (fun s=>if s=GS then .gh j else if s=d then .s (.bool b)else t s) hh (a.put (some d) (.bool b)) W':=by
 have E:=q.evo H
 refine⟨⟨X',β,⟨fun c hc=>q.sup c (hX.1 c hc),fun c hc=>?_⟩,q.hok H,fun s=>?_,?_,fun i hi=>?_,?_⟩,nd,gs,by simp[Act.put,hl]⟩
 ·by_cases hb:c<W.heap.size
  ·by_cases hxc:X c
   ·exact hX.2 c hxc
   ·exact absurd hc (q.fz c hb hxc).2
  ·exact .inr (Nat.le_trans KK.size (Nat.le_of_not_lt hb))
 ·split
  ·exact .fz _ _ (.gh _ _)
  ·split
   ·rename_i hs;subst hs
    have:s<a.tmps.size:=by rw[hl];exact hd
    have e:(a.put (some s) (.bool b)).eval (.tmp s)= .bool b:=by simp[Act.put,Act.eval,this]
    rw[e];exact .fz _ _ (.s _)
   ·rename_i hs
    rw[Act.eval_put (fun d' hd' e=>hs (by cases hd';injection e with e))]
    exact(Ht s).evo E
 ·exact⟨KK.knd,Nat.le_trans KK.size q.size,fun c hc hi hn=>by
   have h1:¬X c:=fun hx=>(hX.2 c hx).elim (fun h=>hi (hV c h)) fun h=>by omega
   rw[(q.fz c (Nat.lt_of_lt_of_le hc KK.size) h1).1]
   exact KK.keep c hc hi hn,KK.own,KK.pas,fun k c n hm=>by
   obtain⟨n',_,hm'⟩:=KK.pas k c n hm
   rw[E.bs k c n' hm',KK.bs k c n hm],q.os.trans KK.os,q.tape.trans KK.tape,q.output.trans KK.output⟩
 ·simp only[if_pos rfl]at hi
  cases hi
  exact hj
 ·obtain⟨bs,h1,h0,h2,h3⟩:=hD
  have:=h0 hit
  subst this
  exact⟨[],h1,fun _=>rfl,h2,fun b hb=>by simp at hb⟩
theorem ops_yield {xs:List (List AV)} {ys:List AV} {l i y t ty:Nat} {asq:Array Operand} {ats:Array Nat} {pos:String} {after:Array Edge} {Q:St→Prop} (hit:F.it=true∧∀b,F.X b→F.V b) (hY:YOK P F l xs) (hy:look tm y= .s (.func (.yield l) #[] #[])) (hg:look tm GS= .gh i) (hxs:xs[i]? =some ys)
  (hvs:asq.toList.map (opv (look tm))=ys) (hnk:nokeys ys=true) (hm:Nat.blt t m=true)
  (h1:Ops P F m ops rest ⟨(GS,.gh (i+1))::(t,.s (.bool true))::tm,h⟩ Q) (h2:Ops P F m ops rest ⟨(GS,.gh (xs.length+1+i))::(t,.s (.bool false))::tm,h⟩ Q):
  Ops P F m ops (⟨some t,.call ⟨.value (.tmp y),asq,ats⟩,ty,pos,after,none⟩::rest) ⟨tm,h⟩ Q:=fun a w H=>by
 obtain⟨⟨X,β,hX,HH,Ht,KK,hJ,hD⟩,nd,gs,hl⟩:=H
 have hj:=hJ i hg
 have hyv:a.eval (.tmp y)= .func (.yield l) #[] #[]:=by
  have:=Ht y
  dsimp only at this
  rw[hy]at this
  exact this.s_inv
 have hlen:asq.toList.length=ys.length:=by rw[←hvs];simp
 obtain⟨fn,tmps,assign,body,hrun,hround⟩:=hY i ys X (Own β) w (asq.map a.eval) hxs hj (by simpa using hlen) (fun j v hv=>by
  rw[←hvs,List.getElem?_map,Option.map_eq_some_iff]at hv
  obtain⟨x,hx,rfl⟩:=hv
  have hx':asq[j]? =some x:=by simpa using hx
  have e:(asq.map a.eval).getD j undef=a.eval x:=by simp[Array.getD_eq_getD_getElem?,hx']
  rw[e]
  have hv2:(ys[j]?)=some (opv (look tm) x):=by rw[←hvs];simp[hx]
  exact(opv_rep Ht x).toF (nokeys_at hnk hv2))
 refine wpListIn_plain rfl fun K hK=>⟨fun _ _=>trivial,?_⟩
 have he:((⟨some t,.call ⟨.value (.tmp y),asq,ats⟩,ty,pos,after,none⟩:Oper).semAt (fen F.ro).round a.eval).run P w= .ok (.round l fn tmps assign body) w:=by
  rw[Oper.semAt_eq _ _ _ (fun c hc=>by cases hc)]
  rw[←hrun]
  simp[execOp,resolve,hyv,Deferred.ofValue,invoke]
 rw[he]
 refine⟨fun hx=>by simp[fen,Fence.wide]at hx,?_⟩
 refine RoundIn.mono (F:=Fence.wide) hround ?_
 rintro e W' (⟨rfl,X',q,hj'⟩|⟨rfl,X',q,hj'⟩)
 ·refine hK _ _ (h1 _ _ ?_)
  have R:=Rel.quiet hit.1 hit.2 hX HH Ht KK hD nd gs hl q hj' t (Nat.le_of_ble_eq_true hm) true
  unfold RelS
  refine R.congr (fun s=>?_) (fun _=>rfl)
  rw[look_cons,look_cons]
 ·refine hK _ _ (h2 _ _ ?_)
  have R:=Rel.quiet hit.1 hit.2 hX HH Ht KK hD nd gs hl q hj' t (Nat.le_of_ble_eq_true hm) false
  unfold RelS
  refine R.congr (fun s=>?_) (fun _=>rfl)
  rw[look_cons,look_cons]
theorem x_yield {xs:List (List AV)} {ys:List AV} {l i y t ty:Nat} {asq:Array Operand} {ats:Array Nat} {pos:String} {after:Array Edge} {fs:List FP} {Q:List FP→St→Prop} (hit:F.it=true∧∀b,F.X b→F.V b) (hY:YOK P F l xs) (hy:look tm y= .s (.func (.yield l) #[] #[])) (hg:look tm GS= .gh i) (hxs:xs[i]? =some ys)
 (hvs:asq.toList.map (opv (look tm))=ys) (hnk:nokeys ys=true) (hm:Nat.blt t m=true)
 (h1:OpsX P F m ops false rest ⟨(GS,.gh (i+1))::(t,.s (.bool true))::tm,h⟩ fs Q) (h2:OpsX P F m ops false rest ⟨(GS,.gh (xs.length+1+i))::(t,.s (.bool false))::tm,h⟩ fs Q):
 OpsX P F m ops false (⟨some t,.call ⟨.value (.tmp y),asq,ats⟩,ty,pos,after,none⟩::rest) ⟨tm,h⟩ fs Q:=⟨ops_yield hit hY hy hg hxs hvs hnk hm h1.run h2.run⟩
end
structure IterSim (P:Program) (f:Nat) (caps:List AV) (h0:List (Nat×Ent)) (xs:List (List AV)):Prop where
 able:Callable P f
 sim:∀(l:Nat) (cv:Array Value) (F:Fr (keys h0)),(F.it=true∧∀b,F.X b→F.V b)→F.ro=none→F.h0=lookE h0→cv.size=caps.length→HOK F.X (lookE h0) F.β0 F.w0→(∀(i:Nat) v,caps[i]? =some v→RepV F.w0 (Dom F.X F.β0) (lookE h0) F.β0 v (cv.getD i undef))→
  F.J 0 (Own F.β0) F.X F.w0→YOK P F l xs→Calls P f (#[.func (.yield l) #[] #[]]++cv) F.w0 fun e w'=>(∃v,e= .returned v)∧∃i O X,F.J i O X w'∧(i=xs.length∨xs.length<i)
def FinI (n:Nat) (e:Exit) (st:St):Prop:=(e= .normal∨e= .ret)∧∃i,look st.tm GS= .gh i∧(i=n∨n<i)
theorem fini_ret {n i:Nat} {st:St} (h:look st.tm GS= .gh i) (hi:i=n∨n<i):FinI n .ret st:=⟨.inr rfl,i,h,hi⟩
theorem fini_normal {n i:Nat} {st:St} (h:look st.tm GS= .gh i) (hi:i=n∨n<i):FinI n .normal st:=⟨.inl rfl,i,h,hi⟩
theorem iterSim_of {P:Program} {f:Nat} {fn:Func} {body:Code} {caps:List AV} {h0:List (Nat×Ent)} {xs:List (List AV)} (hf:P.funcs[f]? =some fn) (hb:fn.body=some body) (able:Callable P f) (hlen:Nat.ble (caps.length+1) fn.ntmps=true) (hres:fn.results= #[])
  (hnd:noDead h0=true) (h:∀(F:Fr (keys h0)) (l:Nat),F.ro=none→(F.it=true∧∀b,F.X b→F.V b)→YOK P F l xs→Sim P F fn.ntmps body ⟨(GS,.gh 0)::argTm 0 (.s (.func (.yield l) #[] #[])::caps),h0⟩ (FinI xs.length)) (hgs:Nat.ble fn.ntmps GS=true:=by rfl):IterSim P f caps h0 xs:=by
 refine⟨able,fun l cv F hit hro hh0 hcl H hcaps hj hY=>(callsIn_wide (n:=0)).1 ?_⟩
 have hlen:=Nat.le_of_ble_eq_true hlen
 have hw:∀(c:Code) Q a w,c.wpIn (fen F.ro) 0 P Q a w→c.wpIn Fence.wide 0 P Q a w:=fun c Q a w h=>by rw[hro]at h;exact h
 refine callsIn_of_wp_marks (F:=Fence.wide) (n:=0) hf hb trivial (hw _ _ _ _ (Code.wpIn_mono (fun e a' w1 q=>?_) ((h F l hro hit hY).run _ F.w0 ⟨⟨F.X,F.β0,⟨fun _ h=>h,fun _ h=> .inl h⟩,H,fun t=>?_,⟨fun k e he=>?_,Nat.le_refl _,fun _ _ _ _=>rfl,fun k b n hm=> .inl ⟨k,n,hm⟩,fun k b n hm=>⟨n,Nat.le_refl _,hm⟩,fun _ _ _ _=>rfl,rfl,rfl,rfl⟩,fun i hi=>?_,[],rfl,fun _=>rfl,List.nodup_nil,fun b hb=>by simp at hb⟩,fun k=>noDead_at hnd,Nat.le_of_ble_eq_true hgs,?_⟩))) rfl
 ·obtain⟨st,⟨he,i,hi,hn⟩,⟨⟨X2,β2,_,_,_,_,hJ2,bs,hds,hbs,_⟩,_,_,_⟩⟩:=q
  have hb0:=hbs hit.1
  subst hb0
  have goal:LeavesInM Fence.wide 0 P fn a'.tmps (fun e w'=>(∃v,e= .returned v)∧∃i O X,F.J i O X w'∧(i=xs.length∨xs.length<i)) a'.defers .returning w1:=by
   rw[hds]
   refine⟨.tuple #[],by simp[results,hres],⟨_,rfl⟩,i,_,_,hJ2 i hi,hn⟩
  rcases he with rfl|rfl
  ·exact goal
  ·exact goal
 ·dsimp only
  rw[look_cons]
  split
  ·exact .fz _ _ (.gh _ _)
  ·rw [look_argTm,if_pos (Nat.zero_le _),Nat.sub_zero]
   cases t with
   | zero=>
    have e:Act.eval {tmps:= #[Value.func (.yield l) #[] #[]]++cv++Array.replicate (fn.ntmps-(#[Value.func (.yield l) #[] #[]]++cv).size) undef,defers:=[]} (.tmp 0)= .func (.yield l) #[] #[]:=by
     simp[Act.eval,Array.getD_eq_getD_getElem?,Array.getElem?_append]
    rw[e]
    exact .fz _ _ (.s _)
   | succ t=>
    rw[List.getD_cons_succ]
    by_cases ht:t<caps.length
    ·have h2:caps[t]? =some (caps.getD t .bot):=by simp[List.getD,ht]
     have e:Act.eval {tmps:= #[Value.func (.yield l) #[] #[]]++cv++Array.replicate (fn.ntmps-(#[Value.func (.yield l) #[] #[]]++cv).size) undef,defers:=[]} (.tmp (t+1))=cv.getD t undef:=by
      simp only[Act.eval,Array.getD_eq_getD_getElem?]
      rw[Array.getElem?_append_left (by simp;omega),Array.getElem?_append_right (by simp)]
      simp
     rw[e]
     exact hcaps t _ h2
    ·have:caps.getD t .bot= .bot:=by simp[List.getD,List.getElem?_eq_none (by omega:caps.length≤t)]
     rw[this]
     exact .fz _ _ (.bot _)
 ·rw[hh0]at he
  cases e with
  |dead=>exact absurd he (noDead_at hnd)
  |box cs=>exact⟨cs,he⟩
  |arr sz xs sl=>exact⟨xs,sl,he,Nat.le_refl _⟩
 ·dsimp only at hi
  rw[look_cons,if_pos rfl]at hi
  cases hi
  exact hj
 ·simp;omega
end
section
def βr (K:List Nat) (β:Map):Map:=fun k=>if k∈K then β k else []
theorem βr_in {K:List Nat} {β:Map} {k:Nat} (h:k∈K):βr K β k=β k:=by simp[βr,h]
theorem βr_mem {K:List Nat} {β:Map} {k b n:Nat} (h:(b,n)∈βr K β k):k∈K∧(b,n)∈β k:=by
 unfold βr at h
 split at h
 ·exact⟨‹_›,h⟩
 ·simp at h
theorem lend {X Xc:Nat→Prop} {h:Heap} {β:Map} {w:World} {h0:List (Nat×Ent)} (HH:HOK X h β w) (hK:∀k,k∈keys h0→h k=lookE h0 k) (hclosed:∀k e,lookE h0 k=some e→clE (keys h0) e=true)
  (hXc:∀b,Xc b→X b∨∃k n,¬k∈keys h0∧(b,n)∈β k):
  HOK Xc (lookE h0) (βr (keys h0) β) w∧∀v c,RepV w (Dom X β) h β v c→(∀k,k∈v.refs→k∈keys h0)→RepV w (Dom Xc (βr (keys h0) β)) (lookE h0) (βr (keys h0) β) v c:=by
 have hβc:∀k,k∈keys h0→βr (keys h0) β k=β k:=fun k hk=>βr_in hk
 have hDc:∀b,Dom Xc (βr (keys h0) β) b→Dom X β b:=fun b hd=>by
  rcases hd with hx|⟨k,n,hm⟩
  ·exact(hXc b hx).imp id fun ⟨k,n,_,hm⟩=>⟨k,n,hm⟩
  ·exact .inr ⟨k,n,(βr_mem hm).2⟩
 have hclv:∀v c,RepV w (Dom X β) h β v c→(∀k,k∈v.refs→k∈keys h0)→RepV w (Dom Xc (βr (keys h0) β)) (lookE h0) (βr (keys h0) β) v c:=by
  intro v c hv
  have ef:∀{v c},RepF w (Dom X β) v c→RepF w (Dom Xc (βr (keys h0) β)) v c:=fun hf=>hf.evo (Nat.le_refl _) fun b _ hd=>⟨rfl,fun h'=>hd (hDc b h')⟩
  induction hv with
  |fz v c hf=>exact fun _=> .fz _ _ (ef hf)
  |agg cs c hl h1 _ ih=>exact fun hr=> .agg cs c hl h1 fun i v hv=>ih i v hv fun k hk=>hr k (by simpa [AV.refs]using refsL_at hv hk)
  |fn f caps c hl _ ih=>exact fun hr=> .fn f caps c hl fun i v hv=>ih i v hv fun k hk=>hr k (by simpa [AV.refs]using refsL_at hv hk)
  |tup vs c hl _ ih=>exact fun hr=> .tup vs c hl fun i v hv=>ih i v hv fun k hk=>hr k (by simpa [AV.refs]using refsL_at hv hk)
  |dref k off len c hk h1=>exact fun hr=> .dref _ _ _ _ ((hK k (hr k (by simp[AV.refs])))▸hk) h1
  |dptr k i off c hk h1=>exact fun hr=> .dptr _ _ _ _ ((hK k (hr k (by simp[AV.refs])))▸hk) h1
  |ref k off len sz xs st b n cap hk hb hn hc hs=>exact fun hr=> .ref k off len sz xs st b n cap ((hK k (hr k (by simp[AV.refs])))▸hk) (by rw[hβc k (hr k (by simp[AV.refs]))];exact hb) hn hc hs
  |ref0 k off sz xs st a hk hn=>exact fun hr=> .ref0 k off sz xs st a ((hK k (hr k (by simp[AV.refs])))▸hk) hn
  |pbox k off cs b n hk hb=>exact fun hr=> .pbox k off cs b n ((hK k (hr k (by simp[AV.refs])))▸hk) (by rw[hβc k (hr k (by simp[AV.refs]))];exact hb)
  |parr k i off sz xs st b n hk hb hi ho=>exact fun hr=> .parr k i off sz xs st b n ((hK k (hr k (by simp[AV.refs])))▸hk) (by rw[hβc k (hr k (by simp[AV.refs]))];exact hb) hi ho
 refine⟨⟨fun k e he=>?_,fun k he=>?_,fun k k' b n n' q1 q2=>HH.disj _ _ _ _ _ (βr_mem q1).2 (βr_mem q2).2,fun k b n hm hx=>?_,fun b hd=>HH.lt b (hDc b hd)⟩,hclv⟩
 ·have hk:=lookE_mem he
  refine(HH.ent k e ((hK k hk).trans he)).lift (hβc k hk) (fun cs hcs i v c hi hv=>hclv v c hv fun j hj=>by
   have:=hclosed k e he
   rw[hcs]at this
   simpa using List.all_eq_true.1 this j (refsL_at hi hj)) fun sz xs fl hxs i x j v c hi hj=>⟨fun hf=>hf.evo (Nat.le_refl _) fun b _ hd=>⟨rfl,fun h'=>hd (hDc b h')⟩,fun hn hv=>hclv v c hv fun q hq=>by
   have:=hclosed k e he
   rw[hxs]at this
   simp only[clE,hn,cond_true]at this
   simpa using List.all_eq_true.1 this q (refsL_at hi (refs_cells hj hq))⟩
 ·unfold βr
  rw[if_neg]
  intro hk
  obtain⟨e,hk⟩:=mem_lookE hk
  rw[he]at hk;cases hk
 ·obtain⟨hk,hm⟩:=βr_mem hm
  rcases hXc b hx with hx|⟨k',n',hk',hm'⟩
  ·exact HH.free k b n hm hx
  ·exact hk' (HH.disj k k' b n n' hm hm'▸hk)
def NoNest (h:Heap):Prop:=∀k sz xs fl,h k=some (.arr sz xs fl)→fl.nest=false
def nnH:List (Nat×Ent)→Bool
 | []=>true
 |(_,e)::r=>match e with
  | .arr _ _ fl=>!fl.nest&&nnH r
  |_=>nnH r
theorem nnH_at:∀{h:List (Nat×Ent)},nnH h=true→NoNest (lookE h)
 | [],_,k,sz,xs,fl,he=>by simp[lookE]at he
 | (j,e)::r,hn,k,sz,xs,fl,he=>by
  rw[lookE_cons]at he
  split at he
  ·cases he
   simp[nnH]at hn
   exact hn.1
  ·refine nnH_at (h:=r) ?_ k sz xs fl he
   cases e with
   |arr _ _ _=>simp[nnH]at hn;exact hn.2
   |_=>exact hn
theorem frz0_eq {h:Heap} (nn:NoNest h) (K:List Nat):∀v:AV,frz0 K h v=frzV K h v:=by
 intro v
 refine AV.rec (motive_1:=fun v=>frz0 K h v=frzV K h v) (motive_2:=fun cs=>frz0L K h cs=frzL K h cs) ?_ ?_ ?_ ?_ ?_ ?_ ?_ ?_ ?_ ?_ ?_ ?_ ?_ v
 ·rfl
 ·exact fun _=>rfl
 ·exact fun _=>rfl
 ·exact fun cs ih=>by simp only[frz0,frzV];rw[ih]
 ·exact fun _ _ _=>rfl
 ·exact fun _ _ _=>rfl
 ·intro k off len
  simp only[frz0,frzV]
  cases K.contains k with
  |true=>rfl
  | false=>
   simp only[cond_false]
   split
   ·rename_i xs fl he
    rw[nn _ _ _ _ he]
    rfl
   ·rfl
 ·intro k i off;rfl
 ·exact fun _ _ _ _=>rfl
 ·exact fun f cs ih=>by simp only[frz0,frzV];rw[ih]
 ·exact fun cs ih=>by simp only[frz0,frzV];rw[ih]
 ·rfl
 ·exact fun v r h1 h2=>by simp only[frz0L,frzL];rw[h1,h2]
theorem HOK.restrX {X X':Nat→Prop} {h:Heap} {β:Map} {w:World} (H:HOK X h β w) (K Kd:List Nat) (hx:∀b,X' b→X b∨∃k n,k∈Kd∧(b,n)∈β k) (hdis:∀k,k∈Kd→¬k∈K) (nn:NoNest h)
  (hent:∀k cs,k∈K→h k=some (.box cs)→∀j,j∈refsL cs→¬j∈Kd):
  HOK X' (lookE (restrH K h)) (βr K β) w∧∀v c,(∀j,j∈v.refs→¬j∈Kd)→RepV w (Dom X β) h β v c→RepV w (Dom X' (βr K β)) (lookE (restrH K h)) (βr K β) (frzV K h v) c:=by
 have hsub:∀b,Dom X' (βr K β) b→Dom X β b:=fun b hd=>by
  rcases hd with hb|⟨k,n,hm⟩
  ·exact(hx b hb).imp id fun ⟨k,n,_,hm⟩=>⟨k,n,hm⟩
  ·exact .inr ⟨k,n,(βr_mem hm).2⟩
 have hv:∀v c,(∀j,j∈v.refs→¬j∈Kd)→RepV w (Dom X β) h β v c→RepV w (Dom X' (βr K β)) (lookE (restrH K h)) (βr K β) (frzV K h v) c:=fun v c hr hv=>by
  rw[←frz0_eq nn]
  refine RepV.fz0 H (K:=K) (fun k hk e he=>?_) (fun k hk=>βr_in hk) (fun b _ hd h'=>hd (hsub b h')) hv fun k hk0=>?_
  ·rw[lookE_restrH,if_pos hk,he]
   cases e with
   |box cs=>exact⟨_,rfl⟩
   |arr sz xs fl=>exact⟨xs,fl,by simp only[Option.map_some,frzE,nn _ _ _ _ he,cond_false],rfl⟩
   |dead=>rfl
  ·by_cases hk:k∈K
   ·exact .inl hk
   ·refine .inr fun b n hm=>?_
    rintro(hb|⟨k',n',hm'⟩)
    ·rcases hx b hb with hb|⟨k',n',hk',hm'⟩
     ·exact H.free k b n hm hb
     ·exact hr k hk0 (H.disj k k' b n n' hm hm'▸hk')
    ·obtain⟨hk',hm'⟩:=βr_mem hm'
     exact hk (H.disj k k' b n n' hm hm'▸hk')
 have ef:∀{v c},RepF w (Dom X β) v c→RepF w (Dom X' (βr K β)) v c:=fun hf=>hf.evo (Nat.le_refl _) fun b _ hd=>⟨rfl,fun h'=>hd (hsub b h')⟩
 refine⟨⟨fun k e he=>?_,fun k he=>?_,fun k k' b n n' h1 h2=>H.disj _ _ _ _ _ (βr_mem h1).2 (βr_mem h2).2,fun k b n hm hb=>?_,fun b hd=>H.lt b (hsub b hd)⟩,hv⟩
 ·rw[lookE_restrH]at he
  split at he
  ·rename_i hk
   rw[Option.map_eq_some_iff]at he
   obtain⟨e0,he0,rfl⟩:=he
   have:=H.ent k e0 he0
   cases e0 with
   |dead=>show βr K β k=[];rw[βr_in hk];exact this
   |box cs=>
    obtain⟨b,c,el,h1,h2,h3,h4,h5⟩:=this
    refine⟨b,c,el,by rw[βr_in hk];exact h1,h2,by rw[frzL_length];exact h3,h4,fun i v hi=>?_⟩
    rw[frzL_at,Option.map_eq_some_iff]at hi
    obtain⟨u,hu,rfl⟩:=hi
    exact hv u _ (fun j hj=>hent k cs hk he0 j (refsL_at hu hj)) (h5 i u hu)
   |arr sz xs st=>
    obtain⟨g1,g2,g3,g4,g5,f,g6,g7,g8⟩:=this
    have hn:=nn _ _ _ _ he0
    rw[show frzE K h (.arr sz xs st)= .arr sz xs st by simp only[frzE,hn,cond_false]]
    exact⟨g1,g2,by rw[βr_in hk];exact g3,g4,by rw[βr_in hk];exact g5,f,.ofF fun i x j v hx hy=>ef (g6.toF hn i x j v hx hy),g7,by rw[βr_in hk];exact g8⟩
  ·cases he
 ·unfold βr
  split
  ·rename_i hk
   rw[lookE_restrH,if_pos hk]at he
   cases hk':h k with
   |none=>exact H.off k hk'
   |some e=>simp[hk']at he
  ·rfl
 ·obtain⟨hk,hm⟩:=βr_mem hm
  rcases hx b hb with hb|⟨k',n',hk',hm'⟩
  ·exact H.free k b n hm hb
  ·exact hdis k' hk' (H.disj k k' b n n' hm hm'▸hk)
theorem frz_idem (K:List Nat) (h h':Heap):∀v:AV,frzV K h' (frzV K h v)=frzV K h v:=by
 intro v
 refine AV.rec (motive_1:=fun v=>frzV K h' (frzV K h v)=frzV K h v) (motive_2:=fun cs=>frzL K h' (frzL K h cs)=frzL K h cs) ?_ ?_ ?_ ?_ ?_ ?_ ?_ ?_ ?_ ?_ ?_ ?_ ?_ v
 ·rfl
 ·exact fun _=>rfl
 ·exact fun _=>rfl
 ·exact fun cs ih=>by simp only[frzV];rw[ih]
 ·exact fun _ _ _=>rfl
 ·exact fun _ _ _=>rfl
 ·intro k off len
  simp only[frzV]
  cases hc:K.contains k with
  |true=>simp only[cond_true,frzV,hc]
  | false=>
   simp only[cond_false]
   rcases h k with _|(_|⟨_,xs,fl⟩|_)
   ·rfl
   ·rfl
   ·dsimp only
    cases fl.nest with
    |false=>rfl
    |true=>
     simp only[cond_true]
     cases nokeys (frz0L K h xs)<;>rfl
   ·rfl
 ·intro k i off
  simp only[frzV]
  cases hc:K.contains k with
  |true=>simp only[cond_true,frzV,hc]
  |false=>rfl
 ·exact fun _ _ _ _=>rfl
 ·exact fun f cs ih=>by simp only[frzV];rw[ih]
 ·exact fun cs ih=>by simp only[frzV];rw[ih]
 ·rfl
 ·exact fun v r h1 h2=>by simp only[frzL];rw[h1,h2]
section
variable {K0:List Nat} {F:Fr K0} {h:Heap} {β:Map} {w w':World} {X:Nat→Prop}
theorem Keep.toGoes (hV:∀b,¬F.V b) (H0:HOK F.X F.h0 F.β0 F.w0) (H:HOK X h β w) (K:Keep F h β w) (nd:∀k,F.h0 k≠some .dead):Goes X F.w0 F.h0 F.β0 w h β where
 size:=K.size
 keep b hb hn:=K.keep b hb (hV b) hn
 own:=K.own
 bs:=K.bs
 key k e he:=by
  refine .inr ?_
  have h1:=K.knd k e he
  cases e with
  |dead=>exact absurd he (nd k)
  |box cs0=>
   obtain⟨cs',h2⟩:=h1
   refine⟨⟨_,h2⟩,fun b n hm=>?_⟩
   obtain⟨n',hn',hm'⟩:=K.pas k b n hm
   obtain⟨b2,_,_,e2,_⟩:=H.ent k _ h2
   obtain⟨b1,_,_,e1,_⟩:=H0.ent k _ he
   rw[e1]at hm
   rw[e2]at hm'⊢
   simp at hm hm'⊢
   exact⟨hm'.1,hm.2⟩
  |arr sz xs sl=>
   obtain⟨xs',sl',h2,h3⟩:=h1
   exact⟨⟨xs',sl',h2,h3⟩,fun b n hm=>K.pas k b n hm⟩
 hok:=H
 os:=K.os
 tape:=K.tape
 output:=K.output
theorem Keep.turn (K:Keep F h β w) (H:HOK X h β w) (hs:w'.heap.size=w.heap.size) (hk:∀b,b<w.heap.size→¬X b→w'.heap[b]? =w.heap[b]?) (hl:∀b,b<F.w0.heap.size→w'.heap[b]? =w.heap[b]?) (o1:w'.os=w.os) (o2:w'.tape=w.tape) (o3:w'.output=w.output):Keep F h β w':=
 ⟨K.knd,by rw[hs];exact K.size,fun b hb hi hn=>by rw[hl b hb];exact K.keep b hb hi hn,K.own,K.pas,fun k b n hm=>by
  rw[←K.bs k b n hm]
  obtain⟨n',_,hm'⟩:=K.pas k b n hm
  unfold bsize World.shape?
  rw[hk b (H.lt b (.inr ⟨k,n',hm'⟩)) (H.free k b n' hm')],o1.trans K.os,o2.trans K.tape,o3.trans K.output⟩
theorem Keep.restr (K:Keep F h β w) (Ks:List Nat) (hK:∀k,k∈K0→k∈Ks):Keep F (lookE (restrH Ks h)) (βr Ks β) w:=by
 refine⟨fun k e he=>?_,K.size,K.keep,fun k b n hm=>K.own k b n (βr_mem hm).2,fun k b n hm=>?_,K.bs,K.os,K.tape,K.output⟩
 ·have hk:=hK k (F.hh k e he)
  have h1:=K.knd k e he
  have hr:∀e',h k=some e'→lookE (restrH Ks h) k=some (frzE Ks h e'):=fun e' h2=>by rw[lookE_restrH,if_pos hk,h2];rfl
  cases e with
  |dead=>exact h1
  |box cs=>obtain⟨cs',h2⟩:=h1;exact⟨_,hr _ h2⟩
  |arr sz xs sl=>obtain⟨xs',sl',h2,h3⟩:=h1;obtain⟨xs2,fl2,h4,h5⟩:=frzE_arr Ks h sz xs' sl';exact⟨xs2,fl2,(hr _ h2).trans (by rw[h4]),by rw[h5];exact h3⟩
 ·rw[βr_in (hK k (F.hK k b n hm))]
  exact K.pas k b n hm
end
def setTm (ps:List Nat) (ys:List AV) (T:List (Nat×AV)):List (Nat×AV):=(ps.zip ys).foldl (fun tm p=>p::tm) T
theorem setTm_rep {w:World} {D:Nat→Prop} {h:Heap} {β:Map}:∀(ps:List Nat) (ys:List AV) (cs:List Value) (T:List (Nat×AV)) (tmps:Array Value),ys.length=cs.length→(∀(j:Nat) v c,ys[j]? =some v→cs[j]? =some c→RepV w D h β v c)→(∀p,p∈ps→p<tmps.size)→
  (∀t,RepV w D h β (look T t) (tmps.getD t undef))→∀t,RepV w D h β (look (setTm ps ys T) t) (((ps.zip cs).foldl (fun tmps (p:Nat×Value)=>tmps.setIfInBounds p.1 p.2) tmps).getD t undef)
 | [],ys,cs,T,tmps,_,_,_,h,t=>h t
 |p::ps,[],cs,T,tmps,hl,_,_,h,t=>by
  obtain rfl:cs=[]:=List.eq_nil_of_length_eq_zero hl.symm
  exact h t
 |p::ps,y::ys,[],T,tmps,hl,_,_,h,t=>by simp at hl
 | p::ps,y::ys,c::cs,T,tmps,hl,hr,hp,h,t=>by
  have hps:=hp p (by simp)
  refine setTm_rep ps ys cs ((p,y)::T) (tmps.setIfInBounds p c) (by simpa using hl) (fun j v c' h1 h2=>hr (j+1) v c' (by simpa using h1) (by simpa using h2)) (fun q hq=>by simpa using hp q (by simp[hq])) (fun s=>?_) t
  rw[look_cons]
  by_cases hs:s=p
  ·subst hs
   rw[if_pos rfl]
   have e:(tmps.setIfInBounds s c).getD s undef=c:=by simp[Array.getD_eq_getD_getElem?,hps]
   rw[e]
   exact hr 0 y c rfl rfl
  ·rw[if_neg hs]
   have e:(tmps.setIfInBounds p c).getD s undef=tmps.getD s undef:=by simp[Array.getD_eq_getD_getElem?,Array.getElem?_setIfInBounds_ne (Ne.symm hs)]
   rw[e]
   exact h s
end
end Av
end Go.Proofs.YtaikgchmpieooaaGreat
