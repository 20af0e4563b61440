/- Part 8. -/
import Derived.Test.YtmamjhmoegjapaaGreatQ07
import Derived.RangeFuncIn
import Derived.RangeFuncSeq
import Derived.RangeFuncLeaves
namespace Go.Proofs.YtmamjhmoegjapaaGreat
namespace Av
set_option linter.all false
def zS8 (v:AV) (k:AV->Prop):Prop:=match v with
 | .s v=>k (.s v)
 | .ptr j i o=>k (.ptr j i o)
 | .agg cs=>k (.agg cs)
 | .sl b xs=>k (.sl b xs)
 | .slc b xs=>k (.slc b xs)
 | .ref j o n=>k (.ref j o n)
 | .fp xs i o=>k (.fp xs i o)
 | .fn f cs=>k (.fn f cs)
 | .tup vs=>k (.tup vs)
 | .bot=>k .bot
 | .gh n=>k (.gh n)
theorem zBw (v:AV) (k:AV->Prop):zS8 v k=k v:=by cases v<;>rfl
def DD:List AV->(List AV->Prop)->Prop
 | [],k=>k []
 |x::r,k=>zS8 x λx=>DD r λr=>k (x::r)
theorem PY:∀(l:List AV) (k:List AV->Prop),DD l k=k l
 | [],_=>rfl
 |x::r,k=>by rw[DD,zBw,PY r]
def fL (K:List Nat) (h:yH) (tm:List (Nat×AV)):List Nat->(List (Nat×AV)->Prop)->Prop
 | [],k=>k []
 |t::ts,k=>zS8 (wN K h (zG tm t)) λv=>fL K h tm ts λr=>k ((t,v)::r)
theorem gN (K:List Nat) (h:yH) (tm:List (Nat×AV)):∀(ts:List Nat) (k:List (Nat×AV)->Prop),fL K h tm ts k=k (ts.map λt=>(t,wN K h (zG tm t)))
 | [],_=>rfl
 |t::ts,k=>by rw[fL,zBw,gN K h tm ts];rfl
def fD (K:List Nat) (h:yH):List Nat->(List (Nat×xN)->Prop)->Prop
 | [],k=>k []
 |j::Ks,k=>match h j with
  |none=>fD K h Ks k
  |some (.box cs)=>DD (uO K h cs) λcs=>fD K h Ks λr=>k ((j,.box cs)::r)
  |some (.arr sz xs st)=>bif st.nest then DD (uO K h xs) λxs=>(bif wC xs then fD K h Ks λr=>k ((j,.arr sz xs ⟨st.stale,false⟩)::r)else fD K h Ks λr=>k ((j,.arr sz xs ⟨st.stale,true⟩)::r))else fD K h Ks λr=>k ((j,.arr sz xs st)::r)
  |some .dead=>fD K h Ks λr=>k ((j,.dead)::r)
theorem qW (K:List Nat) (h:yH):∀(Ks:List Nat) (k:List (Nat×xN)->Prop),fD K h Ks k=k (Ks.filterMap λj=>(h j).map λe=>(j,qR K h e))
 | [],_=>rfl
 | j ::Ks,k=>by
  rw[fD,List.filterMap_cons]
  cases h j with
  |none=>exact qW K h Ks k
  | some e=>
   cases e with
   |box cs=>dsimp only[Option.map_some];rw[PY,qW K h Ks];rfl
   | arr sz xs st=>
    dsimp only[Option.map_some]
    cases hn:st.nest with
    |false=>
     have e:qR K h (.arr sz xs st)= .arr sz xs st:=by simp only[qR,hn,zY8]
     rw[e];simp only[zY8];rw[qW K h Ks]
    |true=>
     have e:qR K h (.arr sz xs st)= .arr sz (uO K h xs) ⟨st.stale,!wC (uO K h xs)⟩:=by simp only[qR,hn,zYk]
     rw[e];simp only[zYk];rw[PY]
     cases hk:wC (uO K h xs)with
     |true=>simp only[zYk,yB8];rw[qW K h Ks]
     |false=>simp only[zY8,yB5];rw[qW K h Ks]
   |dead=>dsimp only[Option.map_some];rw[qW K h Ks];rfl
section
variable {P:Program} {K0:List Nat} {F:Fr K0} {m:Nat} {Q:Exit->St->Prop} {st:St} {c:Code}
def XS (Q:Exit->St->Prop) (I:St->Prop):Exit->St->Prop
 | .normal,s=>I s
 |e,s=>Q e s
theorem xT (N:Nat) (K Ks ts ds:List Nat) (hK:K0.all (K.contains ·)=true) (I:Nat->List (Nat×AV)->List (Nat×xN)->St->Prop)
  (h:fL K (zC st.h) st.tm ts λT=>fD K (zC st.h) Ks λU=>I 0 T U (restr K ds st)/\(∀i s,i<N->I i T U s->uC P F m c s (XS Q λs=>I (i+1) T U (restr K ds s)))/\
   ∀s,I N T U s->uC P F m c s (XS Q λ_=>False)):uC P F m (.loop c) st Q:=by
 rw[gN,qW]at h;generalize (ts.map _)=T at h;generalize (Ks.filterMap _)=U at h;obtain⟨h0,h1,h2⟩:=h;refine wV (λn s=>∃i,n+i=N/\I i T U s) N K ds hK ⟨0,rfl,h0⟩ λn s ⟨i,hi,hs⟩=>?_
 by_cases hlt:i<N
 ·refine(h1 i s hlt hs).mono λe s' hq=>?_
  cases e with
  |normal=>exact⟨n-1,by omega,i+1,by omega,hq⟩
  |_=>exact hq
 ·obtain rfl:i=N:=by omega
  refine(h2 s hs).mono λe s' hq=>?_
  cases e with
  |normal=>exact hq.elim
  |_=>exact hq
theorem zP (N:Nat) (K Ks ts ds:List Nat) (hK:K0.all (K.contains ·)=true) (S:Nat->List (Nat×AV)->List (Nat×xN)->St)
  (h:fL K (zC st.h) st.tm ts λT=>fD K (zC st.h) Ks λU=>restr K ds st=S 0 T U/\(∀i,i<N->uC P F m c (S i T U) (XS Q λs=>restr K ds s=S (i+1) T U))/\
   uC P F m c (S N T U) (XS Q λ_=>False)):uC P F m (.loop c) st Q:=by
 refine xT N K Ks ts ds hK (λi T U s=>s=S i T U) ?_;rw[gN,qW]at h⊢;obtain⟨h0,h1,h2⟩:=h;exact⟨h0,λi s hi hs=>hs▸h1 i hi,λs hs=>hs▸h2⟩
theorem fW (N:Nat) (K Ks ts ds:List Nat) (hK:K0.all (K.contains ·)=true) (I:Nat->List (Nat×AV)->List (Nat×xN)->St->Prop)
  (h:fL K (zC st.h) st.tm ts λT=>fD K (zC st.h) Ks λU=>I N T U (restr K ds st)/\∀n s,I n T U s->uC P F m c s (XS Q λs=>∃n',n'<n/\I n' T U (restr K ds s))):uC P F m (.loop c) st Q:=by
 rw[gN,qW]at h;generalize (ts.map _)=T at h;generalize (Ks.filterMap _)=U at h;obtain⟨h0,h1⟩:=h;refine wV (λn s=>I n T U s) N K ds hK h0 λn s hs=>(h1 n s hs).mono λe s' hq=>?_
 cases e with
 |normal=>exact hq
 |_=>exact hq
theorem yB {α:Type} (l:List α) (K Ks ts ds:List Nat) (hK:K0.all (K.contains ·)=true) (S:Nat->List α->List (Nat×AV)->List (Nat×xN)->St)
  (h:fL K (zC st.h) st.tm ts λT=>fD K (zC st.h) Ks λU=>restr K ds st=S 0 [] T U/\
   (∀i pre x post,l=pre++x::post->pre.length=i->uC P F m c (S i pre T U) (XS Q λs=>restr K ds s=S (i+1) (pre++[x]) T U))/\
   uC P F m c (S l.length l T U) (XS Q λ_=>False)):uC P F m (.loop c) st Q:=by
 refine zP l.length K Ks ts ds hK (λi T U=>S i (l.take i) T U) ?_;rw[gN,qW]at h⊢;obtain⟨h0,h1,h2⟩:=h;refine⟨by simpa using h0,λi hi=>?_,by simpa using h2⟩;have:=h1 i (l.take i) l[i] (l.drop (i+1)) zP1 wQ;rw[yB2 hi]at this;exact this
theorem kJ {α:Type} (l:List α) (K Ks ts ds:List Nat) (hK:K0.all (K.contains ·)=true) (I:Nat->List α->List (Nat×AV)->List (Nat×xN)->St->Prop)
  (h:fL K (zC st.h) st.tm ts λT=>fD K (zC st.h) Ks λU=>I 0 [] T U (restr K ds st)/\
   (∀i pre x post s,l=pre++x::post->pre.length=i->I i pre T U s->uC P F m c s (XS Q λs=>I (i+1) (pre++[x]) T U (restr K ds s)))/\
   ∀s,I l.length l T U s->uC P F m c s (XS Q λ_=>False)):uC P F m (.loop c) st Q:=by
 refine xT l.length K Ks ts ds hK (λi T U s=>I i (l.take i) T U s) ?_;rw[gN,qW]at h⊢;obtain⟨h0,h1,h2⟩:=h;refine⟨by simpa using h0,λi s hi hs=>?_,λs hs=>h2 s (by simpa using hs)⟩;have:=h1 i (l.take i) l[i] (l.drop (i+1)) s zP1 wQ hs;rw[yB2 hi]at this;exact this
end
section
variable {α:Type} {l pre post:List α} {x:α} {i:Nat}
theorem yF (h:l=pre++x::post) (hi:pre.length=i):i<l.length:=by subst h;simp;omega
theorem yP {β:Type} (f:α->β) (h:l=pre++x::post) (hi:pre.length=i):(l.map f)[i]? =some (f x):=by subst h;subst hi;simp
theorem xV (h:l=pre++x::post):x∈l:=by subst h;simp
theorem zA {β:Type} (f:α->β) (l:List α):(l.map f).length=l.length:=by simp
theorem xH {n:Nat} (f:α->AV) (l:List α) (h:∀x,(f x).cells.length=n):∀y,(l.map f)[0]? =some y->y.cells.length=n:=λy hy=>by
 rw[zXd,zXn]at hy;obtain⟨x,_,rfl⟩:=hy;exact h x
end
def zS9 (TT:List TI) (tm:List (Nat×AV)):Op->Option (List AV)
 | .buildSlice T len ps=>match TT[T]? with
  | some ti=>match ti.d with
   | .slice e=>match TT[e]? with
    |some te=>bif dP 0 (ps.toList.map (·.1))&&(Nat.beq ps.toList.length len&&(Nat.ble 1 te.size&&(Nat.ble (len*te.size) 65536&&Nat.beq te.zero.length te.size)))then
     TZ (ps.toList.map λp=>yL (zG tm) p.2) λxs=>bif xs.all (λx=>Nat.beq x.cells.length te.size&&(x.ok&&x.nokey))then some xs else none else none
    |none=>none
   |_=>none
  |none=>none
 |_=>none
section
variable {P:Program} {TT:List TI} (hP:uL P TT) {tm:List (Nat×AV)} {h:List (Nat×xN)}
include hP in
theorem AX {op:Op} {xs:List AV} (he:zS9 TT tm op=some xs):wR P ⟨tm,h⟩ op (.sl true xs) [] [] []:=by
 unfold zS9 at he;split at he
 ·rename_i T len ps;split at he
  ·rename_i ti hT;split at he
   ·rename_i e hd;split at he
    ·rename_i te hte;rw[jT]at he
     cases hc:(dP 0 (ps.toList.map (·.1))&&(Nat.beq ps.toList.length len&&(Nat.ble 1 te.size&&(Nat.ble (len*te.size) 65536&&Nat.beq te.zero.length te.size))))with
     |false=>rw[hc]at he;cases he
     | true=>
      rw[hc]at he;simp only[zYk]at he;generalize hxs:(ps.toList.map λp=>yL (zG tm) p.2)=ys at he
      cases hw:ys.all (λx=>Nat.beq x.cells.length te.size&&(x.ok&&x.nokey))with
      |false=>simp[hw]at he
      | true=>
       simp only[hw,zYk,zYj]at he;subst he;simp only[zXo]at hc;obtain⟨c1,c2,c3,c4,c5⟩:=hc;refine SD hP hT hd hte c3 ?_ (by rw[<-hxs];simpa using c2) hw c4 c5;rw[<-hxs];apply zYp;intro j;simp only[bL,zXd,yBt,zYe]
       cases hj:ps.toList[j]? with
       |none=>simp
       |some p=>
        have:=XJ _ 0 c1 j p.1 (by simp[hj]);simp[this]
    ·cases he
   ·cases he
  ·cases he
 ·cases he
end
theorem wR.wkS {P:Program} {st:St} {op:Op} {xs:List AV} {d:List (Nat×xN)} {r nw:List Nat} (hs:wR P st op (.sl true xs) d r nw):wR P st op (.sl false xs) d r nw:=
 ⟨λX tm h h1 h2 h3 o a w β ho HH Ht=>by
  have:=hs.run X tm h h1 h2 h3 o a w β ho HH Ht;unfold bN at this⊢;split at this
  ·obtain⟨β',G,hv⟩:=this;exact⟨β',G,hv.wk⟩
  ·obtain⟨β',G,hv⟩:=this;exact⟨β',G,hv.wk⟩
  ·exact this.mono λe w' ⟨c,he,β',G,hv⟩=>⟨c,he,β',G,hv.wk⟩
  ·exact this.elim⟩
def zTa (y:AV) (off:Nat) (cs:List AV):Option AV:=match y with
 | .agg ds=>TZ (VH ds off cs) λl=>some (.agg l)
 |_=>match cs with
  | [v]=>frc v some
  |_=>none
theorem zOf {y:AV} {off:Nat} {cs:List AV} {v:AV} (h:zTa y off cs=some v):JO y off cs=v:=by
  unfold zTa at h;unfold JO
  cases y<;>first
    |(dsimp only at h⊢;rw[jT]at h;exact zZr h)
    | (dsimp only at h⊢
       split at h
       · rw[aW]at h;exact zZr h
       · cases h)
section
variable {P:Program} {TT:List TI} {K0:List Nat} {F:Fr K0} {m:Nat} {ops:Array Oper} {rest:List Oper} {Q:List FP->St->Prop} {tm:List (Nat×AV)} {h:List (Nat×xN)} {dr:Bool} {fs:List FP}
variable {ty:Nat} {pos:String} {after:Array Edge} {t:Nat}
theorem yT {T len:Nat} {ps:Array (Nat×Operand)} {st:St} (hk:zZ P F m ops dr (⟨some t,.buildSlice T len ps,ty,pos,after,none⟩::rest) st fs Q):zZ P F m ops dr (⟨some t,.buildSlice T len ps,ty,pos,after,none⟩::rest) st fs Q:=hk
theorem gO {T:Nat} {x y:Operand} {st:St} (hk:zZ P F m ops dr (⟨some t,.makeSlice T x y,ty,pos,after,none⟩::rest) st fs Q):zZ P F m ops dr (⟨some t,.makeSlice T x y,ty,pos,after,none⟩::rest) st fs Q:=hk
theorem AY {x:Operand} {st:St} (hk:zZ P F m ops dr (⟨some t,.nilCheck x,ty,pos,after,none⟩::rest) st fs Q):zZ P F m ops dr (⟨some t,.nilCheck x,ty,pos,after,none⟩::rest) st fs Q:=hk
theorem ZE {x:Nat} {asq:Array Operand} {ts:Array Nat} {st:St} (hk:zZ P F m ops dr (⟨some t,.call ⟨.value (.tmp x),asq,ts⟩,ty,pos,after,none⟩::rest) st fs Q):zZ P F m ops dr (⟨some t,.call ⟨.value (.tmp x),asq,ts⟩,ty,pos,after,none⟩::rest) st fs Q:=hk
theorem qX (hP:uL P TT) {op:Op} {xs:List AV} (he:zS9 TT tm op=some xs) (hm:Nat.blt t m=true) (hk:zZ P F m ops dr rest ⟨(t,.sl false xs)::tm,h⟩ (⟨true,[],[]⟩::fs) Q):
 zZ P F m ops dr (⟨some t,op,ty,pos,after,none⟩::rest) ⟨tm,h⟩ fs Q:=xK (AX hP he).wkS hm hk
theorem MX (hP:uL P TT) {T e:Nat} {s x:Operand} {ti te:TI} {xv:AV} {ys:List AV} (hs:yL (zG tm) s= .s (.slice none 0 0)) (hx:yL (zG tm) x=xv) (hT:TT[T]? =some ti) (hd:ti.d= .slice e) (he:TT[e]? =some te)
  (hys:CF (zC h) xv=some ys) (hsz:∀y,ys[0]? =some y->y.cells.length=te.size) (hp:Nat.ble 1 te.size=true) (hb:Nat.ble te.bytes 65536=true) (hz:Nat.beq te.zero.length te.size=true) (hn:ys.length<=1073741824) (hm:Nat.blt t m=true)
  (hk:zZ P F m ops dr rest ⟨(t,.sl false ys)::tm,h⟩ (⟨true,[],PM xv⟩::fs) Q):zZ P F m ops dr (⟨some t,.call ⟨.builtin .append, #[s,x], #[T,T]⟩,ty,pos,after,none⟩::rest) ⟨tm,h⟩ fs Q:=
 xK (SF hP hs hx hT hd he hys hsz hp hb hz hn) hm hk
theorem jI (kn:Nat) (hP:uL P TT) {T e:Nat} {s x:Operand} {ti te:TI} {xv:AV} {ys:List AV} (hs:yL (zG tm) s= .s (.slice none 0 0)) (hx:yL (zG tm) x=xv) (hT:TT[T]? =some ti) (hd:ti.d= .slice e) (he:TT[e]? =some te)
  (hys:CF (zC h) xv=some ys) (hsz:∀y,ys[0]? =some y->y.cells.length=te.size) (hp:Nat.ble 1 te.size=true) (hb:Nat.ble te.bytes 65536=true) (hz:Nat.beq te.zero.length te.size=true) (hn:ys.length<=1073741824) (hm:Nat.blt t m=true) (hnn:(zC h kn).isNone=true)
  {sz:Nat} (hse:te.size=sz) (hk:zZ P F m ops dr rest ⟨(t,.ref kn 0 ys.length)::tm,(kn,.arr sz ys false)::h⟩ (⟨true,[kn,kn],PM xv⟩::fs) Q) (hz1:te.zero.all (·.oneCell')=true:=by rfl):zZ P F m ops dr (⟨some t,.call ⟨.builtin .append, #[s,x], #[T,T]⟩,ty,pos,after,none⟩::rest) ⟨tm,h⟩ fs Q:=by
 subst hse;exact uG (nw:=[kn]) (PN hP kn hs hx hT hd he hys hsz hp hb hz hz1 hn) hm (zDn hnn) rfl hk
theorem wO (hP:uL P TT) {T e:Nat} {s x:Operand} {ti te:TI} {k sz:Nat} {sb:Bool} {xv:AV} {ys:List AV} (hs:yL (zG tm) s= .ref k 0 0) (hk:zC h k=some (.arr sz [] ⟨sb,false⟩)) (hx:yL (zG tm) x=xv) (hT:TT[T]? =some ti) (hd:ti.d= .slice e) (he:TT[e]? =some te)
  (hys:CF (zC h) xv=some ys) (hsz:∀y,ys[0]? =some y->y.cells.length=sz) (hss:Nat.beq sz te.size=true) (hb:Nat.ble te.bytes 65536=true) (hz:Nat.beq te.zero.length te.size=true) (hn:ys.length<=1073741824) (hm:Nat.blt t m=true)
  (hq:zZ P F m ops dr rest ⟨(t,.ref k 0 ys.length)::tm,(k,.arr sz ys false)::h⟩ (⟨true,[k],k::PM xv⟩::fs) Q) (hz1:te.zero.all (·.oneCell')=true:=by rfl):zZ P F m ops dr (⟨some t,.call ⟨.builtin .append, #[s,x], #[T,T]⟩,ty,pos,after,none⟩::rest) ⟨tm,h⟩ fs Q:=
 uG (nw:=[]) (vY (xs:=[]) false false hP hs hk hx hT hd he (λ_=>rfl) hys hsz hss hb hz hz1 EP (λ_=>rfl)) hm rfl rfl hq
theorem uS (hP:uL P TT) {T e:Nat} {s x:Operand} {ti te:TI} {k sz:Nat} {sl:Fl} {xv:AV} {ys:List AV} (hs:yL (zG tm) s= .ref k 0 0) (hk:zC h k=some (.arr sz [] sl)) (hx:yL (zG tm) x=xv) (hT:TT[T]? =some ti) (hd:ti.d= .slice e) (he:TT[e]? =some te)
  (hys:VG true (zC h) xv=some ys) (hsz:∀y,ys[0]? =some y->y.cells.length=sz) (hss:Nat.beq sz te.size=true) (hb:Nat.ble te.bytes 65536=true) (hz:Nat.beq te.zero.length te.size=true) (hn:ys.length<=1073741824) (hm:Nat.blt t m=true)
  (hq:zZ P F m ops dr rest ⟨(t,.ref k 0 ys.length)::tm,(k,.arr sz ys ⟨false,true⟩)::h⟩ (⟨true,[k],k::PM xv⟩::fs) Q) (hz1:te.zero.all (·.oneCell')=true:=by rfl):zZ P F m ops dr (⟨some t,.call ⟨.builtin .append, #[s,x], #[T,T]⟩,ty,pos,after,none⟩::rest) ⟨tm,h⟩ fs Q:=
 uG (nw:=[]) (vY (xs:=[]) false true hP hs hk hx hT hd he (λh=>by cases h) hys hsz hss hb hz hz1 EP (λ_=>rfl)) hm rfl rfl hq
theorem AZ (hP:uL P TT) {T:Nat} {p x:Operand} {k i off sz:Nat} {xs:List AV} {y v y':AV} {ti:TI} {nest:Bool} (hp:yL (zG tm) p= .ptr k i off) (hx:yL (zG tm) x=v) (hk:zC h k=some (.arr sz xs ⟨false,nest⟩)) (hy:xs[i]? =some y) (hT:TT[T]? =some ti)
  (h1:v.ok=true) (h2:Nat.beq v.cells.length ti.size=true) (h3:Nat.ble (off+ti.size) y.cells.length=true) (h4:(nest||v.nokey)=true) (h5:Nat.ble 1 ti.size=true) (h6:v.cells.all (λv=>!v.isAgg)=true) (he:zTa y off v.cells=some y')
  (hq:zZ P F m ops dr rest ⟨tm,(k,.arr sz (xs.set i y') ⟨false,nest⟩)::h⟩ (⟨true,[k],[k]⟩::fs) Q):zZ P F m ops dr (⟨none,.store T p x,ty,pos,after,none⟩::rest) ⟨tm,h⟩ fs Q:=by
 have hs:=YP (st:=⟨tm,h⟩) hP hp hx hk hy hT h1 h2 h3 h4 h5 h6;rw[zOf he]at hs;exact x_s (nw:=[]) hs rfl rfl hq
theorem zTb (hP:uL P TT) {T:Nat} {p x:Operand} {k i sz:Nat} {xs ds cs:List AV} {ti:TI} {nest:Bool} (hp:yL (zG tm) p= .ptr k i 0) (hx:yL (zG tm) x= .agg cs) (hk:zC h k=some (.arr sz xs ⟨false,nest⟩)) (hy:xs[i]? =some (.agg ds)) (hT:TT[T]? =some ti)
  (h2:Nat.beq cs.length ti.size=true) (h3:Nat.beq ti.size ds.length=true) (h4:(nest||(AV.agg cs).nokey)=true) (h5:Nat.ble 1 ti.size=true) (h6:cs.all (λv=>!v.isAgg)=true)
  (hq:zZ P F m ops dr rest ⟨tm,(k,.arr sz (xs.set i (.agg cs)) ⟨false,nest⟩)::h⟩ (⟨true,[k],[k]⟩::fs) Q):zZ P F m ops dr (⟨none,.store T p x,ty,pos,after,none⟩::rest) ⟨tm,h⟩ fs Q:=by
 have e2:=zX4 h2;have e3:=zX4 h3;have hs:=YP (st:=⟨tm,h⟩) hP hp hx hk hy hT rfl (by simpa [AV.cells]using h2) (yBq (by simp[AV.cells];omega)) h4 h5 h6
 have:JO (.agg ds) 0 (AV.agg cs).cells= .agg cs:=by
  unfold JO AV.cells;dsimp only
  congr 1
  apply zYp;intro j;rw[ZX _ _ _ _ (by omega)];split
  ·rfl
  ·rw[zX0 (by omega),zX0 (by omega)]
 rw[this]at hs;exact x_s (nw:=[]) hs rfl rfl hq
theorem wH.nsplit {a:Act} {w:World} (H:wH F m ⟨tm,h⟩ a w) {t:Nat} {xs:List AV} (hv:zG tm t= .sl false xs):(∃cap,xs=[]/\wH F m ⟨(t,.s (.slice none 0 cap))::tm,h⟩ a w)∨wH F m ⟨(t,.sl true xs)::tm,h⟩ a w:=by
 obtain⟨⟨X,β,hX,HH,Ht,KK,hJ,hD⟩,nd,gs,hl⟩:=H
 have key:∀v,(∀i,v≠ .gh i)->zV w (xF X β) (zC h) β v (a.eval (.tmp t))->wH F m ⟨(t,v)::tm,h⟩ a w:=λv hg hv=>by
  refine⟨⟨X,β,hX,HH,λj=>?_,KK,λi hi=>?_,hD⟩,nd,gs,hl⟩
  ·rw[yN];split
   ·rename_i hj;subst hj;exact hv
   ·exact Ht j
  ·rw[yN]at hi;split at hi
   ·exact absurd hi (hg i)
   ·exact hJ i hi
 have h0:=Ht t;dsimp only at h0;rw[hv]at h0;generalize hc:a.eval (.tmp t)=c at*
 cases h0 with
 | fz _ _ hf=>
  cases hf with
  |nil b cap=>
   cases b with
   |none=>exact .inl ⟨cap,rfl,key _ (λ_ h=>by cases h) (.fz _ _ (.s _))⟩
   |some b=>exact .inr (key _ (λ_ h=>by cases h) (.fz _ _ (.nil1 b cap)))
  |sl _ _ b o sz cap f hx hL hcc hh=>exact .inr (key _ (λ_ h=>by cases h) (.fz _ _ (.sl true _ b o sz cap f hx hL hcc hh)))
theorem yY {c:Code} {Q:Exit->St->Prop} (t:Nat) {xs:List AV} (hv:zG tm t= .sl false xs) (h1:∀cap,xs=[]->uC P F m c ⟨(t,.s (.slice none 0 cap))::tm,h⟩ Q) (h2:uC P F m c ⟨(t,.sl true xs)::tm,h⟩ Q):uC P F m c ⟨tm,h⟩ Q:=
 ⟨λa w H=>by
  rcases H.nsplit hv with⟨cap,hx,H1⟩|H2
  ·exact(h1 cap hx).run a w H1
  ·exact h2.run a w H2⟩
end
section
variable {P:Program} {K0:List Nat} {F:Fr K0} {m:Nat} {tm:List (Nat×AV)} {h:List (Nat×xN)}
theorem zAa {X:Nat->Prop} {h:yH} {β:uB} {w:World} (H:kI X h β w) {K:Nat} (hK:h K=none) {sz:Nat} (hp:1<=sz):xM X w h β w (over [(K,.arr sz [] false)] h) (cD β K []):=
 xM.step H K _ _ (zXc _) (λ_ _ _=>rfl) rfl rfl rfl (λb n hm=>by simp at hm) (λ_ _ _=>rfl) (λe he=>by rw[hK]at he;cases he) (λE=>⟨hp,by simp,λh=>absurd rfl h,λi y hy=>by simp at hy,
  λb n r hr=>by rw[zW]at hr;simp at hr,λ_ _=>undef,λi y j v hy _=>by simp at hy,λi j hi _=>by simp at hi,λb n hm=>by rw[zW]at hm;simp at hm⟩)
theorem wH.virtF {a:Act} {w:World} (H:wH F m ⟨tm,h⟩ a w) (t K sz:Nat) {cap:Nat} (hv:zG tm t= .s (.slice none 0 0)) (hK:(zC h K).isNone=true) (hp:Nat.ble 1 sz=true):wH F m ⟨(t,.ref K 0 0)::tm,(K,.arr sz [] false)::h⟩ a w:=by
 obtain⟨⟨X,β,hX,HH,Ht,KK,hJ,hD⟩,nd,gs,hl⟩:=H;have hk:zC h K=none:=by simpa using hK
 have G:=zAa HH hk (zXq hp);have nd':∀k,over [(K,.arr sz [] false)] (zC h) k≠some .dead:=fC rfl nd
 have R:YF F m (zG ((t,.ref K 0 0)::tm)) (over [(K,.arr sz [] false)] (zC h)) a w:=by
  refine⟨⟨X,_,hX,G.hok,λj=>?_,KK.goes G nd' (G.lives HH nd'),λi hi=>?_,hD.goes HH G⟩,nd',gs,hl⟩
  ·rw[yN];split
   ·rename_i hj;subst hj;have:=Ht j;rw[hv]at this;rw[this.s_inv];exact .ref0 K 0 sz [] false none (qH _ _ _) (zXc _)
   ·exact(Ht j).evo G.evo
  ·rw[yN]at hi;split at hi
   ·cases hi
   ·exact F.go G (hJ i hi)
 unfold wH;dsimp only;rw[show zC ((K,.arr sz [] false)::h)=over [(K,.arr sz [] false)] (zC h)from wU [(K,.arr sz [] false)] h];exact R
theorem uF {c:Code} {Q:Exit->St->Prop} (t K sz:Nat) (hv:zG tm t= .s (.slice none 0 0)) (hK:(zC h K).isNone=true) (hp:Nat.ble 1 sz=true) (hk:uC P F m c ⟨(t,.ref K 0 0)::tm,(K,.arr sz [] false)::h⟩ Q):uC P F m c ⟨tm,h⟩ Q:=
 ⟨λa w H=>hk.run a w (H.virtF (cap:=0) t K sz hv hK hp)⟩
end
structure bT (X X':Nat->Prop) (W W':World):Prop where
 size:W.heap.size<=W'.heap.size
 fz:∀b,b<W.heap.size->¬X b->W'.heap[b]? =W.heap[b]? /\¬X' b
 sup:∀b,X b->X' b
 lt:∀b,X' b->b<W'.heap.size
 os:W'.os=W.os
 tape:W'.tape=W.tape
 output:W'.output=W.output
def YOK {K0:List Nat} (P:Program) (F:Fr K0) (l:Nat) (xs:List (List AV)):Prop:=
 ∀(i:Nat) (ys:List AV) (X O:Nat->Prop) (W:World) (cs:Array Value),xs[i]? =some ys->F.J i O X W->cs.size=ys.length->(∀(j:Nat) v,ys[j]? =some v->xE W (λb=>X b∨O b) v (cs.getD j undef))->
  YieldAt Fence.wide 0 P l cs W λe W'=>(e= .returned (.bool true)/\∃X',bT X X' W W'/\F.J (i+1) O X' W')∨(e= .returned (.bool false)/\∃X',bT X X' W W'/\F.J (xs.length+1+i) O X' W')
section
variable {X X':Nat->Prop} {W W':World} {h:yH} {β:uB}
theorem bT.evo (H:kI X h β W) (q:bT X X' W W'):JP W (xF X β) h β W' (xF X' β) h β:=
 ⟨q.size,λb hb hd=>⟨(q.fz b hb λhx=>hd (.inl hx)).1,λh'=>h'.elim (q.fz b hb λhx=>hd (.inl hx)).2 λho=>hd (.inr ho)⟩,λk b n hm=>by
  unfold xX World.shape?
  rw[(q.fz b (H.lt b (.inr ⟨k,n,hm⟩)) (H.free k b n hm)).1],qS h β⟩
theorem bT.hok (H:kI X h β W) (q:bT X X' W W'):kI X' h β W':=
 ⟨λk e he=>(H.ent k e he).evo (q.evo H) rfl λb n hm=>(q.fz b (H.lt b (.inr ⟨k,n,hm⟩)) (H.free k b n hm)).1,H.off,H.disj,λk b n hm=>(q.fz b (H.lt b (.inr ⟨k,n,hm⟩)) (H.free k b n hm)).2,
  λb hd=>hd.elim (q.lt b) λho=>zYh (H.lt b (.inr ho)) q.size⟩
end
section
variable {P:Program} {K0:List Nat} {F:Fr K0} {m:Nat} {ops:Array Oper} {rest:List Oper} {tm:List (Nat×AV)} {h:List (Nat×xN)}
theorem YF.quiet {X X':Nat->Prop} {β:uB} {hh:yH} {t:Nat->AV} {a:Act} {W W':World} {j:Nat} (hit:F.it=true) (hV:∀b,F.X b->F.V b) (hX:XOK F X) (H:kI X hh β W) (Ht:∀s,zV W (xF X β) hh β (t s) (a.eval (.tmp s))) (KK:gA F hh β W) (hD:DOK X F a.defers W) (nd:∀k,hh k≠some .dead) (gs:m<=GS) (hl:a.tmps.size=m)
  (q:bT X X' W W') (hj:F.J j (Own β) X' W') (d:Nat) (hd:d<m) (b:Bool):YF F m (λs=>if s=GS then .gh j else if s=d then .s (.bool b)else t s) hh (a.put (some d) (.bool b)) W':=by
 have E:=q.evo H;refine⟨⟨X',β,⟨λc hc=>q.sup c (hX.1 c hc),λc hc=>?_⟩,q.hok H,λs=>?_,?_,λi hi=>?_,?_⟩,nd,gs,by simp[Act.put,hl]⟩
 ·by_cases hb:c<W.heap.size
  ·by_cases hxc:X c
   ·exact hX.2 c hxc
   ·exact absurd hc (q.fz c hb hxc).2
  ·exact .inr (zYg KK.size (Nat.le_of_not_lt hb))
 ·split
  ·exact .fz _ _ (.gh _ _)
  ·split
   ·rename_i hs;subst hs;have:s<a.tmps.size:=by rw[hl];exact hd
    have e:(a.put (some s) (.bool b)).eval (.tmp s)= .bool b:=by simp[Act.put,Act.eval,this]
    rw[e];exact .fz _ _ (.s _)
   ·rename_i hs;rw[Act.eval_put (λd' hd' e=>hs (by cases hd';injection e with e))];exact(Ht s).evo E
 ·exact⟨KK.knd,zYg KK.size q.size,λc hc hi hn=>by
   have h1:¬X c:=λhx=>(hX.2 c hx).elim (λh=>hi (hV c h)) λh=>by omega
   rw[(q.fz c (zYh hc KK.size) h1).1]
   exact KK.keep c hc hi hn,KK.own,KK.pas,λk c n hm=>by
   obtain⟨n',_,hm'⟩:=KK.pas k c n hm
   rw[E.bs k c n' hm',KK.bs k c n hm],q.os.trans KK.os,q.tape.trans KK.tape,q.output.trans KK.output⟩
 ·simp only[zW9 rfl]at hi;cases hi;exact hj
 ·obtain⟨bs,h1,h0,h2,h3⟩:=hD;have:=h0 hit;subst this;exact⟨[],h1,λ_=>rfl,h2,λb hb=>by simp at hb⟩
theorem zDv {xs:List (List AV)} {ys:List AV} {l i y t ty:Nat} {asq:Array Operand} {ats:Array Nat} {pos:String} {after:Array Edge} {Q:St->Prop} (hit:F.it=true/\∀b,F.X b->F.V b) (hY:YOK P F l xs) (hy:zG tm y= .s (.func (.yield l) #[] #[])) (hg:zG tm GS= .gh i) (hxs:xs[i]? =some ys)
  (hvs:asq.toList.map (yL (zG tm))=ys) (hnk:wC ys=true) (hm:Nat.blt t m=true)
  (h1:HG P F m ops rest ⟨(GS,.gh (i+1))::(t,.s (.bool true))::tm,h⟩ Q) (h2:HG P F m ops rest ⟨(GS,.gh (xs.length+1+i))::(t,.s (.bool false))::tm,h⟩ Q):
  HG P F m ops (⟨some t,.call ⟨.value (.tmp y),asq,ats⟩,ty,pos,after,none⟩::rest) ⟨tm,h⟩ Q:=λa w H=>by
 obtain⟨⟨X,β,hX,HH,Ht,KK,hJ,hD⟩,nd,gs,hl⟩:=H;have hj:=hJ i hg
 have hyv:a.eval (.tmp y)= .func (.yield l) #[] #[]:=by
  have:=Ht y;dsimp only at this;rw[hy]at this;exact this.s_inv
 have hlen:asq.toList.length=ys.length:=by rw[<-hvs];simp
 obtain⟨fn,tmps,assign,body,hrun,hround⟩:=hY i ys X (Own β) w (asq.map a.eval) hxs hj (by simpa using hlen) (λj v hv=>by
  rw[<-hvs,zXd,zXn]at hv;obtain⟨x,hx,rfl⟩:=hv;have hx':asq[j]? =some x:=by simpa using hx
  have e:(asq.map a.eval).getD j undef=a.eval x:=by simp[zX5,hx']
  rw[e];have hv2:(ys[j]?)=some (yL (zG tm) x):=by rw[<-hvs];simp[hx]
  exact(RM Ht x).toF (kO hnk hv2))
 refine wpListIn_plain rfl λK hK=>⟨λ_ _=>trivial,?_⟩
 have he:((⟨some t,.call ⟨.value (.tmp y),asq,ats⟩,ty,pos,after,none⟩:Oper).semAt (MQ F.ro).round a.eval).run P w= .ok (.round l fn tmps assign body) w:=by
  rw[Oper.semAt_eq _ _ _ (λc hc=>by cases hc)];rw[<-hrun];simp[execOp,resolve,hyv,Deferred.ofValue,invoke]
 rw[he];refine⟨λhx=>by simp[MQ,Fence.wide]at hx,?_⟩;refine RoundIn.mono (F:=Fence.wide) hround ?_;rintro e W' (⟨rfl,X',q,hj'⟩|⟨rfl,X',q,hj'⟩)
 ·refine hK _ _ (h1 _ _ ?_);have R:=YF.quiet hit.1 hit.2 hX HH Ht KK hD nd gs hl q hj' t (zXq hm) true;unfold wH;refine R.congr (λs=>?_) (λ_=>rfl);rw[yN,yN]
 ·refine hK _ _ (h2 _ _ ?_);have R:=YF.quiet hit.1 hit.2 hX HH Ht KK hD nd gs hl q hj' t (zXq hm) false;unfold wH;refine R.congr (λs=>?_) (λ_=>rfl);rw[yN,yN]
theorem RO {xs:List (List AV)} {ys:List AV} {l i y t ty:Nat} {asq:Array Operand} {ats:Array Nat} {pos:String} {after:Array Edge} {fs:List FP} {Q:List FP->St->Prop} (hit:F.it=true/\∀b,F.X b->F.V b) (hY:YOK P F l xs) (hy:zG tm y= .s (.func (.yield l) #[] #[])) (hg:zG tm GS= .gh i) (hxs:xs[i]? =some ys)
 (hvs:asq.toList.map (yL (zG tm))=ys) (hnk:wC ys=true) (hm:Nat.blt t m=true)
 (h1:zZ P F m ops false rest ⟨(GS,.gh (i+1))::(t,.s (.bool true))::tm,h⟩ fs Q) (h2:zZ P F m ops false rest ⟨(GS,.gh (xs.length+1+i))::(t,.s (.bool false))::tm,h⟩ fs Q):
 zZ P F m ops false (⟨some t,.call ⟨.value (.tmp y),asq,ats⟩,ty,pos,after,none⟩::rest) ⟨tm,h⟩ fs Q:=⟨zDv hit hY hy hg hxs hvs hnk hm h1.run h2.run⟩
end
structure YA (P:Program) (f:Nat) (caps:List AV) (h0:List (Nat×xN)) (xs:List (List AV)):Prop where
 able:cR P f
 sim:∀(l:Nat) (cv:Array Value) (F:Fr (yD h0)),(F.it=true/\∀b,F.X b->F.V b)->F.ro=none->F.h0=zC h0->cv.size=caps.length->kI F.X (zC h0) F.β0 F.w0->(∀(i:Nat) v,caps[i]? =some v->zV F.w0 (xF F.X F.β0) (zC h0) F.β0 v (cv.getD i undef))->
  F.J 0 (Own F.β0) F.X F.w0->YOK P F l xs->Calls P f (#[.func (.yield l) #[] #[]]++cv) F.w0 λe w'=>(∃v,e= .returned v)/\∃i O X,F.J i O X w'/\(i=xs.length∨xs.length<i)
def zTc (n:Nat) (e:Exit) (st:St):Prop:=(e= .normal∨e= .ret)/\∃i,zG st.tm GS= .gh i/\(i=n∨n<i)
theorem cS {n i:Nat} {st:St} (h:zG st.tm GS= .gh i) (hi:i=n∨n<i):zTc n .ret st:=⟨.inr rfl,i,h,hi⟩
theorem ZF {n i:Nat} {st:St} (h:zG st.tm GS= .gh i) (hi:i=n∨n<i):zTc n .normal st:=⟨.inl rfl,i,h,hi⟩
theorem bP {P:Program} {f:Nat} {fn:Func} {body:Code} {caps:List AV} {h0:List (Nat×xN)} {xs:List (List AV)} (hf:P.funcs[f]? =some fn) (hb:fn.body=some body) (able:cR P f) (hlen:Nat.ble (caps.length+1) fn.ntmps=true) (hres:fn.results= #[])
  (hnd:vX h0=true) (h:∀(F:Fr (yD h0)) (l:Nat),F.ro=none->(F.it=true/\∀b,F.X b->F.V b)->YOK P F l xs->uC P F fn.ntmps body ⟨(GS,.gh 0)::VD 0 (.s (.func (.yield l) #[] #[])::caps),h0⟩ (zTc xs.length)) (hgs:Nat.ble fn.ntmps GS=true:=by rfl):YA P f caps h0 xs:=by
 refine⟨able,λl cv F hit hro hh0 hcl H hcaps hj hY=>(callsIn_wide (n:=0)).1 ?_⟩;have hlen:=zXq hlen;have hw:∀(c:Code) Q a w,c.wpIn (MQ F.ro) 0 P Q a w->c.wpIn Fence.wide 0 P Q a w:=λc Q a w h=>by rw[hro]at h;exact h
 refine callsIn_of_wp_marks (F:=Fence.wide) (n:=0) hf hb trivial (hw _ _ _ _ (Code.wpIn_mono (λe a' w1 q=>?_) ((h F l hro hit hY).run _ F.w0 ⟨⟨F.X,F.β0,⟨λ_ h=>h,λ_ h=> .inl h⟩,H,λt=>?_,⟨λk e he=>?_,zXc _,λ_ _ _ _=>rfl,λk b n hm=> .inl ⟨k,n,hm⟩,λk b n hm=>⟨n,zXc _,hm⟩,λ_ _ _ _=>rfl,rfl,rfl,rfl⟩,λi hi=>?_,[],rfl,λ_=>rfl,yCm,λb hb=>by simp at hb⟩,λk=>qD hnd,zXq hgs,?_⟩))) rfl
 ·obtain⟨st,⟨he,i,hi,hn⟩,⟨⟨X2,β2,_,_,_,_,hJ2,bs,hds,hbs,_⟩,_,_,_⟩⟩:=q;have hb0:=hbs hit.1;subst hb0
  have goal:LeavesInM Fence.wide 0 P fn a'.tmps (λe w'=>(∃v,e= .returned v)/\∃i O X,F.J i O X w'/\(i=xs.length∨xs.length<i)) a'.defers .returning w1:=by
   rw[hds];refine⟨.tuple #[],by simp[results,hres],⟨_,rfl⟩,i,_,_,hJ2 i hi,hn⟩
  rcases he with rfl|rfl
  ·exact goal
  ·exact goal
 ·dsimp only;rw[yN];split
  ·exact .fz _ _ (.gh _ _)
  ·rw [XL,zW9 (zXp _),yB4]
   cases t with
   | zero=>
    have e:Act.eval {tmps:= #[Value.func (.yield l) #[] #[]]++cv++Array.replicate (fn.ntmps-(#[Value.func (.yield l) #[] #[]]++cv).size) undef,defers:=[]} (.tmp 0)= .func (.yield l) #[] #[]:=by
     simp[Act.eval,zX5,Array.getElem?_append]
    rw[e];exact .fz _ _ (.s _)
   | succ t=>
    rw[List.getD_cons_succ];by_cases ht:t<caps.length
    ·have h2:caps[t]? =some (caps.getD t .bot):=by simp[List.getD,ht]
     have e:Act.eval {tmps:= #[Value.func (.yield l) #[] #[]]++cv++Array.replicate (fn.ntmps-(#[Value.func (.yield l) #[] #[]]++cv).size) undef,defers:=[]} (.tmp (t+1))=cv.getD t undef:=by
      simp only[Act.eval,zX5];rw[zZc wQ,yAx zS];simp
     rw[e];exact hcaps t _ h2
    ·have:caps.getD t .bot= .bot:=by simp[List.getD,zX0 (by omega:caps.length<=t)]
     rw[this];exact .fz _ _ (.bot _)
 ·rw[hh0]at he
  cases e with
  |dead=>exact absurd he (qD hnd)
  |box cs=>exact⟨cs,he⟩
  |arr sz xs sl=>exact⟨xs,sl,he,zXc _⟩
 ·dsimp only at hi;rw[yN,zW9 rfl]at hi;cases hi;exact hj
 ·simp;omega
def βr (K:List Nat) (β:uB):uB:=λk=>if k∈K then β k else []
theorem VR {K:List Nat} {β:uB} {k:Nat} (h:k∈K):βr K β k=β k:=by simp[βr,h]
theorem qV {K:List Nat} {β:uB} {k b n:Nat} (h:(b,n)∈βr K β k):k∈K/\(b,n)∈β k:=by
 unfold βr at h;split at h
 ·exact⟨‹_›,h⟩
 ·simp at h
theorem zWy {X Xc:Nat->Prop} {h:yH} {β:uB} {w:World} {h0:List (Nat×xN)} (HH:kI X h β w) (hK:∀k,k∈yD h0->h k=zC h0 k) (hclosed:∀k e,zC h0 k=some e->clE (yD h0) e=true)
  (hXc:∀b,Xc b->X b∨∃k n,¬k∈yD h0/\(b,n)∈β k):
  kI Xc (zC h0) (βr (yD h0) β) w/\∀v c,zV w (xF X β) h β v c->(∀k,k∈v.refs->k∈yD h0)->zV w (xF Xc (βr (yD h0) β)) (zC h0) (βr (yD h0) β) v c:=by
 have hβc:∀k,k∈yD h0->βr (yD h0) β k=β k:=λk hk=>VR hk
 have hDc:∀b,xF Xc (βr (yD h0) β) b->xF X β b:=λb hd=>by
  rcases hd with hx|⟨k,n,hm⟩
  ·exact(hXc b hx).imp id λ⟨k,n,_,hm⟩=>⟨k,n,hm⟩
  ·exact .inr ⟨k,n,(qV hm).2⟩
 have hclv:∀v c,zV w (xF X β) h β v c->(∀k,k∈v.refs->k∈yD h0)->zV w (xF Xc (βr (yD h0) β)) (zC h0) (βr (yD h0) β) v c:=by
  intro v c hv;have ef:∀{v c},xE w (xF X β) v c->xE w (xF Xc (βr (yD h0) β)) v c:=λhf=>hf.evo (zXc _) λb _ hd=>⟨rfl,λh'=>hd (hDc b h')⟩
  induction hv with
  |fz v c hf=>exact λ_=> .fz _ _ (ef hf)
  |agg cs c hl h1 _ ih=>exact λhr=> .agg cs c hl h1 λi v hv=>ih i v hv λk hk=>hr k (by simpa [AV.refs]using xR hv hk)
  |fn f caps c hl _ ih=>exact λhr=> .fn f caps c hl λi v hv=>ih i v hv λk hk=>hr k (by simpa [AV.refs]using xR hv hk)
  |tup vs c hl _ ih=>exact λhr=> .tup vs c hl λi v hv=>ih i v hv λk hk=>hr k (by simpa [AV.refs]using xR hv hk)
  |dref k off len c hk h1=>exact λhr=> .dref _ _ _ _ ((hK k (hr k (by simp[AV.refs])))▸hk) h1
  |dptr k i off c hk h1=>exact λhr=> .dptr _ _ _ _ ((hK k (hr k (by simp[AV.refs])))▸hk) h1
  |ref k off len sz xs st b n cap hk hb hn hc hs=>exact λhr=> .ref k off len sz xs st b n cap ((hK k (hr k (by simp[AV.refs])))▸hk) (by rw[hβc k (hr k (by simp[AV.refs]))];exact hb) hn hc hs
  |ref0 k off sz xs st a hk hn=>exact λhr=> .ref0 k off sz xs st a ((hK k (hr k (by simp[AV.refs])))▸hk) hn
  |pbox k off cs b n hk hb=>exact λhr=> .pbox k off cs b n ((hK k (hr k (by simp[AV.refs])))▸hk) (by rw[hβc k (hr k (by simp[AV.refs]))];exact hb)
  |parr k i off sz xs st b n hk hb hi ho=>exact λhr=> .parr k i off sz xs st b n ((hK k (hr k (by simp[AV.refs])))▸hk) (by rw[hβc k (hr k (by simp[AV.refs]))];exact hb) hi ho
 refine⟨⟨λk e he=>?_,λk he=>?_,λk k' b n n' q1 q2=>HH.disj _ _ _ _ _ (qV q1).2 (qV q2).2,λk b n hm hx=>?_,λb hd=>HH.lt b (hDc b hd)⟩,hclv⟩
 ·have hk:=vF he
  refine(HH.ent k e ((hK k hk).trans he)).lift (hβc k hk) (λcs hcs i v c hi hv=>hclv v c hv λj hj=>by
   have:=hclosed k e he;rw[hcs]at this
   simpa using zXm.1 this j (xR hi hj)) λsz xs fl hxs i x j v c hi hj=>⟨λhf=>hf.evo (zXc _) λb _ hd=>⟨rfl,λh'=>hd (hDc b h')⟩,λhn hv=>hclv v c hv λq hq=>by
   have:=hclosed k e he;rw[hxs]at this;simp only[clE,hn,zYk]at this
   simpa using zXm.1 this q (xR hi (bK hj hq))⟩
 ·unfold βr;rw[zW8];intro hk;obtain⟨e,hk⟩:=gH hk;rw[he]at hk;cases hk
 ·obtain⟨hk,hm⟩:=qV hm
  rcases hXc b hx with hx|⟨k',n',hk',hm'⟩
  ·exact HH.free k b n hm hx
  ·exact hk' (HH.disj k k' b n n' hm hm'▸hk)
def zAb (h:yH):Prop:=∀k sz xs fl,h k=some (.arr sz xs fl)->fl.nest=false
def nnH:List (Nat×xN)->Bool
 | []=>true
 |(_,e)::r=>match e with
  | .arr _ _ fl=>!fl.nest&&nnH r
  |_=>nnH r
theorem zJf:∀{h:List (Nat×xN)},nnH h=true->zAb (zC h)
 | [],_,k,sz,xs,fl,he=>by simp[zC]at he
 | (j,e)::r,hn,k,sz,xs,fl,he=>by
  rw[xI]at he;split at he
  ·cases he;simp[nnH]at hn;exact hn.1
  ·refine zJf (h:=r) ?_ k sz xs fl he
   cases e with
   |arr _ _ _=>simp[nnH]at hn;exact hn.2
   |_=>exact hn
theorem zOg {h:yH} (nn:zAb h) (K:List Nat):∀v:AV,vN K h v=wN K h v:=by
 intro v;refine AV.rec (motive_1:=λv=>vN K h v=wN K h v) (motive_2:=λcs=>wE K h cs=uO K h cs) ?_ ?_ ?_ ?_ ?_ ?_ ?_ ?_ ?_ ?_ ?_ ?_ ?_ v
 ·rfl
 ·exact λ_=>rfl
 ·exact λ_=>rfl
 ·exact λcs ih=>by simp only[vN,wN];rw[ih]
 ·exact λ_ _ _=>rfl
 ·exact λ_ _ _=>rfl
 ·intro k off len;simp only[vN,wN]
  cases K.contains k with
  |true=>rfl
  |false=>
   simp only[zY8];split
   ·rename_i xs fl he;rw[nn _ _ _ _ he];rfl
   ·rfl
 ·intro k i off;rfl
 ·exact λ_ _ _ _=>rfl
 ·exact λf cs ih=>by simp only[vN,wN];rw[ih]
 ·exact λcs ih=>by simp only[vN,wN];rw[ih]
 ·rfl
 ·exact λv r h1 h2=>by simp only[wE,uO];rw[h1,h2]
theorem kI.restrX {X X':Nat->Prop} {h:yH} {β:uB} {w:World} (H:kI X h β w) (K Kd:List Nat) (hx:∀b,X' b->X b∨∃k n,k∈Kd/\(b,n)∈β k) (hdis:∀k,k∈Kd->¬k∈K) (nn:zAb h)
  (hent:∀k cs,k∈K->h k=some (.box cs)->∀j,j∈qN cs->¬j∈Kd):
  kI X' (zC (wS K h)) (βr K β) w/\∀v c,(∀j,j∈v.refs->¬j∈Kd)->zV w (xF X β) h β v c->zV w (xF X' (βr K β)) (zC (wS K h)) (βr K β) (wN K h v) c:=by
 have hsub:∀b,xF X' (βr K β) b->xF X β b:=λb hd=>by
  rcases hd with hb|⟨k,n,hm⟩
  ·exact(hx b hb).imp id λ⟨k,n,_,hm⟩=>⟨k,n,hm⟩
  ·exact .inr ⟨k,n,(qV hm).2⟩
 have hv:∀v c,(∀j,j∈v.refs->¬j∈Kd)->zV w (xF X β) h β v c->zV w (xF X' (βr K β)) (zC (wS K h)) (βr K β) (wN K h v) c:=λv c hr hv=>by
  rw[<-zOg nn];refine zV.fz0 H (K:=K) (λk hk e he=>?_) (λk hk=>VR hk) (λb _ hd h'=>hd (hsub b h')) hv λk hk0=>?_
  ·rw[xW,zW9 hk,he]
   cases e with
   |box cs=>exact⟨_,rfl⟩
   |arr sz xs fl=>exact⟨xs,fl,by simp only[Option.map_some,qR,nn _ _ _ _ he,zY8],rfl⟩
   |dead=>rfl
  ·by_cases hk:k∈K
   ·exact .inl hk
   ·refine .inr λb n hm=>?_
    rintro(hb|⟨k',n',hm'⟩)
    ·rcases hx b hb with hb|⟨k',n',hk',hm'⟩
     ·exact H.free k b n hm hb
     ·exact hr k hk0 (H.disj k k' b n n' hm hm'▸hk')
    ·obtain⟨hk',hm'⟩:=qV hm';exact hk (H.disj k k' b n n' hm hm'▸hk')
 have ef:∀{v c},xE w (xF X β) v c->xE w (xF X' (βr K β)) v c:=λhf=>hf.evo (zXc _) λb _ hd=>⟨rfl,λh'=>hd (hsub b h')⟩
 refine⟨⟨λk e he=>?_,λk he=>?_,λk k' b n n' h1 h2=>H.disj _ _ _ _ _ (qV h1).2 (qV h2).2,λk b n hm hb=>?_,λb hd=>H.lt b (hsub b hd)⟩,hv⟩
 ·rw[xW]at he;split at he
  ·rename_i hk;rw[zXn]at he;obtain⟨e0,he0,rfl⟩:=he;have:=H.ent k e0 he0
   cases e0 with
   |dead=>show βr K β k=[];rw[VR hk];exact this
   |box cs=>
    obtain⟨b,c,el,h1,h2,h3,h4,h5⟩:=this;refine⟨b,c,el,by rw[VR hk];exact h1,h2,by rw[vP];exact h3,h4,λi v hi=>?_⟩;rw[bJ,zXn]at hi;obtain⟨u,hu,rfl⟩:=hi;exact hv u _ (λj hj=>hent k cs hk he0 j (xR hu hj)) (h5 i u hu)
   |arr sz xs st=>
    obtain⟨g1,g2,g3,g4,g5,f,g6,g7,g8⟩:=this;have hn:=nn _ _ _ _ he0;rw[show qR K h (.arr sz xs st)= .arr sz xs st by simp only[qR,hn,zY8]];exact⟨g1,g2,by rw[VR hk];exact g3,g4,by rw[VR hk];exact g5,f,.ofF λi x j v hx hy=>ef (g6.toF hn i x j v hx hy),g7,by rw[VR hk];exact g8⟩
  ·cases he
 ·unfold βr;split
  ·rename_i hk;rw[xW,zW9 hk]at he
   cases hk':h k with
   |none=>exact H.off k hk'
   |some e=>simp[hk']at he
  ·rfl
 ·obtain⟨hk,hm⟩:=qV hm
  rcases hx b hb with hb|⟨k',n',hk',hm'⟩
  ·exact H.free k b n hm hb
  ·exact hdis k' hk' (H.disj k k' b n n' hm hm'▸hk)
theorem zJg (K:List Nat) (h h':yH):∀v:AV,wN K h' (wN K h v)=wN K h v:=by
 intro v;refine AV.rec (motive_1:=λv=>wN K h' (wN K h v)=wN K h v) (motive_2:=λcs=>uO K h' (uO K h cs)=uO K h cs) ?_ ?_ ?_ ?_ ?_ ?_ ?_ ?_ ?_ ?_ ?_ ?_ ?_ v
 ·rfl
 ·exact λ_=>rfl
 ·exact λ_=>rfl
 ·exact λcs ih=>by simp only[wN];rw[ih]
 ·exact λ_ _ _=>rfl
 ·exact λ_ _ _=>rfl
 ·intro k off len;simp only[wN]
  cases hc:K.contains k with
  |true=>simp only[zYk,wN,hc]
  | false=>
   simp only[zY8]
   rcases h k with _|(_|⟨_,xs,fl⟩|_)
   ·rfl
   ·rfl
   ·dsimp only
    cases fl.nest with
    |false=>rfl
    |true=>
     simp only[zYk]
     cases wC (wE K h xs)<;>rfl
   ·rfl
 ·intro k i off;simp only[wN]
  cases hc:K.contains k with
  |true=>simp only[zYk,wN,hc]
  |false=>rfl
 ·exact λ_ _ _ _=>rfl
 ·exact λf cs ih=>by simp only[wN];rw[ih]
 ·exact λcs ih=>by simp only[wN];rw[ih]
 ·rfl
 ·exact λv r h1 h2=>by simp only[uO];rw[h1,h2]
section
variable {K0:List Nat} {F:Fr K0} {h:yH} {β:uB} {w w':World} {X:Nat->Prop}
theorem gA.toGoes (hV:∀b,¬F.V b) (H0:kI F.X F.h0 F.β0 F.w0) (H:kI X h β w) (K:gA F h β w) (nd:∀k,F.h0 k≠some .dead):xM X F.w0 F.h0 F.β0 w h β where
 size:=K.size
 keep b hb hn:=K.keep b hb (hV b) hn
 own:=K.own
 bs:=K.bs
 key k e he:=by
  refine .inr ?_;have h1:=K.knd k e he
  cases e with
  |dead=>exact absurd he (nd k)
  |box cs0=>
   obtain⟨cs',h2⟩:=h1;refine⟨⟨_,h2⟩,λb n hm=>?_⟩;obtain⟨n',hn',hm'⟩:=K.pas k b n hm;obtain⟨b2,_,_,e2,_⟩:=H.ent k _ h2;obtain⟨b1,_,_,e1,_⟩:=H0.ent k _ he;rw[e1]at hm;rw[e2]at hm'⊢;simp at hm hm'⊢;exact⟨hm'.1,hm.2⟩
  |arr sz xs sl=>
   obtain⟨xs',sl',h2,h3⟩:=h1;exact⟨⟨xs',sl',h2,h3⟩,λb n hm=>K.pas k b n hm⟩
 hok:=H
 os:=K.os
 tape:=K.tape
 output:=K.output
theorem gA.turn (K:gA F h β w) (H:kI X h β w) (hs:w'.heap.size=w.heap.size) (hk:∀b,b<w.heap.size->¬X b->w'.heap[b]? =w.heap[b]?) (hl:∀b,b<F.w0.heap.size->w'.heap[b]? =w.heap[b]?) (o1:w'.os=w.os) (o2:w'.tape=w.tape) (o3:w'.output=w.output):gA F h β w':=
 ⟨K.knd,by rw[hs];exact K.size,λb hb hi hn=>by rw[hl b hb];exact K.keep b hb hi hn,K.own,K.pas,λk b n hm=>by
  rw[<-K.bs k b n hm];obtain⟨n',_,hm'⟩:=K.pas k b n hm;unfold xX World.shape?
  rw[hk b (H.lt b (.inr ⟨k,n',hm'⟩)) (H.free k b n' hm')],o1.trans K.os,o2.trans K.tape,o3.trans K.output⟩
theorem gA.restr (K:gA F h β w) (Ks:List Nat) (hK:∀k,k∈K0->k∈Ks):gA F (zC (wS Ks h)) (βr Ks β) w:=by
 refine⟨λk e he=>?_,K.size,K.keep,λk b n hm=>K.own k b n (qV hm).2,λk b n hm=>?_,K.bs,K.os,K.tape,K.output⟩
 ·have hk:=hK k (F.hh k e he);have h1:=K.knd k e he;have hr:∀e',h k=some e'->zC (wS Ks h) k=some (qR Ks h e'):=λe' h2=>by rw[xW,zW9 hk,h2];rfl
  cases e with
  |dead=>exact h1
  |box cs=>obtain⟨cs',h2⟩:=h1;exact⟨_,hr _ h2⟩
  |arr sz xs sl=>obtain⟨xs',sl',h2,h3⟩:=h1;obtain⟨xs2,fl2,h4,h5⟩:=jU Ks h sz xs' sl';exact⟨xs2,fl2,(hr _ h2).trans (by rw[h4]),by rw[h5];exact h3⟩
 ·rw[VR (hK k (F.hK k b n hm))];exact K.pas k b n hm
end
def zBx (ps:List Nat) (ys:List AV) (T:List (Nat×AV)):List (Nat×AV):=(ps.zip ys).foldl (λtm p=>p::tm) T
theorem MY {w:World} {D:Nat->Prop} {h:yH} {β:uB}:∀(ps:List Nat) (ys:List AV) (cs:List Value) (T:List (Nat×AV)) (tmps:Array Value),ys.length=cs.length->(∀(j:Nat) v c,ys[j]? =some v->cs[j]? =some c->zV w D h β v c)->(∀p,p∈ps->p<tmps.size)->
  (∀t,zV w D h β (zG T t) (tmps.getD t undef))->∀t,zV w D h β (zG (zBx ps ys T) t) (((ps.zip cs).foldl (λtmps (p:Nat×Value)=>tmps.setIfInBounds p.1 p.2) tmps).getD t undef)
 | [],ys,cs,T,tmps,_,_,_,h,t=>h t
 |p::ps,[],cs,T,tmps,hl,_,_,h,t=>by
  obtain rfl:cs=[]:=zYc hl.symm;exact h t
 |p::ps,y::ys,[],T,tmps,hl,_,_,h,t=>by simp at hl
 | p::ps,y::ys,c::cs,T,tmps,hl,hr,hp,h,t=>by
  have hps:=hp p zS;refine MY ps ys cs ((p,y)::T) (tmps.setIfInBounds p c) ES (λj v c' h1 h2=>hr (j+1) v c' ET MU) (λq hq=>by simpa using hp q (by simp[hq])) (λs=>?_) t;rw[yN];by_cases hs:s=p
  ·subst hs;rw[zW9 rfl];have e:(tmps.setIfInBounds s c).getD s undef=c:=by simp[zX5,hps]
   rw[e];exact hr 0 y c rfl rfl
  ·rw[zW8 hs];have e:(tmps.setIfInBounds p c).getD s undef=tmps.getD s undef:=by simp[zX5,Array.getElem?_setIfInBounds_ne (Ne.symm hs)]
   rw[e];exact h s
theorem gA.evo {K0:List Nat} {F:Fr K0} {h:yH} {β:uB} {w:World} {X:Nat->Prop} (hX:XOK F X) (G:xM X F.w0 F.h0 F.β0 w h β):JP F.w0 (xF F.X F.β0) F.h0 F.β0 w (xF X β) h β:=
 ⟨G.size,λb hb hd=>⟨G.keep b hb λk n hm=>hd (.inr ⟨k,n,hm⟩),λh'=>by
  rcases h' with hx|⟨k,n,hm⟩
  ·rcases hX.2 b hx with hx|hx
   ·exact hd (.inl hx)
   ·omega
  ·rcases G.own k b n hm with⟨k',n',h2⟩|h2
   ·exact hd (.inr ⟨k',n',h2⟩)
   ·omega⟩,G.bs,G.key⟩
structure TA {K0:List Nat} (F:Fr K0) (T:List (Nat×AV)) (a:Act) (l:Nat) (hc:List (Nat×xN)) (rec:Loop) (O X:Nat->Prop) (W:World):Prop where
 ex:∃Xc βc,XOK F Xc/\kI Xc (zC hc) βc W/\(∀t,zV W (xF Xc βc) (zC hc) βc (zG T t) (a.eval (.tmp t)))/\gA F (zC hc) βc W/\
  (∃bs:List Nat,a.defers=bs.map (λb=>{target:= .collected b,args:= #[]})/\bs.Nodup/\∀b,b∈bs->Xc b/\F.w0.heap.size<=b/\W.heap[b]? =some (.deferred (some []))/\¬O b)/\
  (∀b,O b->Xc b/\F.w0.heap.size<=b/\¬F.X b)/\(∀b,Own βc b->X b)/\(∀b,Xc b->X b∨O b)/\Xc l
 lx:X l
 lo:¬O l
 lh:W.heap[l]? =some (.loop rec)
 ll:F.w0.heap.size<=l
 xl:∀b,X b->b<W.heap.size
 nd:∀k,zC hc k≠some .dead
section
variable {K0:List Nat} {F:Fr K0} {T:List (Nat×AV)} {a:Act} {l:Nat} {hc:List (Nat×xN)} {rec:Loop} {O O' X:Nat->Prop} {W W':World}
theorem TA.stab (C:TA F T a l hc rec O X W) (hs:W.heap.size<=W'.heap.size) (hk:∀b,b<W.heap.size->¬O b->W'.heap[b]? =W.heap[b]?) (ho:∀b,O' b->O b∨W.heap.size<=b) (hl:∀b,O' b->b<W'.heap.size) (o1:W'.os=W.os) (o2:W'.tape=W.tape) (o3:W'.output=W.output):TA F T a l hc rec O' X W':=by
 obtain⟨⟨Xc,βc,c1,c2,c3,c4,⟨bs,d1,d2,d3⟩,c6,c8,c10,c11⟩,lx,lo,lh,ll,xl,nd⟩:=C;have hlW:l<W.heap.size:=xl l lx;have own:∀k b n,(b,n)∈βc k->¬O b:=λk b n hm hO=>c2.free k b n hm (c6 b hO).1
 have E:JP W (xF Xc βc) (zC hc) βc W' (xF (λb=>(Xc b/\¬O b)∨O' b) βc) (zC hc) βc:=by
  refine⟨hs,λb hb hd=>⟨hk b hb λhO=>hd (.inl (c6 b hO).1),λh'=>?_⟩,λk b n hm=>?_,qS _ _⟩
  ·rcases h' with(hx|hx)|hx
   ·exact hd (.inl hx.1)
   ·rcases ho b hx with hO|hO
    ·exact hd (.inl (c6 b hO).1)
    ·omega
   ·exact hd (.inr hx)
  ·unfold xX World.shape?;rw[hk b (c2.lt b (.inr ⟨k,n,hm⟩)) (own k b n hm)]
 refine⟨⟨λb=>(Xc b/\¬O b)∨O' b,βc,⟨λb hb=> .inl ⟨c1.1 b hb,λhO=>(c6 b hO).2.2 hb⟩,λb hb=>?_⟩,⟨λk e he=>(c2.ent k e he).evo E rfl λb n hm=>hk b (c2.lt b (.inr ⟨k,n,hm⟩)) (own k b n hm),c2.off,c2.disj,λk b n hm hx=>?_,λb hd=>?_⟩,λt=>(c3 t).evo E,⟨c4.knd,zYg c4.size hs,λb hb hi hn=>?_,c4.own,c4.pas,λk b n hm=>?_,o1.trans c4.os,o2.trans c4.tape,o3.trans c4.output⟩,
  ⟨bs,d1,d2,λb hb=>?_⟩,λb hb=>?_,c8,λb hb=>?_,.inl ⟨c11,lo⟩⟩,lx,λh=>?_,by rw[hk l hlW lo];exact lh,ll,λb hb=>zYh (xl b hb) hs,nd⟩
 ·rcases hb with hb|hb
  ·exact c1.2 b hb.1
  ·rcases ho b hb with hO|hO
   ·exact c1.2 b (c6 b hO).1
   ·exact .inr (zYg c4.size hO)
 ·rcases hx with hx|hx
  ·exact c2.free k b n hm hx.1
  ·rcases ho b hx with hO|hO
   ·exact own k b n hm hO
   ·have:=c2.lt b (.inr ⟨k,n,hm⟩);omega
 ·rcases hd with(hx|hx)|hx
  ·exact zYh (c2.lt b (.inl hx.1)) hs
  ·exact hl b hx
  ·exact zYh (c2.lt b (.inr hx)) hs
 ·rw[hk b (zYh hb c4.size) λhO=>by have:=(c6 b hO).2.1;omega];exact c4.keep b hb hi hn
 ·obtain⟨n',_,hm'⟩:=c4.pas k b n hm;rw[E.bs k b n' hm',c4.bs k b n hm]
 ·obtain⟨q1,q2,q3,q4⟩:=d3 b hb;refine⟨.inl ⟨q1,q4⟩,q2,by rw[hk b (c2.lt b (.inl q1)) q4];exact q3,λh=>?_⟩
  rcases ho b h with hO|hO
  ·exact q4 hO
  ·have:=c2.lt b (.inl q1);omega
 ·refine⟨.inr hb,?_⟩
  rcases ho b hb with hO|hO
  ·exact(c6 b hO).2
  ·exact⟨zYg c4.size hO,λhx=>by have:=c2.lt b (.inl (c1.1 b hx));omega⟩
 ·rcases hb with hb|hb
  ·exact(c10 b hb.1).imp id λhO=>absurd hO hb.2
  ·exact .inr hb
 ·rcases ho l h with hO|hO
  ·exact lo hO
  ·omega
def zJh (e:Exit) (c:Code):Prop:=(e= .ret/\c= .ret)∨∃id,e= .exit id/\c= .exit id
theorem TA.round {P:Program} {m:Nat} {ps:Array Tmp} {assign body:Code} {fn:FuncId} {bd:Nat} {Ks:List Nat} {ys:List AV} {cs:Array Value} {Rq:Exit->List (Nat×xN)->Prop} (hps:∀p,p∈ps.toList->p<m) (hm:a.tmps.size=m) (gs:m<=GS)
  (hrec:rec= {state:= .ready,pending:=none,fn:=fn,tmps:=a.tmps,params:=ps,assign:=assign,body:=body,defers:=bd}) (C:TA F T a l hc rec O X W) (hT:∀t h',wN Ks h' (zG T t)=zG T t) (hKs:∀k,k∈K0->k∈Ks)
  (hys:cs.size=ys.length) (hpl:ps.size=ys.length) (hrep:∀(j:Nat) v,ys[j]? =some v->xE W (λb=>X b∨O b) v (cs.getD j undef)) (hRq:∀e h,Rq e h->e= .normal∨e= .ret∨∃id,e= .exit id)
  (sim:∀(F1:Fr (yD hc)),F1.it=true->F1.ro=some l->uC P F1 m assign ⟨zBx ps.toList ys T,hc⟩ (λe s=>e= .normal/\∀(F2:Fr (yD s.h)),F2.it=true->F2.ro=some l->uC P F2 m body s (λe s'=>Rq e (wS Ks (zC s'.h))))):
  YieldAt Fence.wide 0 P l cs W λe W'=>(e= .returned (.bool true)/\∃X',bT X X' W W'/\∃h',Rq .normal h'/\TA F T a l h' rec O X' W')∨
   (e= .returned (.bool false)/\∃X',bT X X' W W'/\∃h' x c,zJh x c/\Rq x h'/\TA F T a l h' {rec with state:= .done,pending:=some c} O X' W'):=by
 obtain⟨⟨Xc,βc,c1,c2,c3,c4,⟨bs,d1,d2,d3⟩,c6,c8,c10,c11⟩,lx,lo,lh,ll,xl,nd⟩:=C;have hlW:l<W.heap.size:=xl l lx;subst hrec;refine⟨_,_,_,_,run_yield lh (by simpa using hys.trans hpl.symm),?_⟩;dsimp only;refine roundIn_of_wpIn (F:=Fence.wide) (n:=0) trivial ?_
 let F1:Fr (yD hc):=⟨Xc,W,βc,zC hc,λk b n hm=>by
  cases hk:zC hc k with
  |none=>rw[c2.off k hk]at hm;simp at hm
  |some e=>exact vF hk,λk e he=>vF he,some l,true,λ_=>False,λ_ _ _ _=>True,λ_ _ _ _ _ _ _ _ _ _ _ _ _ _=>trivial⟩
 have refl1:∀{K1:List Nat} (F:Fr K1),F.it=true->kI F.X F.h0 F.β0 F.w0->(∀k,F.h0 k≠some .dead)->gA F F.h0 F.β0 F.w0:=λF _ H nd=>
  ⟨λk e he=>by
   cases e with
   |dead=>exact absurd he (nd k)
   |box cs=>exact⟨cs,he⟩
   |arr sz xs sl=>exact⟨xs,sl,he,zXc _⟩,zXc _,λ_ _ _ _=>rfl,λk b n hm=> .inl ⟨k,n,hm⟩,λk b n hm=>⟨n,zXc _,hm⟩,λ_ _ _ _=>rfl,rfl,rfl,rfl⟩
 have fold_size:∀(z:List (Nat×Value)) (tm:Array Value),(z.foldl (λtmps (p:Nat×Value)=>tmps.setIfInBounds p.1 p.2) tm).size=tm.size:=by
  intro z
  induction z with
  |nil=>exact λ_=>rfl
  |cons p z ih=>intro tm;rw[List.foldl_cons,ih];simp
 have hfold:(ps.zip cs).foldl (λtmps (p:Nat×Value)=>tmps.setIfInBounds p.1 p.2) a.tmps=(ps.toList.zip cs.toList).foldl (λtmps (p:Nat×Value)=>tmps.setIfInBounds p.1 p.2) a.tmps:=by
  rw[<-Array.foldl_toList,Array.toList_zip]
 have R1:wH F1 m ⟨zBx ps.toList ys T,hc⟩ {tmps:=(ps.zip cs).foldl (λtmps (p:Nat×Value)=>tmps.setIfInBounds p.1 p.2) a.tmps,defers:=[]} W:=by
  refine⟨⟨Xc,βc,⟨λ_ h=>h,λ_ h=> .inl h⟩,c2,λt=>?_,refl1 F1 rfl c2 nd,λ_ _=>trivial,[],rfl,λ_=>rfl,yCm,λb hb=>by simp at hb⟩,nd,gs,by rw[hfold,fold_size];exact hm⟩;rw[hfold];refine MY ps.toList ys cs.toList T a.tmps (by simpa using hys.symm) (λj v c h1 h2=>?_) (λp hp=>by rw[hm];exact hps p hp) c3 t;have h3:=hrep j v h1;have e:cs.getD j undef=c:=gW MU;rw[e]at h3;exact .fz _ _ (h3.less λb hd=>hd.elim (c10 b) λho=> .inl (c8 b ho))
 refine Code.wpIn_mono (λe a1 w1 q=>?_) ((sim F1 rfl rfl).run _ _ R1);obtain⟨s,⟨rfl,hs⟩,⟨⟨X1,β1,hX1,H1,Ht1,K1,_,bs1,hd1,hb1,_⟩,nd1,gs1,hl1⟩⟩:=q;have:=hb1 rfl;subst this;have G1:=K1.toGoes (λ_ h=>h) c2 H1 nd;have E1:=gA.evo hX1 G1;have hl1':w1.heap[l]? =W.heap[l]? :=K1.keep l hlW (λh=>h) λk n hm=>c2.free k l n hm c11
 have hX1l:X1 l:=hX1.1 l c11;refine⟨_,run_beginRound (hl1'.trans lh) rfl,?_⟩;generalize hw2:w1.putObj l _=w2;have sz2:w2.heap.size=w1.heap.size:=by rw[<-hw2];simp
 have kp2:∀b,b≠l->w2.heap[b]? =w1.heap[b]? :=λb hb=>by rw[<-hw2];exact World.putObj_heap_other hb
 have lb2:w2.heap[l]? =some (.loop {state:= .busy,pending:=none,fn:=fn,tmps:=a.tmps,params:=ps,assign:=assign,body:=body,defers:=bd}):=by
  rw[<-hw2];exact World.putObj_heap_same (zYh hlW K1.size)
 have oth2:w2.os=w1.os/\w2.tape=w1.tape/\w2.output=w1.output:=by rw[<-hw2];exact⟨rfl,rfl,rfl⟩
 have kp2':∀b,b<w1.heap.size->¬X1 b->w2.heap[b]? =w1.heap[b]? :=λb _ hx=>kp2 b λe=>hx (e▸hX1l)
 have H1':=H1.turn (zZa sz2.symm) kp2';have E2:=VE H1 (zZa sz2.symm) kp2'
 let F2:Fr (yD s.h):=⟨X1,w2,β1,zC s.h,λk b n hm=>by
  cases hk:zC s.h k with
  |none=>rw[H1.off k hk]at hm;simp at hm
  |some e=>exact vF hk,λk e he=>vF he,some l,true,λ_=>False,λ_ _ _ _=>True,λ_ _ _ _ _ _ _ _ _ _ _ _ _ _=>trivial⟩
 have R2:wH F2 m s a1 w2:=⟨⟨X1,β1,⟨λ_ h=>h,λ_ h=> .inl h⟩,H1',λt=>(Ht1 t).evo E2,refl1 F2 rfl H1' nd1,λ_ _=>trivial,[],hd1,λ_=>rfl,yCm,λb hb=>by simp at hb⟩,nd1,gs1,hl1⟩;refine Code.wpIn_mono (λe a2 w3 q=>?_) ((hs F2 rfl rfl).run _ _ R2);obtain⟨s3,hq,⟨⟨X3,β3,hX3,H3,_,K3,_⟩,nd3,_,_⟩⟩:=q;have G3:=K3.toGoes (λ_ h=>h) H1' H3 nd1;have E3:=gA.evo hX3 G3;have lb3:=(K3.keep l (by show l<w2.heap.size;rw[sz2];exact zYh hlW K1.size) (λh=>h) λk n hm=>H1.free k l n hm hX1l).trans lb2;have hl3:l<w3.heap.size:=zYh (by rw[sz2];exact zYh hlW K1.size) K3.size;have hX3l:X3 l:=hX3.1 l hX1l;have s13:W.heap.size<=w3.heap.size:=zYg K1.size (by rw[<-sz2];exact K3.size)
 have key:∀rec':Loop,∃X',bT X X' W (w3.putObj l (.loop rec'))/\TA F T a l (wS Ks (zC s3.h)) rec' O X' (w3.putObj l (.loop rec')):=by
  intro rec';generalize hw4:w3.putObj l (.loop rec')=w4;have sz4:w4.heap.size=w3.heap.size:=by rw[<-hw4];simp
  have kp4:∀b,b≠l->w4.heap[b]? =w3.heap[b]? :=λb hb=>by rw[<-hw4];exact World.putObj_heap_other hb
  have lb4:w4.heap[l]? =some (.loop rec'):=by rw[<-hw4];exact World.putObj_heap_same hl3
  have oth4:w4.os=w3.os/\w4.tape=w3.tape/\w4.output=w3.output:=by rw[<-hw4];exact⟨rfl,rfl,rfl⟩
  have kp4':∀b,b<w3.heap.size->¬X3 b->w4.heap[b]? =w3.heap[b]? :=λb _ hx=>kp4 b λe=>hx (e▸hX3l)
  obtain⟨H4,hv4⟩:=H3.restr Ks;have H5:=H4.turn (zZa sz4.symm) kp4';have E5:=VE H4 (zZa sz4.symm) kp4'
  have oc:∀b,X3 b->Xc b∨W.heap.size<=b:=λb hb=>by
   rcases hX3.2 b hb with h|h
   ·exact hX1.2 b h
   ·have h2:w2.heap.size<=b:=h;rw[sz2]at h2;exact .inr (zYg K1.size h2)
  have old:∀b,b<W.heap.size->b≠l->¬Own βc b->w4.heap[b]? =W.heap[b]? :=λb hb hne hno=>by
   rw[kp4 b hne]
   have h1:∀k n,(b,n)∉β1 k:=λk n hm=>by
    rcases K1.own k b n hm with⟨k',n',h⟩|h
    ·exact hno ⟨k',n',h⟩
    ·have:W.heap.size<=b:=h;omega
   have q1:=K3.keep b (by show b<w2.heap.size;rw[sz2];exact zYh hb K1.size) (λh=>h) h1;have q2:=K1.keep b hb (λh=>h) λk n hm=>hno ⟨k,n,hm⟩
   exact q1.trans ((kp2 b hne).trans q2)
  have KF:gA F (zC (wS Ks (zC s3.h))) (βr Ks β3) w4:=by
   have k1:gA F (zC s.h) β1 w1:=c4.goes G1 nd1 λk b n hm=>K1.pas k b n hm
   have k2:gA F (zC s.h) β1 w2:=k1.turn H1 sz2 kp2' (λb hb=>kp2 b λe=>by omega) oth2.1 oth2.2.1 oth2.2.2;have k3:gA F (zC s3.h) β3 w3:=k2.goes G3 nd3 λk b n hm=>K3.pas k b n hm
   have k4:=k3.restr Ks hKs;exact k4.turn H4 sz4 kp4' (λb hb=>kp4 b λe=>by omega) oth4.1 oth4.2.1 oth4.2.2
  refine⟨λb=>X b∨Own (βr Ks β3) b∨(X3 b/\¬O b),⟨by omega,λb hb hx=>⟨old b hb (λe=>hx (e▸lx)) λho=>hx (c8 b ho),λh'=>?_⟩,λb hb=> .inl hb,λb hb=>?_,?_,?_,?_⟩,⟨X3,βr Ks β3,⟨λb hb=>hX3.1 b (hX1.1 b (c1.1 b hb)),λb hb=>?_⟩,H5,λt=>?_,KF,⟨bs,d1,d2,λb hb=>?_⟩,λb hb=>?_,λb hb=> .inr (.inl hb),λb hb=>?_,hX3l⟩,.inl lx,lo,lb4,ll,λb hb=>?_,λk=>?_⟩
  ·rcases h' with h|⟨k,n,hm⟩|⟨h,hO⟩
   ·exact hx h
   ·have hm:=(qV hm).2
    rcases K3.own k b n hm with⟨k',n',h⟩|h
    ·rcases K1.own k' b n' h with⟨k2,n2,h⟩|h
     ·exact hx (c8 b ⟨k2,n2,h⟩)
     ·have:W.heap.size<=b:=h;omega
    ·have h2:w2.heap.size<=b:=h;have:=K1.size;have:W.heap.size<=w1.heap.size:=this;omega
   ·rcases oc b h with h|h
    ·exact(c10 b h).elim hx hO
    ·omega
  ·rcases hb with h|⟨k,n,hm⟩|⟨h,hO⟩
   ·have:=xl b h;omega
   ·rw[sz4];exact H3.lt b (.inr ⟨k,n,(qV hm).2⟩)
   ·rw[sz4];exact H3.lt b (.inl h)
  ·exact oth4.1.trans (K3.os.trans (oth2.1.trans K1.os))
  ·exact oth4.2.1.trans (K3.tape.trans (oth2.2.1.trans K1.tape))
  ·exact oth4.2.2.trans (K3.output.trans (oth2.2.2.trans K1.output))
  ·rcases oc b hb with h|h
   ·exact c1.2 b h
   ·exact .inr (zYg c4.size h)
  ·have:=hv4 _ _ ((((c3 t).evo E1).evo E2).evo E3);rw[hT]at this;exact this.evo E5
  ·obtain⟨q1,q2,q3,q4⟩:=d3 b hb;refine⟨hX3.1 b (hX1.1 b q1),q2,?_,q4⟩;rw[old b (c2.lt b (.inl q1)) (λe=>by rw[e,lh]at q3;cases q3) λ⟨k,n,hm⟩=>c2.free k b n hm q1];exact q3
  ·exact⟨hX3.1 b (hX1.1 b (c6 b hb).1),(c6 b hb).2⟩
  ·by_cases hO:O b
   ·exact .inr hO
   ·exact .inl (.inr (.inr ⟨hb,hO⟩))
  ·rcases hb with h|⟨k,n,hm⟩|⟨h,hO⟩
   ·have:=xl b h;omega
   ·rw[sz4];exact H3.lt b (.inr ⟨k,n,(qV hm).2⟩)
   ·rw[sz4];exact H3.lt b (.inl h)
  ·rw[xW];split
   ·intro h;rw[zXn]at h;obtain⟨e,he,h2⟩:=h
    cases e with
    |dead=>exact nd3 k he
    |box cs=>cases h2
    |arr sz xs st=>obtain⟨xs2,fl2,h4,_⟩:=jU Ks (zC s3.h) sz xs st;rw[h4]at h2;cases h2
   ·intro h;cases h
 rcases hRq e _ hq with rfl|rfl|⟨id,rfl⟩
 ·obtain⟨X',q1,q2⟩:=key {state:= .ready,pending:=none,fn:=fn,tmps:=a.tmps,params:=ps,assign:=assign,body:=body,defers:=bd};exact⟨_,_,run_endRound none lb3,.inl ⟨rfl,X',q1,_,hq,q2⟩⟩
 ·obtain⟨X',q1,q2⟩:=key {state:= .done,pending:=some .ret,fn:=fn,tmps:=a.tmps,params:=ps,assign:=assign,body:=body,defers:=bd};exact⟨_,_,run_endRound (some .ret) lb3,.inr ⟨rfl,X',q1,_,.ret,.ret,.inl ⟨rfl,rfl⟩,hq,q2⟩⟩
 ·obtain⟨X',q1,q2⟩:=key {state:= .done,pending:=some (.exit id),fn:=fn,tmps:=a.tmps,params:=ps,assign:=assign,body:=body,defers:=bd};exact⟨_,_,run_endRound (some (.exit id)) lb3,.inr ⟨rfl,X',q1,_,.exit id,.exit id,.inr ⟨id,rfl,rfl⟩,hq,q2⟩⟩
end
end Av
end Go.Proofs.YtmamjhmoegjapaaGreat
