/- Part 8. -/
import Derived.Test.YteajjdidebfcjaaGreatR07
import Derived.RangeFuncIn
import Derived.RangeFuncSeq
import Derived.RangeFuncLeaves
namespace Go.Proofs.YteajjdidebfcjaaGreat
namespace Av
set_option linter.all false
def zV2 (v:AV) (k:AV->Prop):Prop:=match v with
 | .s v=>k (.s v)
 | .ptr j i o=>k (.ptr j i o)
 | .agg cs=>k (.agg cs)
 | .sl b xs=>k (.sl b xs)
 | .slc b xs=>k (.slc b xs)
 | .ref j o n=>k (.ref j o n)
 | .fp xs i o=>k (.fp xs i o)
 | .fn f cs=>k (.fn f cs)
 | .tup vs=>k (.tup vs)
 | .bot=>k .bot
 | .gh n=>k (.gh n)
 | .fm o p=>k (.fm o p)
def zDr (v:AV) (k:AV->Prop):zV2 v k=k v:=by cases v<;>rfl
def CR:List AV->(List AV->Prop)->Prop
 | [],k=>k []
 |x::r,k=>zV2 x λx=>CR r λr=>k (x::r)
theorem OH:∀(l:List AV) (k:List AV->Prop),CR l k=k l
 | [],_=>rfl
 |x::r,k=>by rw[CR,zDr,OH r]
def fC (K:List Nat) (h:yC) (tm:List (Nat×AV)):List Nat->(List (Nat×AV)->Prop)->Prop
 | [],k=>k []
 |t::ts,k=>zV2 (wD K h (zG tm t)) λv=>fC K h tm ts λr=>k ((t,v)::r)
theorem gA (K:List Nat) (h:yC) (tm:List (Nat×AV)):∀(ts:List Nat) (k:List (Nat×AV)->Prop),fC K h tm ts k=k (ts.map λt=>(t,wD K h (zG tm t)))
 | [],_=>rfl
 |t::ts,k=>by rw[fC,zDr,gA K h tm ts];rfl
def jV (K:List Nat) (h:yC):List Nat->(List (Nat×xN)->Prop)->Prop
 | [],k=>k []
 |j::Ks,k=>match h j with
  |none=>jV K h Ks k
  |some (.box cs)=>CR (uO K h cs) λcs=>jV K h Ks λr=>k ((j,.box cs)::r)
  |some (.arr sz xs st)=>bif st.nest then CR (uO K h xs) λxs=>(bif xY xs then jV K h Ks λr=>k ((j,.arr sz xs ⟨st.stale,false⟩)::r)else jV K h Ks λr=>k ((j,.arr sz xs ⟨st.stale,true⟩)::r))else jV K h Ks λr=>k ((j,.arr sz xs st)::r)
  |some .dead=>jV K h Ks λr=>k ((j,.dead)::r)
  |some (.obj o)=>jV K h Ks λr=>k ((j,.obj o)::r)
theorem qC (K:List Nat) (h:yC):∀(Ks:List Nat) (k:List (Nat×xN)->Prop),jV K h Ks k=k (Ks.filterMap λj=>(h j).map λe=>(j,qK K h e))
 | [],_=>rfl
 | j ::Ks,k=>by
  rw[jV,List.filterMap_cons]
  cases h j with
  |none=>exact qC K h Ks k
  | some e=>
   cases e with
   |box cs=>dsimp only[Option.map_some];rw[OH,qC K h Ks];rfl
   |obj cs=>dsimp only[Option.map_some];rw[qC K h Ks];rfl
   | arr sz xs st=>
    dsimp only[Option.map_some]
    cases hn:st.nest with
    |false=>
     have e:qK K h (.arr sz xs st)= .arr sz xs st:=by simp only[qK,hn,yB5]
     rw[e];simp only[yB5];rw[qC K h Ks]
    |true=>
     have e:qK K h (.arr sz xs st)= .arr sz (uO K h xs) ⟨st.stale,!xY (uO K h xs)⟩:=by simp only[qK,hn,yBn]
     rw[e];simp only[yBn];rw[OH]
     cases hk:xY (uO K h xs)with
     |true=>simp only[yBn,yFf];rw[qC K h Ks]
     |false=>simp only[yB5,yEt];rw[qC K h Ks]
   |dead=>dsimp only[Option.map_some];rw[qC K h Ks];rfl
section
variable {P:Program} {K0:List Nat} {F:Fr K0} {m:Nat} {Q:Exit->St->Prop} {st:St} {c:Code}
def cS (Q:Exit->St->Prop) (I:St->Prop):Exit->St->Prop
 | .normal,s=>I s
 |e,s=>Q e s
def xR (N:Nat) (K Ks ts ds:List Nat) (hK:K0.all (K.contains ·)=true) (I:Nat->List (Nat×AV)->List (Nat×xN)->St->Prop)
  (h:fC K (zC st.h) st.tm ts λT=>jV K (zC st.h) Ks λU=>I 0 T U (restr K ds st)/\(∀i s,i<N->I i T U s->vK P F m c s (cS Q λs=>I (i+1) T U (restr K ds s)))/\
   ∀s,I N T U s->vK P F m c s (cS Q λ_=>False)):vK P F m (.loop c) st Q:=by
 rw[gA,qC]at h;generalize (ts.map _)=T at h;generalize (Ks.filterMap _)=U at h;obtain⟨h0,h1,h2⟩:=h;refine wT (λn s=>∃i,n+i=N/\I i T U s) N K ds hK ⟨0,rfl,h0⟩ λn s ⟨i,hi,hs⟩=>?_
 by_cases hlt:i<N
 ·refine(h1 i s hlt hs).mono λe s' hq=>?_
  cases e with
  |normal=>exact⟨n-1,by omega,i+1,by omega,hq⟩
  |_=>exact hq
 ·obtain rfl:i=N:=by omega
  refine(h2 s hs).mono λe s' hq=>?_
  cases e with
  |normal=>exact hq.elim
  |_=>exact hq
def zO (N:Nat) (K Ks ts ds:List Nat) (hK:K0.all (K.contains ·)=true) (S:Nat->List (Nat×AV)->List (Nat×xN)->St)
  (h:fC K (zC st.h) st.tm ts λT=>jV K (zC st.h) Ks λU=>restr K ds st=S 0 T U/\(∀i,i<N->vK P F m c (S i T U) (cS Q λs=>restr K ds s=S (i+1) T U))/\
   vK P F m c (S N T U) (cS Q λ_=>False)):vK P F m (.loop c) st Q:=by
 refine xR N K Ks ts ds hK (λi T U s=>s=S i T U) ?_;rw[gA,qC]at h⊢;obtain⟨h0,h1,h2⟩:=h;exact⟨h0,λi s hi hs=>hs▸h1 i hi,λs hs=>hs▸h2⟩
def kX (N:Nat) (K Ks ts ds:List Nat) (hK:K0.all (K.contains ·)=true) (I:Nat->List (Nat×AV)->List (Nat×xN)->St->Prop)
  (h:fC K (zC st.h) st.tm ts λT=>jV K (zC st.h) Ks λU=>I N T U (restr K ds st)/\∀n s,I n T U s->vK P F m c s (cS Q λs=>∃n',n'<n/\I n' T U (restr K ds s))):vK P F m (.loop c) st Q:=by
 rw[gA,qC]at h;generalize (ts.map _)=T at h;generalize (Ks.filterMap _)=U at h;obtain⟨h0,h1⟩:=h;refine wT (λn s=>I n T U s) N K ds hK h0 λn s hs=>(h1 n s hs).mono λe s' hq=>?_
 cases e with
 |normal=>exact hq
 |_=>exact hq
def yL {α:Type} (l:List α) (K Ks ts ds:List Nat) (hK:K0.all (K.contains ·)=true) (S:Nat->List α->List (Nat×AV)->List (Nat×xN)->St)
  (h:fC K (zC st.h) st.tm ts λT=>jV K (zC st.h) Ks λU=>restr K ds st=S 0 [] T U/\
   (∀i pre x post,l=pre++x::post->pre.length=i->vK P F m c (S i pre T U) (cS Q λs=>restr K ds s=S (i+1) (pre++[x]) T U))/\
   vK P F m c (S l.length l T U) (cS Q λ_=>False)):vK P F m (.loop c) st Q:=by
 refine zO l.length K Ks ts ds hK (λi T U=>S i (l.take i) T U) ?_;rw[gA,qC]at h⊢;obtain⟨h0,h1,h2⟩:=h;refine⟨by simpa using h0,λi hi=>?_,by simpa using h2⟩;have:=h1 i (l.take i) l[i] (l.drop (i+1)) zSu vA;rw[yEf hi]at this;exact this
def qW {α:Type} (l:List α) (K Ks ts ds:List Nat) (hK:K0.all (K.contains ·)=true) (I:Nat->List α->List (Nat×AV)->List (Nat×xN)->St->Prop)
  (h:fC K (zC st.h) st.tm ts λT=>jV K (zC st.h) Ks λU=>I 0 [] T U (restr K ds st)/\
   (∀i pre x post s,l=pre++x::post->pre.length=i->I i pre T U s->vK P F m c s (cS Q λs=>I (i+1) (pre++[x]) T U (restr K ds s)))/\
   ∀s,I l.length l T U s->vK P F m c s (cS Q λ_=>False)):vK P F m (.loop c) st Q:=by
 refine xR l.length K Ks ts ds hK (λi T U s=>I i (l.take i) T U s) ?_;rw[gA,qC]at h⊢;obtain⟨h0,h1,h2⟩:=h;refine⟨by simpa using h0,λi s hi hs=>?_,λs hs=>h2 s (by simpa using hs)⟩;have:=h1 i (l.take i) l[i] (l.drop (i+1)) s zSu vA hs;rw[yEf hi]at this;exact this
end
section
variable {α:Type} {l pre post:List α} {x:α} {i:Nat}
def yN (h:l=pre++x::post) (hi:pre.length=i):i<l.length:=by subst h;simp;omega
def xI {β:Type} (f:α->β) (h:l=pre++x::post) (hi:pre.length=i):(l.map f)[i]? =some (f x):=by subst h;subst hi;simp
def wR (h:l=pre++x::post):x∈l:=by subst h;simp
def zA {β:Type} (f:α->β) (l:List α):(l.map f).length=l.length:=by simp
def xO {n:Nat} (f:α->AV) (l:List α) (h:∀x,(f x).cells.length=n):∀y,(l.map f)[0]? =some y->y.cells.length=n:=λy hy=>by
 rw[yAa,yAo]at hy;obtain⟨x,_,rfl⟩:=hy;exact h x
end
def zV3 (TT:List TI) (tm:List (Nat×AV)):Op->Option (List AV)
 | .buildSlice T len ps=>match TT[T]? with
  | some ti=>match ti.d with
   | .slice e=>match TT[e]? with
    |some te=>bif eX 0 (ps.toList.map (·.1))&&(Nat.beq ps.toList.length len&&(Nat.ble 1 te.size&&(Nat.ble (len*te.size) 65536&&Nat.beq te.zero.length te.size)))then
     SH (ps.toList.map λp=>yJ (zG tm) p.2) λxs=>bif xs.all (λx=>Nat.beq x.cells.length te.size&&(x.ok&&x.nokey))then some xs else none else none
    |none=>none
   |_=>none
  |none=>none
 |_=>none
section
variable {P:Program} {TT:List TI} (hP:uI P TT) {tm:List (Nat×AV)} {h:List (Nat×xN)}
include hP in
def zA6 {op:Op} {xs:List AV} (he:zV3 TT tm op=some xs):wM P ⟨tm,h⟩ op (.sl true xs) [] [] []:=by
 unfold zV3 at he;split at he
 ·rename_i T len ps;split at he
  ·rename_i ti hT;split at he
   ·rename_i e hd;split at he
    ·rename_i te hte;rw[jM]at he
     cases hc:(eX 0 (ps.toList.map (·.1))&&(Nat.beq ps.toList.length len&&(Nat.ble 1 te.size&&(Nat.ble (len*te.size) 65536&&Nat.beq te.zero.length te.size))))with
     |false=>rw[hc]at he;cases he
     | true=>
      rw[hc]at he;simp only[yBn]at he;generalize hxs:(ps.toList.map λp=>yJ (zG tm) p.2)=ys at he
      cases hw:ys.all (λx=>Nat.beq x.cells.length te.size&&(x.ok&&x.nokey))with
      |false=>simp[hw]at he
      | true=>
       simp only[hw,yBn,yBj]at he;subst he;simp only[yAk]at hc;obtain⟨c1,c2,c3,c4,c5⟩:=hc;refine SJ hP hT hd hte c3 ?_ (by rw[<-hxs];simpa using c2) hw c4 c5;rw[<-hxs];apply yBi;intro j;simp only[cO,yAa,yEx,yBu]
       cases hj:ps.toList[j]? with
       |none=>simp
       |some p=>
        have:=YW _ 0 c1 j p.1 (by simp[hj]);simp[this]
    ·cases he
   ·cases he
  ·cases he
 ·cases he
end
theorem wM.wkS {P:Program} {st:St} {op:Op} {xs:List AV} {d:List (Nat×xN)} {r nw:List Nat} (hs:wM P st op (.sl true xs) d r nw):wM P st op (.sl false xs) d r nw:=
 ⟨λX tm h h1 h2 h3 o a w β ho HH Ht=>by
  have:=hs.run X tm h h1 h2 h3 o a w β ho HH Ht;unfold dH at this⊢;split at this
  ·obtain⟨β',G,hv⟩:=this;exact⟨β',G,hv.wk⟩
  ·obtain⟨β',G,hv⟩:=this;exact⟨β',G,hv.wk⟩
  ·exact this.mono λe w' ⟨c,he,β',G,hv⟩=>⟨c,he,β',G,hv.wk⟩
  ·exact this.elim⟩
def zV4 (y:AV) (off:Nat) (cs:List AV):Option AV:=match y with
 | .agg ds=>SH (VJ ds off cs) λl=>some (.agg l)
 |_=>match cs with
  | [v]=>frc v some
  |_=>none
def zQs {y:AV} {off:Nat} {cs:List AV} {v:AV} (h:zV4 y off cs=some v):IX y off cs=v:=by
  unfold zV4 at h;unfold IX
  cases y<;>first
    |(dsimp only at h⊢;rw[jM]at h;exact yCs h)
    | (dsimp only at h⊢
       split at h
       · rw[aF]at h;exact yCs h
       · cases h)
section
variable {P:Program} {TT:List TI} {K0:List Nat} {F:Fr K0} {m:Nat} {ops:Array Oper} {rest:List Oper} {Q:List FP->St->Prop} {tm:List (Nat×AV)} {h:List (Nat×xN)} {dr:Bool} {fs:List FP}
variable {ty:Nat} {pos:String} {after:Array Edge} {t:Nat}
def xB {T len:Nat} {ps:Array (Nat×Operand)} {st:St} (hk:zX P F m ops dr (⟨some t,.buildSlice T len ps,ty,pos,after,none⟩::rest) st fs Q):zX P F m ops dr (⟨some t,.buildSlice T len ps,ty,pos,after,none⟩::rest) st fs Q:=hk
def gB {T:Nat} {x y:Operand} {st:St} (hk:zX P F m ops dr (⟨some t,.makeSlice T x y,ty,pos,after,none⟩::rest) st fs Q):zX P F m ops dr (⟨some t,.makeSlice T x y,ty,pos,after,none⟩::rest) st fs Q:=hk
def zA7 {x:Operand} {st:St} (hk:zX P F m ops dr (⟨some t,.nilCheck x,ty,pos,after,none⟩::rest) st fs Q):zX P F m ops dr (⟨some t,.nilCheck x,ty,pos,after,none⟩::rest) st fs Q:=hk
def CS {x:Nat} {asq:Array Operand} {ts:Array Nat} {st:St} (hk:zX P F m ops dr (⟨some t,.call ⟨.value (.tmp x),asq,ts⟩,ty,pos,after,none⟩::rest) st fs Q):zX P F m ops dr (⟨some t,.call ⟨.value (.tmp x),asq,ts⟩,ty,pos,after,none⟩::rest) st fs Q:=hk
def gO (hP:uI P TT) {op:Op} {xs:List AV} (he:zV3 TT tm op=some xs) (hm:Nat.blt t m=true) (hk:zX P F m ops dr rest ⟨(t,.sl false xs)::tm,h⟩ (⟨true,[],[]⟩::fs) Q):
 zX P F m ops dr (⟨some t,op,ty,pos,after,none⟩::rest) ⟨tm,h⟩ fs Q:=wG (zA6 hP he).wkS hm hk
def kI (hP:uI P TT) {T e:Nat} {s x:Operand} {ti te:TI} {xv:AV} {ys:List AV} (hs:yJ (zG tm) s= .s (.slice none 0 0)) (hx:yJ (zG tm) x=xv) (hT:TT[T]? =some ti) (hd:ti.d= .slice e) (he:TT[e]? =some te)
  (hys:els (zC h) xv=some ys) (hsz:∀y,ys[0]? =some y->y.cells.length=te.size) (hp:Nat.ble 1 te.size=true) (hb:Nat.ble te.bytes 65536=true) (hz:Nat.beq te.zero.length te.size=true) (hn:ys.length<=1073741824) (hm:Nat.blt t m=true)
  (hk:zX P F m ops dr rest ⟨(t,.sl false ys)::tm,h⟩ (⟨true,[],PY xv⟩::fs) Q):zX P F m ops dr (⟨some t,.call ⟨.builtin .append, #[s,x], #[T,T]⟩,ty,pos,after,none⟩::rest) ⟨tm,h⟩ fs Q:=
 wG (SP hP hs hx hT hd he hys hsz hp hb hz hn) hm hk
def LU (kn:Nat) (hP:uI P TT) {T e:Nat} {s x:Operand} {ti te:TI} {xv:AV} {ys:List AV} (hs:yJ (zG tm) s= .s (.slice none 0 0)) (hx:yJ (zG tm) x=xv) (hT:TT[T]? =some ti) (hd:ti.d= .slice e) (he:TT[e]? =some te)
  (hys:els (zC h) xv=some ys) (hsz:∀y,ys[0]? =some y->y.cells.length=te.size) (hp:Nat.ble 1 te.size=true) (hb:Nat.ble te.bytes 65536=true) (hz:Nat.beq te.zero.length te.size=true) (hn:ys.length<=1073741824) (hm:Nat.blt t m=true) (hnn:(zC h kn).isNone=true)
  {sz:Nat} (hse:te.size=sz) (hk:zX P F m ops dr rest ⟨(t,.ref kn 0 ys.length)::tm,(kn,.arr sz ys false)::h⟩ (⟨true,[kn,kn],PY xv⟩::fs) Q) (hz1:te.zero.all (·.oneCell')=true:=by rfl):zX P F m ops dr (⟨some t,.call ⟨.builtin .append, #[s,x], #[T,T]⟩,ty,pos,after,none⟩::rest) ⟨tm,h⟩ fs Q:=by
 subst hse;exact uS (nw:=[kn]) (aH hP kn hs hx hT hd he hys hsz hp hb hz hz1 hn) hm (zAu hnn) Z hk
def wF (hP:uI P TT) {T e:Nat} {s x:Operand} {ti te:TI} {k sz:Nat} {sb:Bool} {xv:AV} {ys:List AV} (hs:yJ (zG tm) s= .ref k 0 0) (hk:zC h k=some (.arr sz [] ⟨sb,false⟩)) (hx:yJ (zG tm) x=xv) (hT:TT[T]? =some ti) (hd:ti.d= .slice e) (he:TT[e]? =some te)
  (hys:els (zC h) xv=some ys) (hsz:∀y,ys[0]? =some y->y.cells.length=sz) (hss:Nat.beq sz te.size=true) (hb:Nat.ble te.bytes 65536=true) (hz:Nat.beq te.zero.length te.size=true) (hn:ys.length<=1073741824) (hm:Nat.blt t m=true)
  (hq:zX P F m ops dr rest ⟨(t,.ref k 0 ys.length)::tm,(k,.arr sz ys false)::h⟩ (⟨true,[k],k::PY xv⟩::fs) Q) (hz1:te.zero.all (·.oneCell')=true:=by rfl):zX P F m ops dr (⟨some t,.call ⟨.builtin .append, #[s,x], #[T,T]⟩,ty,pos,after,none⟩::rest) ⟨tm,h⟩ fs Q:=
 uS (nw:=[]) (vX (xs:=[]) false false hP hs hk hx hT hd he (λ_=>rfl) hys hsz hss hb hz hz1 OA (λ_=>rfl)) hm Z Z hq
def uU (hP:uI P TT) {T e:Nat} {s x:Operand} {ti te:TI} {k sz:Nat} {sl:Fl} {xv:AV} {ys:List AV} (hs:yJ (zG tm) s= .ref k 0 0) (hk:zC h k=some (.arr sz [] sl)) (hx:yJ (zG tm) x=xv) (hT:TT[T]? =some ti) (hd:ti.d= .slice e) (he:TT[e]? =some te)
  (hys:VI true (zC h) xv=some ys) (hsz:∀y,ys[0]? =some y->y.cells.length=sz) (hss:Nat.beq sz te.size=true) (hb:Nat.ble te.bytes 65536=true) (hz:Nat.beq te.zero.length te.size=true) (hn:ys.length<=1073741824) (hm:Nat.blt t m=true)
  (hq:zX P F m ops dr rest ⟨(t,.ref k 0 ys.length)::tm,(k,.arr sz ys ⟨false,true⟩)::h⟩ (⟨true,[k],k::PY xv⟩::fs) Q) (hz1:te.zero.all (·.oneCell')=true:=by rfl):zX P F m ops dr (⟨some t,.call ⟨.builtin .append, #[s,x], #[T,T]⟩,ty,pos,after,none⟩::rest) ⟨tm,h⟩ fs Q:=
 uS (nw:=[]) (vX (xs:=[]) false true hP hs hk hx hT hd he (λh=>by cases h) hys hsz hss hb hz hz1 OA (λ_=>rfl)) hm Z Z hq
def zA8 (hP:uI P TT) {T:Nat} {p x:Operand} {k i off sz:Nat} {xs:List AV} {y v y':AV} {ti:TI} {nest:Bool} (hp:yJ (zG tm) p= .ptr k i off) (hx:yJ (zG tm) x=v) (hk:zC h k=some (.arr sz xs ⟨false,nest⟩)) (hy:xs[i]? =some y) (hT:TT[T]? =some ti)
  (h1:v.ok=true) (h2:Nat.beq v.cells.length ti.size=true) (h3:Nat.ble (off+ti.size) y.cells.length=true) (h4:(nest||v.nokey)=true) (h5:Nat.ble 1 ti.size=true) (h6:v.cells.all (λv=>!v.isAgg)=true) (he:zV4 y off v.cells=some y')
  (hq:zX P F m ops dr rest ⟨tm,(k,.arr sz (xs.set i y') ⟨false,nest⟩)::h⟩ (⟨true,[k],[k]⟩::fs) Q):zX P F m ops dr (⟨none,.store T p x,ty,pos,after,none⟩::rest) ⟨tm,h⟩ fs Q:=by
 have hs:=ZY (st:=⟨tm,h⟩) hP hp hx hk hy hT h1 h2 h3 h4 h5 h6;rw[zQs he]at hs;exact x_s (nw:=[]) hs Z Z hq
def zV5 (hP:uI P TT) {T:Nat} {p x:Operand} {k i sz:Nat} {xs ds cs:List AV} {ti:TI} {nest:Bool} (hp:yJ (zG tm) p= .ptr k i 0) (hx:yJ (zG tm) x= .agg cs) (hk:zC h k=some (.arr sz xs ⟨false,nest⟩)) (hy:xs[i]? =some (.agg ds)) (hT:TT[T]? =some ti)
  (h2:Nat.beq cs.length ti.size=true) (h3:Nat.beq ti.size ds.length=true) (h4:(nest||(AV.agg cs).nokey)=true) (h5:Nat.ble 1 ti.size=true) (h6:cs.all (λv=>!v.isAgg)=true)
  (hq:zX P F m ops dr rest ⟨tm,(k,.arr sz (xs.set i (.agg cs)) ⟨false,nest⟩)::h⟩ (⟨true,[k],[k]⟩::fs) Q):zX P F m ops dr (⟨none,.store T p x,ty,pos,after,none⟩::rest) ⟨tm,h⟩ fs Q:=by
 have e2:=yA2 h2;have e3:=yA2 h3;have hs:=ZY (st:=⟨tm,h⟩) hP hp hx hk hy hT Z (by simpa [AV.cells]using h2) (yDr (by simp[AV.cells];omega)) h4 h5 h6
 have:IX (.agg ds) 0 (AV.agg cs).cells= .agg cs:=by
  unfold IX AV.cells;dsimp only
  congr 1
  apply yBi;intro j;rw[ZA _ _ _ _ (by omega)];split
  ·rfl
  ·rw[yAz (by omega),yAz (by omega)]
 rw[this]at hs;exact x_s (nw:=[]) hs Z Z hq
theorem xV.nsplit {a:Act} {w:World} (H:xV F m ⟨tm,h⟩ a w) {t:Nat} {xs:List AV} (hv:zG tm t= .sl false xs):(∃cap,xs=[]/\xV F m ⟨(t,.s (.slice none 0 cap))::tm,h⟩ a w)∨xV F m ⟨(t,.sl true xs)::tm,h⟩ a w:=by
 obtain⟨⟨X,β,hX,HH,Ht,KK,hJ,hD⟩,nd,gs,hl⟩:=H
 have key:∀v,(∀i,v≠ .gh i)->zQ w (xK X β) (zC h) β v (a.eval (.tmp t))->xV F m ⟨(t,v)::tm,h⟩ a w:=λv hg hv=>by
  refine⟨⟨X,β,hX,HH,λj=>?_,KK,λi hi=>?_,hD⟩,nd,gs,hl⟩
  ·rw[yF];split
   ·rename_i hj;subst hj;exact hv
   ·exact Ht j
  ·rw[yF]at hi;split at hi
   ·exact absurd hi (hg i)
   ·exact hJ i hi
 have h0:=Ht t;dsimp only at h0;rw[hv]at h0;generalize hc:a.eval (.tmp t)=c at*
 cases h0 with
 | fz _ _ hf=>
  cases hf with
  |nil b cap=>
   cases b with
   |none=>exact .inl ⟨cap,rfl,key _ (λ_ h=>by cases h) (.fz _ _ (.s _))⟩
   |some b=>exact .inr (key _ (λ_ h=>by cases h) (.fz _ _ (.nil1 b cap)))
  |sl _ _ b o sz cap f hx hL hcc hh=>exact .inr (key _ (λ_ h=>by cases h) (.fz _ _ (.sl true _ b o sz cap f hx hL hcc hh)))
def yS {c:Code} {Q:Exit->St->Prop} (t:Nat) {xs:List AV} (hv:zG tm t= .sl false xs) (h1:∀cap,xs=[]->vK P F m c ⟨(t,.s (.slice none 0 cap))::tm,h⟩ Q) (h2:vK P F m c ⟨(t,.sl true xs)::tm,h⟩ Q):vK P F m c ⟨tm,h⟩ Q:=
 ⟨λa w H=>by
  rcases H.nsplit hv with⟨cap,hx,H1⟩|H2
  ·exact(h1 cap hx).run a w H1
  ·exact h2.run a w H2⟩
end
section
variable {P:Program} {K0:List Nat} {F:Fr K0} {m:Nat} {tm:List (Nat×AV)} {h:List (Nat×xN)}
def zA9 {X:Nat->Prop} {h:yC} {β:vP} {w:World} (H:qV X h β w) {K:Nat} (hK:h K=none) {sz:Nat} (hp:1<=sz):yX X w h β w (over [(K,.arr sz [] false)] h) (dI β K []):=
 yX.step H K _ _ (yAb _) (λ_ _ _=>rfl) Z Z Z (λb n hm=>by simp at hm) (λ_ _ _=>rfl) (λe he=>by rw[hK]at he;cases he) (λE=>⟨hp,by simp,λh=>absurd Z h,λi y hy=>by simp at hy,
  λb n r hr=>by rw[zZ]at hr;simp at hr,λ_ _=>undef,λi y j v hy _=>by simp at hy,λi j hi _=>by simp at hi,λb n hm=>by rw[zZ]at hm;simp at hm⟩)
theorem xV.virtF {a:Act} {w:World} (H:xV F m ⟨tm,h⟩ a w) (t K sz:Nat) {cap:Nat} (hv:zG tm t= .s (.slice none 0 0)) (hK:(zC h K).isNone=true) (hp:Nat.ble 1 sz=true):xV F m ⟨(t,.ref K 0 0)::tm,(K,.arr sz [] false)::h⟩ a w:=by
 obtain⟨⟨X,β,hX,HH,Ht,KK,hJ,hD⟩,nd,gs,hl⟩:=H;have hk:zC h K=none:=by simpa using hK
 have G:=zA9 HH hk (yAq hp);have nd':∀k,over [(K,.arr sz [] false)] (zC h) k≠some .dead:=gM Z nd
 have R:XF F m (zG ((t,.ref K 0 0)::tm)) (over [(K,.arr sz [] false)] (zC h)) a w:=by
  refine⟨⟨X,_,hX,G.hok,λj=>?_,KK.goes G nd' (G.lives HH nd'),λi hi=>?_,hD.goes HH G⟩,nd',gs,hl⟩
  ·rw[yF];split
   ·rename_i hj;subst hj;have:=Ht j;rw[hv]at this;rw[this.s_inv];exact .ref0 K 0 sz [] false none (qA _ _ _) (yAb _)
   ·exact(Ht j).evo G.evo
  ·rw[yF]at hi;split at hi
   ·cases hi
   ·exact F.go G (hJ i hi)
 unfold xV;dsimp only;rw[show zC ((K,.arr sz [] false)::h)=over [(K,.arr sz [] false)] (zC h)from wQ [(K,.arr sz [] false)] h];exact R
def uH {c:Code} {Q:Exit->St->Prop} (t K sz:Nat) (hv:zG tm t= .s (.slice none 0 0)) (hK:(zC h K).isNone=true) (hp:Nat.ble 1 sz=true) (hk:vK P F m c ⟨(t,.ref K 0 0)::tm,(K,.arr sz [] false)::h⟩ Q):vK P F m c ⟨tm,h⟩ Q:=
 ⟨λa w H=>hk.run a w (H.virtF (cap:=0) t K sz hv hK hp)⟩
end
structure cY (X X':Nat->Prop) (W W':World):Prop where
 size:W.heap.size<=W'.heap.size
 fz:∀b,b<W.heap.size->¬X b->W'.heap[b]? =W.heap[b]? /\¬X' b
 sup:∀b,X b->X' b
 lt:∀b,X' b->b<W'.heap.size
 os:W'.os=W.os
 tape:W'.tape=W.tape
 output:W'.output=W.output
def YOK {K0:List Nat} (P:Program) (F:Fr K0) (l:Nat) (xs:List (List AV)):Prop:=
 ∀(i:Nat) (ys:List AV) (X O:Nat->Prop) (W:World) (cs:Array Value),xs[i]? =some ys->F.J i O X W->cs.size=ys.length->(∀(j:Nat) v,ys[j]? =some v->xH W (λb=>X b∨O b) v (cs.getD j undef))->
  YieldAt Fence.wide 0 P l cs W λe W'=>(e= .returned (.bool true)/\∃X',cY X X' W W'/\F.J (i+1) O X' W')∨(e= .returned (.bool false)/\∃X',cY X X' W W'/\F.J (xs.length+1+i) O X' W')
section
variable {X X':Nat->Prop} {W W':World} {h:yC} {β:vP}
theorem cY.evo (H:qV X h β W) (q:cY X X' W W'):GO W (xK X β) h β W' (xK X' β) h β:=
 ⟨q.size,λb hb hd=>⟨(q.fz b hb λhx=>hd (.inl hx)).1,λh'=>h'.elim (q.fz b hb λhx=>hd (.inl hx)).2 λho=>hd (.inr ho)⟩,λk b n hm=>by
  unfold wB World.shape?
  rw[(q.fz b (H.lt b (.inr ⟨k,n,hm⟩)) (H.free k b n hm)).1],qO h β⟩
theorem cY.hok (H:qV X h β W) (q:cY X X' W W'):qV X' h β W':=
 ⟨λk e he=>(H.ent k e he).evo (q.evo H) Z λb n hm=>(q.fz b (H.lt b (.inr ⟨k,n,hm⟩)) (H.free k b n hm)).1,H.off,H.disj,λk b n hm=>(q.fz b (H.lt b (.inr ⟨k,n,hm⟩)) (H.free k b n hm)).2,
  λb hd=>hd.elim (q.lt b) λho=>yBl (H.lt b (.inr ho)) q.size⟩
end
section
variable {P:Program} {K0:List Nat} {F:Fr K0} {m:Nat} {ops:Array Oper} {rest:List Oper} {tm:List (Nat×AV)} {h:List (Nat×xN)}
theorem XF.quiet {X X':Nat->Prop} {β:vP} {hh:yC} {t:Nat->AV} {a:Act} {W W':World} {j:Nat} (hit:F.it=true) (hV:∀b,F.X b->F.V b) (hX:XOK F X) (H:qV X hh β W) (Ht:∀s,zQ W (xK X β) hh β (t s) (a.eval (.tmp s))) (KK:jY F hh β W) (hD:DOK X F a.defers W) (nd:∀k,hh k≠some .dead) (gs:m<=GS) (hl:a.tmps.size=m)
  (q:cY X X' W W') (hj:F.J j (Own β) X' W') (d:Nat) (hd:d<m) (b:Bool):XF F m (λs=>if s=GS then .gh j else if s=d then .s (.bool b)else t s) hh (a.put (some d) (.bool b)) W':=by
 have E:=q.evo H;refine⟨⟨X',β,⟨λc hc=>q.sup c (hX.1 c hc),λc hc=>?_⟩,q.hok H,λs=>?_,?_,λi hi=>?_,?_⟩,nd,gs,by simp[Act.put,hl]⟩
 ·by_cases hb:c<W.heap.size
  ·by_cases hxc:X c
   ·exact hX.2 c hxc
   ·exact absurd hc (q.fz c hb hxc).2
  ·exact .inr (yBm KK.size (Nat.le_of_not_lt hb))
 ·split
  ·exact .fz _ _ (.gh _ _)
  ·split
   ·rename_i hs;subst hs;have:s<a.tmps.size:=by rw[hl];exact hd
    have e:(a.put (some s) (.bool b)).eval (.tmp s)= .bool b:=by simp[Act.put,Act.eval,this]
    rw[e];exact .fz _ _ (.s _)
   ·rename_i hs;rw[Act.eval_put (λd' hd' e=>hs (by cases hd';injection e with e))];exact(Ht s).evo E
 ·exact⟨KK.knd,yBm KK.size q.size,λc hc hi hn=>by
   have h1:¬X c:=λhx=>(hX.2 c hx).elim (λh=>hi (hV c h)) λh=>by omega
   rw[(q.fz c (yBl hc KK.size) h1).1]
   exact KK.keep c hc hi hn,KK.own,KK.pas,λk c n hm=>by
   obtain⟨n',_,hm'⟩:=KK.pas k c n hm
   rw[E.bs k c n' hm',KK.bs k c n hm],q.os.trans KK.os,q.tape.trans KK.tape,q.output.trans KK.output⟩
 ·simp only[zZ8 Z]at hi;cases hi;exact hj
 ·obtain⟨bs,h1,h0,h2,h3⟩:=hD;have:=h0 hit;subst this;exact⟨[],h1,λ_=>rfl,h2,λb hb=>by simp at hb⟩
def zFe {xs:List (List AV)} {ys:List AV} {l i y t ty:Nat} {asq:Array Operand} {ats:Array Nat} {pos:String} {after:Array Edge} {Q:St->Prop} (hit:F.it=true/\∀b,F.X b->F.V b) (hY:YOK P F l xs) (hy:zG tm y= .s (.func (.yield l) #[] #[])) (hg:zG tm GS= .gh i) (hxs:xs[i]? =some ys)
  (hvs:asq.toList.map (yJ (zG tm))=ys) (hnk:xY ys=true) (hm:Nat.blt t m=true)
  (h1:GN P F m ops rest ⟨(GS,.gh (i+1))::(t,.s (.bool true))::tm,h⟩ Q) (h2:GN P F m ops rest ⟨(GS,.gh (xs.length+1+i))::(t,.s (.bool false))::tm,h⟩ Q):
  GN P F m ops (⟨some t,.call ⟨.value (.tmp y),asq,ats⟩,ty,pos,after,none⟩::rest) ⟨tm,h⟩ Q:=λa w H=>by
 obtain⟨⟨X,β,hX,HH,Ht,KK,hJ,hD⟩,nd,gs,hl⟩:=H;have hj:=hJ i hg
 have hyv:a.eval (.tmp y)= .func (.yield l) #[] #[]:=by
  have:=Ht y;dsimp only at this;rw[hy]at this;exact this.s_inv
 have hlen:asq.toList.length=ys.length:=by rw[<-hvs];simp
 obtain⟨fn,tmps,assign,body,hrun,hround⟩:=hY i ys X (Own β) w (asq.map a.eval) hxs hj (by simpa using hlen) (λj v hv=>by
  rw[<-hvs,yAa,yAo]at hv;obtain⟨x,hx,rfl⟩:=hv;have hx':asq[j]? =some x:=by simpa using hx
  have e:(asq.map a.eval).getD j undef=a.eval x:=by simp[yAy,hx']
  rw[e];have hv2:(ys[j]?)=some (yJ (zG tm) x):=by rw[<-hvs];simp[hx]
  exact(gJ Ht x).toF (kE hnk hv2))
 refine wpListIn_plain Z λK hK=>⟨λ_ _=>trivial,?_⟩
 have he:((⟨some t,.call ⟨.value (.tmp y),asq,ats⟩,ty,pos,after,none⟩:Oper).semAt (fen F.ro).round a.eval).run P w= .ok (.round l fn tmps assign body) w:=by
  rw[Oper.semAt_eq _ _ _ (λc hc=>by cases hc)];rw[<-hrun];simp[execOp,resolve,hyv,Deferred.ofValue,invoke]
 rw[he];refine⟨λhx=>by simp[fen,Fence.wide]at hx,?_⟩;refine RoundIn.mono (F:=Fence.wide) hround ?_;rintro e W' (⟨rfl,X',q,hj'⟩|⟨rfl,X',q,hj'⟩)
 ·refine hK _ _ (h1 _ _ ?_);have R:=XF.quiet hit.1 hit.2 hX HH Ht KK hD nd gs hl q hj' t (yAq hm) true;unfold xV;refine R.congr (λs=>?_) (λ_=>rfl);rw[yF,yF]
 ·refine hK _ _ (h2 _ _ ?_);have R:=XF.quiet hit.1 hit.2 hX HH Ht KK hD nd gs hl q hj' t (yAq hm) false;unfold xV;refine R.congr (λs=>?_) (λ_=>rfl);rw[yF,yF]
def RV {xs:List (List AV)} {ys:List AV} {l i y t ty:Nat} {asq:Array Operand} {ats:Array Nat} {pos:String} {after:Array Edge} {fs:List FP} {Q:List FP->St->Prop} (hit:F.it=true/\∀b,F.X b->F.V b) (hY:YOK P F l xs) (hy:zG tm y= .s (.func (.yield l) #[] #[])) (hg:zG tm GS= .gh i) (hxs:xs[i]? =some ys)
 (hvs:asq.toList.map (yJ (zG tm))=ys) (hnk:xY ys=true) (hm:Nat.blt t m=true)
 (h1:zX P F m ops false rest ⟨(GS,.gh (i+1))::(t,.s (.bool true))::tm,h⟩ fs Q) (h2:zX P F m ops false rest ⟨(GS,.gh (xs.length+1+i))::(t,.s (.bool false))::tm,h⟩ fs Q):
 zX P F m ops false (⟨some t,.call ⟨.value (.tmp y),asq,ats⟩,ty,pos,after,none⟩::rest) ⟨tm,h⟩ fs Q:=⟨zFe hit hY hy hg hxs hvs hnk hm h1.run h2.run⟩
end
structure ZE (P:Program) (f:Nat) (caps:List AV) (h0:List (Nat×xN)) (xs:List (List AV)):Prop where
 able:dS P f
 sim:∀(l:Nat) (cv:Array Value) (F:Fr (yO h0)),(F.it=true/\∀b,F.X b->F.V b)->F.ro=none->F.h0=zC h0->cv.size=caps.length->qV F.X (zC h0) F.β0 F.w0->(∀(i:Nat) v,caps[i]? =some v->zQ F.w0 (xK F.X F.β0) (zC h0) F.β0 v (cv.getD i undef))->
  F.J 0 (Own F.β0) F.X F.w0->YOK P F l xs->Calls P f (#[.func (.yield l) #[] #[]]++cv) F.w0 λe w'=>(∃v,e= .returned v)/\∃i O X,F.J i O X w'/\(i=xs.length∨xs.length<i)
def zV6 (n:Nat) (e:Exit) (st:St):Prop:=(e= .normal∨e= .ret)/\∃i,zG st.tm GS= .gh i/\(i=n∨n<i)
def dV {n i:Nat} {st:St} (h:zG st.tm GS= .gh i) (hi:i=n∨n<i):zV6 n .ret st:=⟨.inr Z,i,h,hi⟩
def aL {n i:Nat} {st:St} (h:zG st.tm GS= .gh i) (hi:i=n∨n<i):zV6 n .normal st:=⟨.inl Z,i,h,hi⟩
theorem cT {P:Program} {f:Nat} {fn:Func} {body:Code} {caps:List AV} {h0:List (Nat×xN)} {xs:List (List AV)} (hf:P.funcs[f]? =some fn) (hb:fn.body=some body) (able:dS P f) (hlen:Nat.ble (caps.length+1) fn.ntmps=true) (hres:fn.results= #[])
  (hnd:vJ h0=true) (h:∀(F:Fr (yO h0)) (l:Nat),F.ro=none->(F.it=true/\∀b,F.X b->F.V b)->YOK P F l xs->vK P F fn.ntmps body ⟨(GS,.gh 0)::VA 0 (.s (.func (.yield l) #[] #[])::caps),h0⟩ (zV6 xs.length)) (hgs:Nat.ble fn.ntmps GS=true:=by rfl):ZE P f caps h0 xs:=by
 refine⟨able,λl cv F hit hro hh0 hcl H hcaps hj hY=>(callsIn_wide (n:=0)).1 ?_⟩;have hlen:=yAq hlen;have hw:∀(c:Code) Q a w,c.wpIn (fen F.ro) 0 P Q a w->c.wpIn Fence.wide 0 P Q a w:=λc Q a w h=>by rw[hro]at h;exact h
 refine callsIn_of_wp_marks (F:=Fence.wide) (n:=0) hf hb trivial (hw _ _ _ _ (Code.wpIn_mono (λe a' w1 q=>?_) ((h F l hro hit hY).run _ F.w0 ⟨⟨F.X,F.β0,⟨λ_ h=>h,λ_ h=> .inl h⟩,H,λt=>?_,⟨λk e he=>?_,yAb _,λ_ _ _ _=>rfl,λk b n hm=> .inl ⟨k,n,hm⟩,λk b n hm=>⟨n,yAb _,hm⟩,λ_ _ _ _=>rfl,rfl,rfl,rfl⟩,λi hi=>?_,[],rfl,λ_=>rfl,yFr,λb hb=>by simp at hb⟩,λk=>uG hnd,yAq hgs,?_⟩))) Z
 ·obtain⟨st,⟨he,i,hi,hn⟩,⟨⟨X2,β2,_,_,_,_,hJ2,bs,hds,hbs,_⟩,_,_,_⟩⟩:=q;have hb0:=hbs hit.1;subst hb0
  have goal:LeavesInM Fence.wide 0 P fn a'.tmps (λe w'=>(∃v,e= .returned v)/\∃i O X,F.J i O X w'/\(i=xs.length∨xs.length<i)) a'.defers .returning w1:=by
   rw[hds];refine⟨.tuple #[],by simp[results,hres],⟨_,rfl⟩,i,_,_,hJ2 i hi,hn⟩
  rcases he with rfl|rfl
  ·exact goal
  ·exact goal
 ·dsimp only;rw[yF];split
  ·exact .fz _ _ (.gh _ _)
  ·rw [YY,zZ8 (yAp _),yFc]
   cases t with
   | zero=>
    have e:Act.eval {tmps:= #[Value.func (.yield l) #[] #[]]++cv++Array.replicate (fn.ntmps-(#[Value.func (.yield l) #[] #[]]++cv).size) undef,defers:=[]} (.tmp 0)= .func (.yield l) #[] #[]:=by
     simp[Act.eval,yAy,Array.getElem?_append]
    rw[e];exact .fz _ _ (.s _)
   | succ t=>
    rw[List.getD_cons_succ];by_cases ht:t<caps.length
    ·have h2:caps[t]? =some (caps.getD t .bot):=by simp[List.getD,ht]
     have e:Act.eval {tmps:= #[Value.func (.yield l) #[] #[]]++cv++Array.replicate (fn.ntmps-(#[Value.func (.yield l) #[] #[]]++cv).size) undef,defers:=[]} (.tmp (t+1))=cv.getD t undef:=by
      simp only[Act.eval,yAy];rw[yCb vA,yD0 zU];simp
     rw[e];exact hcaps t _ h2
    ·have:caps.getD t .bot= .bot:=by simp[List.getD,yAz (by omega:caps.length<=t)]
     rw[this];exact .fz _ _ (.bot _)
 ·rw[hh0]at he
  cases e with
  |dead=>exact absurd he (uG hnd)
  |box cs=>exact⟨cs,he⟩
  |obj cs=>exact⟨cs,he⟩
  |arr sz xs sl=>exact⟨xs,sl,he,yAb _⟩
 ·dsimp only at hi;rw[yF,zZ8 Z]at hi;cases hi;exact hj
 ·simp;omega
def βr (K:List Nat) (β:vP):vP:=λk=>if k∈K then β k else []
def ZZ {K:List Nat} {β:vP} {k:Nat} (h:k∈K):βr K β k=β k:=by simp[βr,h]
def qG {K:List Nat} {β:vP} {k b n:Nat} (h:(b,n)∈βr K β k):k∈K/\(b,n)∈β k:=by
 unfold βr at h;split at h
 ·exact⟨‹_›,h⟩
 ·simp at h
theorem zZw {X Xc:Nat->Prop} {h:yC} {β:vP} {w:World} {h0:List (Nat×xN)} (HH:qV X h β w) (hK:∀k,k∈yO h0->h k=zC h0 k) (hclosed:∀k e,zC h0 k=some e->clE (yO h0) e=true)
  (hXc:∀b,Xc b->X b∨∃k n,¬k∈yO h0/\(b,n)∈β k):
  qV Xc (zC h0) (βr (yO h0) β) w/\∀v c,zQ w (xK X β) h β v c->(∀k,k∈v.refs->k∈yO h0)->zQ w (xK Xc (βr (yO h0) β)) (zC h0) (βr (yO h0) β) v c:=by
 have hβc:∀k,k∈yO h0->βr (yO h0) β k=β k:=λk hk=>ZZ hk
 have hDc:∀b,xK Xc (βr (yO h0) β) b->xK X β b:=λb hd=>by
  rcases hd with hx|⟨k,n,hm⟩
  ·exact(hXc b hx).imp id λ⟨k,n,_,hm⟩=>⟨k,n,hm⟩
  ·exact .inr ⟨k,n,(qG hm).2⟩
 have hclv:∀v c,zQ w (xK X β) h β v c->(∀k,k∈v.refs->k∈yO h0)->zQ w (xK Xc (βr (yO h0) β)) (zC h0) (βr (yO h0) β) v c:=by
  intro v c hv;have ef:∀{v c},xH w (xK X β) v c->xH w (xK Xc (βr (yO h0) β)) v c:=λhf=>hf.evo (yAb _) λb _ hd=>⟨rfl,λh'=>hd (hDc b h')⟩
  induction hv with
  |fz v c hf=>exact λ_=> .fz _ _ (ef hf)
  |agg cs c hl h1 _ ih=>exact λhr=> .agg cs c hl h1 λi v hv=>ih i v hv λk hk=>hr k (by simpa [AV.refs]using wI hv hk)
  |fn f caps c hl _ ih=>exact λhr=> .fn f caps c hl λi v hv=>ih i v hv λk hk=>hr k (by simpa [AV.refs]using wI hv hk)
  |tup vs c hl _ ih=>exact λhr=> .tup vs c hl λi v hv=>ih i v hv λk hk=>hr k (by simpa [AV.refs]using wI hv hk)
  |dref k off len c hk h1=>exact λhr=> .dref _ _ _ _ ((hK k (hr k (by simp[AV.refs])))▸hk) h1
  |dptr k i off c hk h1=>exact λhr=> .dptr _ _ _ _ ((hK k (hr k (by simp[AV.refs])))▸hk) h1
  |ref k off len sz xs st b n cap hk hb hn hc hs=>exact λhr=> .ref k off len sz xs st b n cap ((hK k (hr k (by simp[AV.refs])))▸hk) (by rw[hβc k (hr k (by simp[AV.refs]))];exact hb) hn hc hs
  |ref0 k off sz xs st a hk hn=>exact λhr=> .ref0 k off sz xs st a ((hK k (hr k (by simp[AV.refs])))▸hk) hn
  |pbox k off cs b n hk hb=>exact λhr=> .pbox k off cs b n ((hK k (hr k (by simp[AV.refs])))▸hk) (by rw[hβc k (hr k (by simp[AV.refs]))];exact hb)
  |parr k i off sz xs st b n hk hb hi ho=>exact λhr=> .parr k i off sz xs st b n ((hK k (hr k (by simp[AV.refs])))▸hk) (by rw[hβc k (hr k (by simp[AV.refs]))];exact hb) hi ho
 refine⟨⟨λk e he=>?_,λk he=>?_,λk k' b n n' q1 q2=>HH.disj _ _ _ _ _ (qG q1).2 (qG q2).2,λk b n hm hx=>?_,λb hd=>HH.lt b (hDc b hd)⟩,hclv⟩
 ·have hk:=vT he
  refine(HH.ent k e ((hK k hk).trans he)).lift (hβc k hk) (λcs hcs i v c hi hv=>hclv v c hv λj hj=>by
   have:=hclosed k e he;rw[hcs]at this
   simpa using yAm.1 this j (wI hi hj)) λsz xs fl hxs i x j v c hi hj=>⟨λhf=>hf.evo (yAb _) λb _ hd=>⟨rfl,λh'=>hd (hDc b h')⟩,λhn hv=>hclv v c hv λq hq=>by
   have:=hclosed k e he;rw[hxs]at this;simp only[clE,hn,yBn]at this
   simpa using yAm.1 this q (wI hi (XD hj hq))⟩
 ·unfold βr;rw[zZ7];intro hk;obtain⟨e,hk⟩:=dT hk;rw[he]at hk;cases hk
 ·obtain⟨hk,hm⟩:=qG hm
  rcases hXc b hx with hx|⟨k',n',hk',hm'⟩
  ·exact HH.free k b n hm hx
  ·exact hk' (HH.disj k k' b n n' hm hm'▸hk)
def zBa (h:yC):Prop:=∀k sz xs fl,h k=some (.arr sz xs fl)->fl.nest=false
def nnH:List (Nat×xN)->Bool
 | []=>true
 |(_,e)::r=>match e with
  | .arr _ _ fl=>!fl.nest&&nnH r
  |_=>nnH r
theorem zMg:∀{h:List (Nat×xN)},nnH h=true->zBa (zC h)
 | [],_,k,sz,xs,fl,he=>by simp[zC]at he
 | (j,e)::r,hn,k,sz,xs,fl,he=>by
  rw[yQ]at he;split at he
  ·cases he;simp[nnH]at hn;exact hn.1
  ·refine zMg (h:=r) ?_ k sz xs fl he
   cases e with
   |arr _ _ _=>simp[nnH]at hn;exact hn.2
   |_=>exact hn
def zQt {h:yC} (nn:zBa h) (K:List Nat):∀v:AV,uT K h v=wD K h v:=by
 intro v;refine AV.rec (motive_1:=λv=>uT K h v=wD K h v) (motive_2:=λcs=>wH K h cs=uO K h cs) ?_ ?_ ?_ ?_ ?_ ?_ ?_ ?_ ?_ ?_ ?_ ?_ ?_ ?_ v
 ·rfl
 ·exact λ_=>rfl
 ·exact λ_=>rfl
 ·exact λcs ih=>by simp only[uT,wD];rw[ih]
 ·exact λ_ _ _=>rfl
 ·exact λ_ _ _=>rfl
 ·intro k off len;simp only[uT,wD]
  cases K.contains k with
  |true=>rfl
  |false=>
   simp only[yB5];split
   ·rename_i xs fl he;rw[nn _ _ _ _ he];rfl
   ·rfl
 ·intro k i off;rfl
 ·exact λ_ _ _ _=>rfl
 ·exact λf cs ih=>by simp only[uT,wD];rw[ih]
 ·exact λcs ih=>by simp only[uT,wD];rw[ih]
 ·exact λ_ _=>rfl
 ·rfl
 ·exact λv r h1 h2=>by simp only[wH,uO];rw[h1,h2]
theorem qV.restrX {X X':Nat->Prop} {h:yC} {β:vP} {w:World} (H:qV X h β w) (K Kd:List Nat) (hx:∀b,X' b->X b∨∃k n,k∈Kd/\(b,n)∈β k) (hdis:∀k,k∈Kd->¬k∈K) (nn:zBa h)
  (hent:∀k cs,k∈K->h k=some (.box cs)->∀j,j∈kM cs->¬j∈Kd):
  qV X' (zC (wY K h)) (βr K β) w/\∀v c,(∀j,j∈v.refs->¬j∈Kd)->zQ w (xK X β) h β v c->zQ w (xK X' (βr K β)) (zC (wY K h)) (βr K β) (wD K h v) c:=by
 have hsub:∀b,xK X' (βr K β) b->xK X β b:=λb hd=>by
  rcases hd with hb|⟨k,n,hm⟩
  ·exact(hx b hb).imp id λ⟨k,n,_,hm⟩=>⟨k,n,hm⟩
  ·exact .inr ⟨k,n,(qG hm).2⟩
 have hv:∀v c,(∀j,j∈v.refs->¬j∈Kd)->zQ w (xK X β) h β v c->zQ w (xK X' (βr K β)) (zC (wY K h)) (βr K β) (wD K h v) c:=λv c hr hv=>by
  rw[<-zQt nn];refine zQ.fz0 H (K:=K) (λk hk e he=>?_) (λk hk=>ZZ hk) (λb _ hd h'=>hd (hsub b h')) hv λk hk0=>?_
  ·rw[wE,zZ8 hk,he]
   cases e with
   |box cs=>exact⟨_,rfl⟩
   |obj cs=>exact⟨_,rfl⟩
   |arr sz xs fl=>exact⟨xs,fl,by simp only[Option.map_some,qK,nn _ _ _ _ he,yB5],rfl⟩
   |dead=>rfl
  ·by_cases hk:k∈K
   ·exact .inl hk
   ·refine .inr λb n hm=>?_
    rintro(hb|⟨k',n',hm'⟩)
    ·rcases hx b hb with hb|⟨k',n',hk',hm'⟩
     ·exact H.free k b n hm hb
     ·exact hr k hk0 (H.disj k k' b n n' hm hm'▸hk')
    ·obtain⟨hk',hm'⟩:=qG hm';exact hk (H.disj k k' b n n' hm hm'▸hk')
 have ef:∀{v c},xH w (xK X β) v c->xH w (xK X' (βr K β)) v c:=λhf=>hf.evo (yAb _) λb _ hd=>⟨rfl,λh'=>hd (hsub b h')⟩
 refine⟨⟨λk e he=>?_,λk he=>?_,λk k' b n n' h1 h2=>H.disj _ _ _ _ _ (qG h1).2 (qG h2).2,λk b n hm hb=>?_,λb hd=>H.lt b (hsub b hd)⟩,hv⟩
 ·rw[wE]at he;split at he
  ·rename_i hk;rw[yAo]at he;obtain⟨e0,he0,rfl⟩:=he;have:=H.ent k e0 he0
   cases e0 with
   |dead=>show βr K β k=[];rw[ZZ hk];exact this
   |box cs=>
    obtain⟨b,c,el,h1,h2,h3,h4,h5⟩:=this;refine⟨b,c,el,by rw[ZZ hk];exact h1,h2,by rw[vM];exact h3,h4,λi v hi=>?_⟩;rw[cN,yAo]at hi;obtain⟨u,hu,rfl⟩:=hi;exact hv u _ (λj hj=>hent k cs hk he0 j (wI hu hj)) (h5 i u hu)
   |obj cs=>
    exact⟨by rw[ZZ hk];exact this.1,this.2⟩
   |arr sz xs st=>
    obtain⟨g1,g2,g3,g4,g5,f,g6,g7,g8⟩:=this;have hn:=nn _ _ _ _ he0;rw[show qK K h (.arr sz xs st)= .arr sz xs st by simp only[qK,hn,yB5]];exact⟨g1,g2,by rw[ZZ hk];exact g3,g4,by rw[ZZ hk];exact g5,f,.ofF λi x j v hx hy=>ef (g6.toF hn i x j v hx hy),g7,by rw[ZZ hk];exact g8⟩
  ·cases he
 ·unfold βr;split
  ·rename_i hk;rw[wE,zZ8 hk]at he
   cases hk':h k with
   |none=>exact H.off k hk'
   |some e=>simp[hk']at he
  ·rfl
 ·obtain⟨hk,hm⟩:=qG hm
  rcases hx b hb with hb|⟨k',n',hk',hm'⟩
  ·exact H.free k b n hm hb
  ·exact hdis k' hk' (H.disj k k' b n n' hm hm'▸hk)
def zMh (K:List Nat) (h h':yC):∀v:AV,wD K h' (wD K h v)=wD K h v:=by
 intro v;refine AV.rec (motive_1:=λv=>wD K h' (wD K h v)=wD K h v) (motive_2:=λcs=>uO K h' (uO K h cs)=uO K h cs) ?_ ?_ ?_ ?_ ?_ ?_ ?_ ?_ ?_ ?_ ?_ ?_ ?_ ?_ v
 ·rfl
 ·exact λ_=>rfl
 ·exact λ_=>rfl
 ·exact λcs ih=>by simp only[wD];rw[ih]
 ·exact λ_ _ _=>rfl
 ·exact λ_ _ _=>rfl
 ·intro k off len;simp only[wD]
  cases hc:K.contains k with
  |true=>simp only[yBn,wD,hc]
  | false=>
   simp only[yB5]
   rcases h k with _|(_|⟨_,xs,fl⟩|_|_)
   ·rfl
   ·rfl
   ·dsimp only
    cases fl.nest with
    |false=>rfl
    |true=>
     simp only[yBn]
     cases xY (wH K h xs)<;>rfl
   ·rfl
   ·rfl
 ·intro k i off;simp only[wD]
  cases hc:K.contains k with
  |true=>simp only[yBn,wD,hc]
  |false=>rfl
 ·exact λ_ _ _ _=>rfl
 ·exact λf cs ih=>by simp only[wD];rw[ih]
 ·exact λcs ih=>by simp only[wD];rw[ih]
 ·exact λ_ _=>rfl
 ·rfl
 ·exact λv r h1 h2=>by simp only[uO];rw[h1,h2]
section
variable {K0:List Nat} {F:Fr K0} {h:yC} {β:vP} {w w':World} {X:Nat->Prop}
theorem jY.toGoes (hV:∀b,¬F.V b) (H0:qV F.X F.h0 F.β0 F.w0) (H:qV X h β w) (K:jY F h β w) (nd:∀k,F.h0 k≠some .dead):yX X F.w0 F.h0 F.β0 w h β where
 size:=K.size
 keep b hb hn:=K.keep b hb (hV b) hn
 own:=K.own
 bs:=K.bs
 key k e he:=by
  refine .inr ?_;have h1:=K.knd k e he
  cases e with
  |dead=>exact absurd he (nd k)
  |box cs0=>
   obtain⟨cs',h2⟩:=h1;refine⟨⟨_,h2⟩,λb n hm=>?_⟩;obtain⟨n',hn',hm'⟩:=K.pas k b n hm;obtain⟨b2,_,_,e2,_⟩:=H.ent k _ h2;obtain⟨b1,_,_,e1,_⟩:=H0.ent k _ he;rw[e1]at hm;rw[e2]at hm'⊢;simp at hm hm'⊢;exact⟨hm'.1,hm.2⟩
  |obj cs=>
   obtain⟨cs',h2⟩:=h1;refine⟨⟨_,h2⟩,λb n hm=>?_⟩;obtain⟨n',hn',hm'⟩:=K.pas k b n hm;have e2:=(H.ent k _ h2).1;have e1:=(H0.ent k _ he).1;rw[e1]at hm;rw[e2]at hm'⊢;simp at hm hm'⊢;exact⟨hm'.1,hm.2⟩
  |arr sz xs sl=>
   obtain⟨xs',sl',h2,h3⟩:=h1;exact⟨⟨xs',sl',h2,h3⟩,λb n hm=>K.pas k b n hm⟩
 hok:=H
 os:=K.os
 tape:=K.tape
 output:=K.output
theorem jY.turn (K:jY F h β w) (H:qV X h β w) (hs:w'.heap.size=w.heap.size) (hk:∀b,b<w.heap.size->¬X b->w'.heap[b]? =w.heap[b]?) (hl:∀b,b<F.w0.heap.size->w'.heap[b]? =w.heap[b]?) (o1:w'.os=w.os) (o2:w'.tape=w.tape) (o3:w'.output=w.output):jY F h β w':=
 ⟨K.knd,by rw[hs];exact K.size,λb hb hi hn=>by rw[hl b hb];exact K.keep b hb hi hn,K.own,K.pas,λk b n hm=>by
  rw[<-K.bs k b n hm];obtain⟨n',_,hm'⟩:=K.pas k b n hm;unfold wB World.shape?
  rw[hk b (H.lt b (.inr ⟨k,n',hm'⟩)) (H.free k b n' hm')],o1.trans K.os,o2.trans K.tape,o3.trans K.output⟩
theorem jY.restr (K:jY F h β w) (Ks:List Nat) (hK:∀k,k∈K0->k∈Ks):jY F (zC (wY Ks h)) (βr Ks β) w:=by
 refine⟨λk e he=>?_,K.size,K.keep,λk b n hm=>K.own k b n (qG hm).2,λk b n hm=>?_,K.bs,K.os,K.tape,K.output⟩
 ·have hk:=hK k (F.hh k e he);have h1:=K.knd k e he;have hr:∀e',h k=some e'->zC (wY Ks h) k=some (qK Ks h e'):=λe' h2=>by rw[wE,zZ8 hk,h2];rfl
  cases e with
  |dead=>exact h1
  |box cs=>obtain⟨cs',h2⟩:=h1;exact⟨_,hr _ h2⟩
  |obj cs=>obtain⟨cs',h2⟩:=h1;exact⟨_,hr _ h2⟩
  |arr sz xs sl=>obtain⟨xs',sl',h2,h3⟩:=h1;obtain⟨xs2,fl2,h4,h5⟩:=fW Ks h sz xs' sl';exact⟨xs2,fl2,(hr _ h2).trans (by rw[h4]),by rw[h5];exact h3⟩
 ·rw[ZZ (hK k (F.hK k b n hm))];exact K.pas k b n hm
end
def zDs (ps:List Nat) (ys:List AV) (T:List (Nat×AV)):List (Nat×AV):=(ps.zip ys).foldl (λtm p=>p::tm) T
theorem LV {w:World} {D:Nat->Prop} {h:yC} {β:vP}:∀(ps:List Nat) (ys:List AV) (cs:List Value) (T:List (Nat×AV)) (tmps:Array Value),ys.length=cs.length->(∀(j:Nat) v c,ys[j]? =some v->cs[j]? =some c->zQ w D h β v c)->(∀p,p∈ps->p<tmps.size)->
  (∀t,zQ w D h β (zG T t) (tmps.getD t undef))->∀t,zQ w D h β (zG (zDs ps ys T) t) (((ps.zip cs).foldl (λtmps (p:Nat×Value)=>tmps.setIfInBounds p.1 p.2) tmps).getD t undef)
 | [],ys,cs,T,tmps,_,_,_,h,t=>h t
 |p::ps,[],cs,T,tmps,hl,_,_,h,t=>by
  obtain rfl:cs=[]:=yBa hl.symm;exact h t
 |p::ps,y::ys,[],T,tmps,hl,_,_,h,t=>by simp at hl
 | p::ps,y::ys,c::cs,T,tmps,hl,hr,hp,h,t=>by
  have hps:=hp p zU;refine LV ps ys cs ((p,y)::T) (tmps.setIfInBounds p c) CG (λj v c' h1 h2=>hr (j+1) v c' LN OC) (λq hq=>by simpa using hp q (by simp[hq])) (λs=>?_) t;rw[yF];by_cases hs:s=p
  ·subst hs;rw[zZ8 Z];have e:(tmps.setIfInBounds s c).getD s undef=c:=by simp[yAy,hps]
   rw[e];exact hr 0 y c Z Z
  ·rw[zZ7 hs];have e:(tmps.setIfInBounds p c).getD s undef=tmps.getD s undef:=by simp[yAy,Array.getElem?_setIfInBounds_ne (Ne.symm hs)]
   rw[e];exact h s
end Av
end Go.Proofs.YteajjdidebfcjaaGreat
