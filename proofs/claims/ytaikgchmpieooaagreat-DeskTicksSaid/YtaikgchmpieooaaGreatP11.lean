/- Part 11: contracts of the functions, and what they rest upon. -/
import Derived.Test.YtaikgchmpieooaaGreatP10
import Derived.Orders
namespace Go.Proofs.YtaikgchmpieooaaGreat
namespace Av
set_option linter.unusedSimpArgs false
set_option linter.unusedVariables false
section
def lst (l:Array Bool) (i:Nat):Bool:=l.getD i false
def binds (e:Edge):Bool:=Region.binds .any e
def acyc (ops:Array Oper):Bool:=(List.range ops.size).all fun i=>((ops[i]?).map fun o=>o.after.all fun e=>!binds e||decide (e.on<i)).getD false
def mask (T:List Nat):List Edge→Nat→Nat
 | [],m=>m
 |e::r,m=>mask T r (bif binds e then m ||| (2 ^ e.on ||| T.getD e.on 0)else m)
def closL:List Oper→List Nat→List Nat
 | [],T=>T
 |o::r,T=>closL r (T++[mask T o.after.toList 0])
def clos (ops:List Oper):List Nat:=closL ops []
def okT (ops:Array Oper) (T:List Nat):Bool:=
 (List.range ops.size).all fun i=>((ops[i]?).map fun o=>Nat.beq (T.getD i 0) (mask T o.after.toList 0)).getD false
def bit (T:List Nat) (i j:Nat):Bool:=(T.getD i 0).testBit j
theorem mask_bit (T:List Nat) (j:Nat):∀(l:List Edge) (m:Nat),(mask T l m).testBit j=true→m.testBit j=true∨∃e,e∈l∧binds e=true∧(e.on=j∨bit T e.on j=true)
 | [],m,h=> .inl h
 | e::r,m,h=>by
  rcases mask_bit T j r _ h with h1|⟨e',h1,h2,h3⟩
  ·cases hb:binds e with
   |false=>rw[hb]at h1;exact .inl h1
   |true=>
    rw[hb,cond_true,Nat.testBit_or,Nat.testBit_or,Nat.testBit_two_pow,Bool.or_eq_true,Bool.or_eq_true]at h1
    rcases h1 with h1|h1|h1
    ·exact .inl h1
    ·exact .inr ⟨e,by simp,hb,.inl (by simpa using h1)⟩
    ·exact .inr ⟨e,by simp,hb,.inr h1⟩
  ·exact .inr ⟨e',by simp[h1],h2,h3⟩
theorem lst_set (l:Array Bool) (i j:Nat) (hi:i<l.size):lst (l.setIfInBounds i true) j=if j=i then true else lst l j:=by
 unfold lst
 by_cases e:j=i
 ·subst e;simp[Array.getD_eq_getD_getElem?,hi]
 ·rw[if_neg e]
  simp only[Array.getD_eq_getD_getElem?,Array.getElem?_setIfInBounds_ne (Ne.symm e)]
def cnt (p:Nat→Bool):Nat→Nat
 |0=>0
 |k+1=>cnt p k+if p k then 1 else 0
theorem cnt_congr {p q:Nat→Bool} (n:Nat) (h:∀i,i<n→p i=q i):cnt p n=cnt q n:=by
 induction n with
 |zero=>rfl
 |succ n ih=>unfold cnt;rw[ih fun i hi=>h i (by omega),h n (by omega)]
theorem cnt_le (p:Nat→Bool) (n:Nat):cnt p n≤n:=by
 induction n with
 |zero=>exact Nat.le_refl _
 |succ n ih=>unfold cnt;split<;>omega
theorem cnt_set {p q:Nat→Bool} (n i:Nat) (hi:i<n) (hp:p i=false) (h:∀j,j≠i→q j=p j):cnt q n=cnt p n+if q i then 1 else 0:=by
 induction n with
 |zero=>omega
 | succ n ih=>
  unfold cnt
  by_cases e:i=n
  ·subst e
   rw[cnt_congr (q:=p) i fun j hj=>h j (by omega),hp]
   simp
  ·rw[ih (by omega),h n (fun e'=>e e'.symm)]
   omega
section
variable {ops:Array Oper} {T:List Nat}
theorem closed (hA:acyc ops=true) (hT:okT ops T=true) {l:Array Bool} (hd:∀i o,ops[i]? =some o→lst l i=true→∀e∈o.after,binds e=true→lst l e.on=true):
  ∀(n i:Nat) (o:Oper),i<n→ops[i]? =some o→(∀e∈o.after,binds e=true→lst l e.on=true)→∀j,bit T i j=true→lst l j=true:=by
 intro n
 induction n with
 |zero=>intro i o h;omega
 | succ n ih=>
  intro i o hin ho he j hj
  have hi:i<ops.size:=(Array.getElem?_eq_some_iff.1 ho).1
  have h1:=List.all_eq_true.1 hT i (List.mem_range.2 hi)
  simp only[ho,Option.map_some,Option.getD_some]at h1
  unfold bit at hj
  rw[Nat.eq_of_beq_eq_true h1]at hj
  rcases mask_bit T j _ _ hj with h2|⟨x,hx,hb,h2⟩
  ·simp at h2
  have hm:x∈o.after:=by simpa using hx
  have hl:=he _ hm hb
  rcases h2 with h2|h2
  ·rw[←h2];exact hl
  ·have h3:=List.all_eq_true.1 hA i (List.mem_range.2 hi)
   obtain⟨y,hy,rfl⟩:=Array.getElem_of_mem hm
   simp only[ho,Option.map_some,Option.getD_some,Array.all_eq_true,Bool.or_eq_true,Bool.not_eq_true',decide_eq_true_eq]at h3
   have h4:o.after[y].on<i:=(h3 y hy).resolve_left (by rw[hb];simp)
   have h5:o.after[y].on<ops.size:=by omega
   exact ih _ ops[o.after[y].on] (by omega) (by simp[h5]) (hd _ _ (by simp[h5]) hl) j h2
theorem ready_mem {l:Array Bool} {i:Nat} (hs:l.size=ops.size) (h:i∈Region.ready .any ops l):∃o,ops[i]? =some o∧lst l i=false∧∀e∈o.after,binds e=true→lst l e.on=true:=by
 unfold Region.ready at h
 rw[List.mem_filter,List.mem_range]at h
 obtain⟨hi,h⟩:=h
 have ho:ops[i]? =some ops[i]:=by simp[hi]
 simp only[ho,Option.map_some,Option.getD_some,Bool.and_eq_true,Bool.not_eq_true',Array.all_eq_true,Bool.or_eq_true]at h
 refine⟨ops[i],ho,?_,fun e he hb=>?_⟩
 ·have:=h.1
  unfold lst
  simp only[Array.getD_eq_getD_getElem?]at this⊢
  rw[Array.getElem?_eq_getElem (by omega)]at this⊢
  simpa using this
 ·obtain⟨x,hx,rfl⟩:=Array.getElem_of_mem he
  rcases h.2 x hx with h2|h2
  ·unfold binds at hb;rw[hb]at h2;cases h2
  ·exact h2
theorem ready_nil (hA:acyc ops=true) {l:Array Bool} (hs:l.size=ops.size) (h:Region.ready .any ops l=[]):∀n i,i<n→i<ops.size→lst l i=true:=by
 intro n
 induction n with
 |zero=>intro i h;omega
 | succ n ih=>
  intro i hin hi
  cases hl:lst l i with
  |true=>rfl
  | false=>
   exfalso
   have hm:i∈Region.ready .any ops l:=by
    unfold Region.ready
    rw[List.mem_filter,List.mem_range]
    refine⟨hi,?_⟩
    have ho:ops[i]? =some ops[i]:=by simp[hi]
    have h3:=List.all_eq_true.1 hA i (List.mem_range.2 hi)
    simp only[ho,Option.map_some,Option.getD_some,Bool.and_eq_true,Bool.not_eq_true',Array.all_eq_true,Bool.or_eq_true,decide_eq_true_eq]at h3⊢
    refine⟨?_,fun x hx=>?_⟩
    ·unfold lst at hl
     simp only[Array.getD_eq_getD_getElem?]at hl⊢
     rw[Array.getElem?_eq_getElem (by omega)]at hl⊢
     simpa using hl
    ·rcases h3 x hx with h4|h4
     ·exact .inl h4
     ·exact .inr (ih _ (by omega) (by omega))
   rw[h]at hm
   cases hm
end
structure Evt where
 on:Bool
 v:AV
 d:List (Nat×Ent)
 r:List Nat
 nw:List Nat
def St.app (st:St) (dst:Option Nat) (v:AV) (d:List (Nat×Ent)):St:=⟨match dst with
 |some t=>(t,v)::st.tm
 |none=>st.tm,d++st.h⟩
def gOf (ops:Array Oper) (o:Oper):List Nat:=match o.guard with
 |some (j,_)=>(gslot ops j).toList
 |none=>[]
def Step1 (P:Program) (m:Nat) (ops:Array Oper) (o:Oper) (st:St) (e:Evt):Prop:=
 noDead e.d=true∧(∀t,o.dst=some t→t<m)∧(∀k,k∈e.nw→lookE st.h k=none)∧
 (e.on=true→Stp P st o.op e.v e.d e.r e.nw)∧(e.on=false→e.v= .s undef∧e.d=[])∧
 match o.guard with
  |none=>e.on=true
  |some (j,b)=>∃t c,gslot ops j=some t∧look st.tm t= .s c∧e.on=gw c b
def Tr (P:Program) (m:Nat) (ops:Array Oper):List Oper→St→List Evt→St→Prop
 | [],st,[],st'=>st=st'
 |o::l,st,e::es,st'=>Step1 P m ops o st e∧Tr P m ops l (st.app o.dst e.v e.d) es st'
 |_,_,_,_=>False
def runL (L:Nat→Bool):Nat→List (Option Nat×Evt)→St→St
 |_,[],st=>st
 |i,(dst,e)::r,st=>runL L (i+1) r (bif L i then st.app dst e.v e.d else st)
theorem look_app (st:St) (dst:Option Nat) (v:AV) (d:List (Nat×Ent)) (t:Nat):look (st.app dst v d).tm t=if dst=some t then v else look st.tm t:=by
 cases dst with
 |none=>simp[St.app]
 |some j=>simp only[St.app,look_cons,Option.some.injEq];by_cases h:t=j<;>simp[h,eq_comm]
theorem lookE_app (st:St) (dst:Option Nat) (v:AV) (d:List (Nat×Ent)) (k:Nat):lookE (st.app dst v d).h k=over d (lookE st.h) k:=by
 show lookE (d++st.h) k=_
 rw[lookE_append]
theorem run_look {L L':Nat→Bool} {t:Nat}:∀(r:List (Option Nat×Evt)) (i:Nat) (st st':St),look st.tm t=look st'.tm t→(∀(j:Nat) p,r[j]? =some p→p.1=some t→L (i+j)=L' (i+j))→
  look (runL L i r st).tm t=look (runL L' i r st').tm t
 | [],_,_,_,h,_=>h
 | (dst,e)::r,i,st,st',h,hl=>by
  refine run_look r (i+1) _ _ ?_ fun j p hp h1=>by have:=hl (j+1) p (by simpa using hp) h1;rwa [show i+1+j=i+(j+1) by omega]
  by_cases hd:dst=some t
  ·have:=hl 0 (dst,e) rfl hd
   simp only[Nat.add_zero]at this
   rw[this]
   cases L' i
   ·exact h
   ·simp only[cond_true,look_app,hd,if_true]
  ·cases L i<;>cases L' i<;>simp only[cond_true,cond_false,look_app,if_neg hd,h]
theorem over_not {d:List (Nat×Ent)} {h:Heap} {k:Nat} (hk:¬k∈keys d):over d h k=h k:=by
 unfold over
 cases he:lookE d k with
 |none=>rfl
 |some e=>exact absurd (lookE_mem he) hk
theorem over_in {d:List (Nat×Ent)} {h h':Heap} {k:Nat} (hk:k∈keys d):over d h k=over d h' k:=by
 obtain⟨e,he⟩:=mem_lookE hk
 simp[over,he]
theorem run_lookE {L L':Nat→Bool} {k:Nat}:∀(r:List (Option Nat×Evt)) (i:Nat) (st st':St),lookE st.h k=lookE st'.h k→(∀(j:Nat) p,r[j]? =some p→k∈keys p.2.d→L (i+j)=L' (i+j))→
  lookE (runL L i r st).h k=lookE (runL L' i r st').h k
 | [],_,_,_,h,_=>h
 | (dst,e)::r,i,st,st',h,hl=>by
  refine run_lookE r (i+1) _ _ ?_ fun j p hp h1=>by have:=hl (j+1) p (by simpa using hp) h1;rwa [show i+1+j=i+(j+1) by omega]
  by_cases hd:k∈keys e.d
  ·have:=hl 0 (dst,e) rfl hd
   simp only[Nat.add_zero]at this
   rw[this]
   cases L' i
   ·exact h
   ·simp only[cond_true,lookE_app];exact over_in hd
  ·cases L i<;>cases L' i<;>simp only[cond_true,cond_false,lookE_app,over_not hd,h]
theorem run_all {L:Nat→Bool} {P:Program} {m:Nat} {ops:Array Oper}:∀(l:List Oper) (es:List Evt) (i:Nat) (st st':St),Tr P m ops l st es st'→(∀j,j<l.length→L (i+j)=true)→runL L i (l.zipWith (fun o e=>(o.dst,e)) es) st=st'
 | [],[],_,_,_,h,_=>h
 |o::l,e::es,i,st,st',h,hl=>by
  simp only[List.zipWith_cons_cons,runL]
  rw[show L i=true from hl 0 (by simp)]
  exact run_all l es (i+1) _ st' h.2 fun j hj=>by have:=hl (j+1) (by simpa using hj);rwa [show i+1+j=i+(j+1) by omega]
 | [],_::_,_,_,_,h,_=>h.elim
 |_::_,[],_,_,_,h,_=>h.elim
theorem run_none {L:Nat→Bool}:∀(r:List (Option Nat×Evt)) (i:Nat) (st:St),(∀j,j<r.length→L (i+j)=false)→runL L i r st=st
 | [],_,_,_=>rfl
 |(dst,e)::r,i,st,h=>by
  unfold runL
  rw[show L i=false from h 0 (by simp)]
  exact run_none r (i+1) st fun j hj=>by have:=h (j+1) (by simpa using hj);rwa [show i+1+j=i+(j+1) by omega]
theorem Tr.len {P:Program} {m:Nat} {ops:Array Oper}:∀{l:List Oper} {es:List Evt} {st st':St},Tr P m ops l st es st'→es.length=l.length
 | [],[],_,_,_=>rfl
 |o::l,e::es,_,_,h=>by simp[Tr.len h.2]
 | [],_::_,_,_,h=>h.elim
 |_::_,[],_,_,h=>h.elim
theorem Tr.at {P:Program} {m:Nat} {ops:Array Oper}:∀{l:List Oper} {es:List Evt} {st st':St} (i k:Nat) (o:Oper) (e:Evt),Tr P m ops l st es st'→l[i]? =some o→es[i]? =some e→
  Step1 P m ops o (runL (fun j=>decide (j<k+i)) k (l.zipWith (fun o e=>(o.dst,e)) es) st) e∧
   runL (fun j=>decide (j<k+i+1)) k (l.zipWith (fun o e=>(o.dst,e)) es) st=(runL (fun j=>decide (j<k+i)) k (l.zipWith (fun o e=>(o.dst,e)) es) st).app o.dst e.v e.d
 | o'::l,e'::es,st,st',0,k,o,e,h,h1,h2=>by
  simp at h1 h2
  subst h1 h2
  have q1:runL (fun j=>decide (j<k+0)) k ((o'::l).zipWith (fun o e=>(o.dst,e)) (e'::es)) st=st:=run_none _ _ _ fun j _=>by simp
  have q2:runL (fun j=>decide (j<k+0+1)) k ((o'::l).zipWith (fun o e=>(o.dst,e)) (e'::es)) st=st.app o'.dst e'.v e'.d:=by
   simp only[List.zipWith_cons_cons,runL,show decide (k<k+0+1)=true by simp,cond_true]
   exact run_none _ _ _ fun j _=>by simp
  rw[q1,q2]
  exact⟨h.1,rfl⟩
 |o'::l,e'::es,st,st',i+1,k,o,e,h,h1,h2=>by
  have ih:=Tr.at i (k+1) o e h.2 (by simpa using h1) (by simpa using h2)
  simp only[List.zipWith_cons_cons,runL,show decide (k<k+(i+1))=true by simp,show decide (k<k+(i+1)+1)=true by simp;omega,cond_true]
  rw[show k+(i+1)=k+1+i by omega]
  exact ih
 | [],[],_,_,_,_,_,_,_,h1,_=>by simp at h1
 | [],_::_,_,_,_,_,_,_,h,_,_=>h.elim
 |_::_,[],_,_,_,_,_,_,h,_,_=>h.elim
structure FP where
 on:Bool
 w:List Nat
 r:List Nat
def Evt.fp (e:Evt):FP:=⟨e.on,keys e.d++e.nw,e.r⟩
def rdOf (ops:Array Oper) (o:Oper):List Nat:=gOf ops o++tmpsOf o.op
def clash (ops:Array Oper) (oi oj:Oper) (fi fj:FP):Bool:=
 (match oi.dst with|some t=>(rdOf ops oj).contains t||oj.dst==some t|none=>false)||(match oj.dst with|some t=>(rdOf ops oi).contains t|none=>false)||
  fi.w.any (fun k=>fj.w.contains k||fj.r.contains k)||fj.w.any (fun k=>fi.r.contains k)
def regOK (l:List Oper) (T:List Nat) (fs:List FP):Bool:=
 acyc l.toArray&&okT l.toArray T&&(List.range l.length).all fun j=>(List.range j).all fun i=>match l[i]?,l[j]?,fs[i]?,fs[j]? with
  |some oi,some oj,some fi,some fj=>bit T j i|| !clash l.toArray oi oj fi fj
  |_,_,_,_=>false
section
variable {P:Program} {K0:List Nat} {F:Fr K0} {m:Nat}
theorem Rel.congr {tm tm':Nat→AV} {h h':Heap} {a:Act} {w:World} (R:Rel F m tm h a w) (e1:∀t,tm' t=tm t) (e2:∀k,h' k=h k):Rel F m tm' h' a w:=by
 obtain rfl:tm'=tm:=funext e1
 obtain rfl:h'=h:=funext e2
 exact R
theorem sim_draw {id:Nat} {l:List Oper} {st st':St} {es:List Evt} {Q:Exit→St→Prop} (hm:P.follows .mixedOrders=true) (hT:Tr P m l.toArray l st es st') (hC:regOK l (clos l) (es.map Evt.fp)=true) (hq:Q .normal st'):
  Sim P F m (.region id l.toArray true) st Q:=by
 refine⟨?_⟩
 intro a w H
 unfold regOK at hC
 simp only[Bool.and_eq_true,List.all_eq_true,List.mem_range]at hC
 obtain⟨⟨hA,hTc⟩,hX⟩:=hC
 generalize clos l=T at*
 have hlen:=hT.len
 let R:=l.zipWith (fun o e=>(o.dst,e)) es
 have hR:∀(j:Nat) p,R[j]? =some p→∃o e,l[j]? =some o∧es[j]? =some e∧p=(o.dst,e):=fun j p hp=>by
  simp only[R,List.getElem?_zipWith]at hp
  cases ho:l[j]? with
  |none=>simp[ho]at hp
  |some o=>cases he:es[j]? with
   |none=>simp[ho,he]at hp
   |some e=>simp[ho,he]at hp;exact⟨o,e,rfl,rfl,hp.symm⟩
 have hcl:∀i j oi oj ei ej,i<j→l[i]? =some oi→l[j]? =some oj→es[i]? =some ei→es[j]? =some ej→clash l.toArray oi oj ei.fp ej.fp=true→bit T j i=true:=fun i j oi oj ei ej hij h1 h2 h3 h4 h5=>by
  have:=hX j (List.getElem?_eq_some_iff.1 h2).1 i hij
  simp only[h1,h2,List.getElem?_map,h3,h4,Option.map_some,h5,Bool.not_true,Bool.or_false]at this
  simpa using this
 let J:Array Bool→Act→World→Prop:=fun L a w=>L.size=l.toArray.size∧(∀i o,l.toArray[i]? =some o→lst L i=true→∀e∈o.after,binds e=true→lst L e.on=true)∧Rel F m (look (runL (lst L) 0 R st).tm) (lookE (runL (lst L) 0 R st).h) a w
 have hend:∀L a w,(∀i,i<l.toArray.size→lst L i=true)→J L a w→∃s,Q .normal s∧RelS F m s a w:=fun L a w hall hJ=>by
  refine⟨st',hq,?_⟩
  have:runL (lst L) 0 R st=st':=run_all l es 0 st st' hT fun j hj=>by rw[Nat.zero_add];exact hall j (by simpa using hj)
  have h2:=hJ.2.2
  rw[this]at h2
  exact h2
 have hstep:∀L a w i,J L a w→i∈Region.ready .any l.toArray L→∀K:Act→World→Prop,(∀a' w',J (L.setIfInBounds i true) a' w'→K a' w')→∀Q',wpOpIn (fen F.ro) 0 P l.toArray Q' i K a w:=by
  intro L a w i hJ hi K hK Q'
  obtain⟨hs,hdn,hRel⟩:=hJ
  obtain⟨o,ho,hl,hpre⟩:=ready_mem hs hi
  have hin:i<l.toArray.size:=(Array.getElem?_eq_some_iff.1 ho).1
  have ho':l[i]? =some o:=by simpa using ho
  obtain⟨e,he⟩:∃e,es[i]? =some e:=⟨es[i]'(by rw[hlen];simpa using hin),by simp⟩
  have hahead:=closed hA hTc hdn (i+1) i o (by omega) ho hpre
  have hlate:∀j,j<l.toArray.size→bit T j i=true→lst L j=false:=fun j hj hij=>by
   cases hlj:lst L j with
   |false=>rfl
   |true=>
    have hoj:l.toArray[j]? =some l.toArray[j]:=by simp[hj]
    have:=closed hA hTc hdn (j+1) j _ (by omega) hoj (hdn j _ hoj hlj) i hij
    rw[hl]at this;cases this
  have hord:∀j oj ej,l[j]? =some oj→es[j]? =some ej→j≠i→(j<i→clash l.toArray oj o ej.fp e.fp=true)→(i<j→clash l.toArray o oj e.fp ej.fp=true)→lst L j=decide (j<i):=fun j oj ej h1 h2 hne h3 h4=>by
   rcases Nat.lt_or_gt_of_ne hne with h|h
   ·rw[hahead j (hcl j i oj o ej e h h1 ho' h2 he (h3 h))];simp[h]
   ·rw[hlate j (by simpa using (List.getElem?_eq_some_iff.1 h1).1) (hcl i j o oj e ej h ho' h1 he h2 (h4 h))]
    simp;omega
  obtain⟨⟨s1,s2,s3,s4,s5,s6⟩,hnext⟩:=hT.at i 0 o e ho' he
  simp only[Nat.zero_add]at s3 s4 s6 hnext
  let Li:Nat→Bool:=fun j=>decide (j<i)
  have rdS:∀t,t∈rdOf l.toArray o→look (runL (lst L) 0 R st).tm t=look (runL Li 0 R st).tm t:=fun t ht=>run_look R 0 st st rfl fun j p hp hd=>by
   obtain⟨oj,ej,h1,h2,rfl⟩:=hR j p hp
   rw[Nat.zero_add]
   by_cases hji:j=i
   ·subst hji;simp only[Li];rw[hl];simp
   ·refine hord j oj ej h1 h2 hji (fun _=>?_) fun _=>?_
    ·unfold clash;simp only[show oj.dst=some t from hd,List.contains_iff_mem.2 ht,Bool.true_or]
    ·unfold clash;simp only[show oj.dst=some t from hd,List.contains_iff_mem.2 ht,Bool.true_or,Bool.or_true]
  have rdK:∀k,k∈e.r∨k∈e.nw∨k∈keys e.d→lookE (runL (lst L) 0 R st).h k=lookE (runL Li 0 R st).h k:=fun k hk=>run_lookE R 0 st st rfl fun j p hp hd=>by
   obtain⟨oj,ej,h1,h2,rfl⟩:=hR j p hp
   rw[Nat.zero_add]
   by_cases hji:j=i
   ·subst hji;simp only[Li];rw[hl];simp
   ·have hwj:k∈ej.fp.w:=by simp only[Evt.fp,List.mem_append];exact .inl hd
    have hki:k∈e.fp.w∨k∈e.fp.r:=by
     simp only[Evt.fp,List.mem_append]
     rcases hk with h|h|h
     ·exact .inr h
     ·exact .inl (.inr h)
     ·exact .inl (.inl h)
    refine hord j oj ej h1 h2 hji (fun _=>?_) fun _=>?_
    ·have:ej.fp.w.any (fun k=>e.fp.w.contains k||e.fp.r.contains k)=true:=List.any_eq_true.2 ⟨k,hwj,by simp only[Bool.or_eq_true,List.contains_iff_mem];exact hki⟩
     unfold clash;simp only[this,Bool.or_true,Bool.true_or]
    ·rcases hki with h|h
     ·have:e.fp.w.any (fun k=>ej.fp.w.contains k||ej.fp.r.contains k)=true:=List.any_eq_true.2 ⟨k,h,by simp only[Bool.or_eq_true,List.contains_iff_mem];exact .inl hwj⟩
      unfold clash;simp only[this,Bool.or_true,Bool.true_or]
     ·have:ej.fp.w.any (fun k=>e.fp.r.contains k)=true:=List.any_eq_true.2 ⟨k,hwj,List.contains_iff_mem.2 h⟩
      unfold clash;simp only[this,Bool.or_true]
  have hL':∀j,lst (L.setIfInBounds i true) j=if j=i then true else lst L j:=fun j=>lst_set L i j (by rw[hs];exact hin)
  have lookN:∀t,look (runL (lst (L.setIfInBounds i true)) 0 R st).tm t=if o.dst=some t then e.v else look (runL (lst L) 0 R st).tm t:=fun t=>by
   by_cases hd:o.dst=some t
   ·rw[if_pos hd]
    have h1:look (runL (lst (L.setIfInBounds i true)) 0 R st).tm t=look (runL (fun j=>decide (j<i+1)) 0 R st).tm t:=run_look R 0 st st rfl fun j p hp hdj=>by
     obtain⟨oj,ej,h1,h2,rfl⟩:=hR j p hp
     rw[Nat.zero_add,hL']
     by_cases hji:j=i
     ·subst hji;simp
     ·have hdj':oj.dst=some t:=hdj
      rw[if_neg hji,hord j oj ej h1 h2 hji (fun _=>by unfold clash;simp[hdj',hd]) (fun _=>by unfold clash;simp[hdj',hd])]
      by_cases h:j<i
      ·simp[h];omega
      ·simp[h];omega
    rw[h1,show(runL (fun j=>decide (j<i+1)) 0 R st)=_ from hnext,look_app,if_pos hd]
   ·rw[if_neg hd]
    exact run_look R 0 st st rfl fun j p hp hdj=>by
     obtain⟨oj,ej,h1,h2,rfl⟩:=hR j p hp
     rw[Nat.zero_add,hL']
     by_cases hji:j=i
     ·subst hji
      rw[ho']at h1
      cases h1
      exact absurd hdj hd
     ·rw[if_neg hji]
  have lookEN:∀k,lookE (runL (lst (L.setIfInBounds i true)) 0 R st).h k=over e.d (lookE (runL (lst L) 0 R st).h) k:=fun k=>by
   by_cases hd:k∈keys e.d
   ·have h1:lookE (runL (lst (L.setIfInBounds i true)) 0 R st).h k=lookE (runL (fun j=>decide (j<i+1)) 0 R st).h k:=run_lookE R 0 st st rfl fun j p hp hdj=>by
     obtain⟨oj,ej,h1,h2,rfl⟩:=hR j p hp
     rw[Nat.zero_add,hL']
     by_cases hji:j=i
     ·subst hji;simp
     ·have hwj:k∈ej.fp.w:=by simp only[Evt.fp,List.mem_append];exact .inl hdj
      have hwi:k∈e.fp.w:=by simp only[Evt.fp,List.mem_append];exact .inl hd
      have q1:ej.fp.w.any (fun k=>e.fp.w.contains k||e.fp.r.contains k)=true:=List.any_eq_true.2 ⟨k,hwj,by simp only[Bool.or_eq_true,List.contains_iff_mem];exact .inl hwi⟩
      have q2:e.fp.w.any (fun k=>ej.fp.w.contains k||ej.fp.r.contains k)=true:=List.any_eq_true.2 ⟨k,hwi,by simp only[Bool.or_eq_true,List.contains_iff_mem];exact .inl hwj⟩
      rw[if_neg hji,hord j oj ej h1 h2 hji (fun _=>by unfold clash;simp only[q1,Bool.or_true,Bool.true_or]) (fun _=>by unfold clash;simp only[q2,Bool.or_true,Bool.true_or])]
      by_cases h:j<i
      ·simp[h];omega
      ·simp[h];omega
    rw[h1,show(runL (fun j=>decide (j<i+1)) 0 R st)=_ from hnext,lookE_app]
    exact over_in hd
   ·rw[over_not hd]
    exact run_lookE R 0 st st rfl fun j p hp hdj=>by
     obtain⟨oj,ej,h1,h2,rfl⟩:=hR j p hp
     rw[Nat.zero_add,hL']
     by_cases hji:j=i
     ·subst hji
      rw[he]at h2
      cases h2
      exact absurd hdj hd
     ·rw[if_neg hji]
  have hfin:∀a' w',Rel F m (fun t=>if o.dst=some t then e.v else look (runL (lst L) 0 R st).tm t) (over e.d (lookE (runL (lst L) 0 R st).h)) a' w'→K a' w':=fun a' w' h=>by
   refine hK a' w' ⟨by simpa using hs,fun j oj hoj hlj ed hed hb=>?_,h.congr lookN lookEN⟩
   rw[hL']at hlj⊢
   by_cases hji:j=i
   ·subst hji
    rw[ho]at hoj
    cases hoj
    split
    ·rfl
    ·exact hpre ed hed hb
   ·rw[if_neg hji]at hlj
    split
    ·rfl
    ·exact hdn j oj hoj hlj ed hed hb
  have hexec:e.on=true→o.wpIn (fen F.ro) 0 P a w K Q':=fun hon=>
   (s4 hon).rel hRel (fun t ht=>rdS t (by unfold rdOf;simp[ht])) (fun k hk=>rdK k (.inl hk)) (fun k hk=>by rw[rdK k (.inr (.inl hk))];exact s3 k hk) s1 s2 hfin
  unfold wpOpIn
  rw[ho]
  dsimp only
  cases hg:o.guard with
  |none=>
   rw[hg]at s6
   rw[if_pos (by simp[Region.wanted,hg])]
   exact hexec s6
  | some jb=>
   obtain⟨j,b⟩:=jb
   rw[hg]at s6
   obtain⟨t,c,g1,g2,g3⟩:=s6
   have htr:t∈rdOf l.toArray o:=by unfold rdOf gOf;simp[hg,g1]
   have hv:a.eval (.tmp t)=c:=by
    obtain⟨⟨_,β,_,_,Ht,_⟩,_⟩:=hRel
    have:=Ht t
    rw[rdS t htr,g2]at this
    exact this.s_inv
   have hw:=guard_wanted hg g1 hv
   cases hon:e.on with
   |true=>
    rw[if_pos (by rw[hw,←g3,hon])]
    exact hexec hon
   |false=>
    rw[if_neg (by rw[hw,←g3,hon];simp)]
    obtain⟨v1,v2⟩:=s5 hon
    refine⟨fun _ _=>trivial,hfin _ _ ?_⟩
    rw[v1,v2]
    exact Rel.bot hRel o.dst s2
 have main:∀(fuel:Nat) (L:Array Bool) (a:Act) (w:World),cnt (fun i=>!lst L i) l.toArray.size≤fuel→J L a w→wpAnyIn (fen F.ro) 0 P .any l.toArray (fun e a' w'=>∃st',Q e st'∧RelS F m st' a' w') fuel L a w:=by
  intro fuel
  induction fuel with
  | zero=>
   intro L a w hf hJ
   have all:∀i,i<l.toArray.size→lst L i=true:=by
    intro i hi
    cases hl:lst L i with
    |true=>rfl
    |false=>
     exfalso
     have h:=cnt_set (p:=fun j=>!lst L j&&j != i) (q:=fun j=>!lst L j) l.toArray.size i hi (by simp) (fun j hj=>by simp[hj])
     simp[hl]at h
     simp at hf
     omega
   refine⟨?_,hend L a w all hJ⟩
   cases hr:Region.ready .any l.toArray L with
   |nil=>rfl
   |cons i rest=>
    obtain⟨o,ho,hl,_⟩:=ready_mem hJ.1 (i:=i) (by rw[hr];simp)
    rw[all i (Array.getElem?_eq_some_iff.1 ho).1]at hl
    cases hl
  |succ fuel ih=>
   intro L a w hf hJ
   refine⟨fun hr=>hend L a w (fun i hi=>ready_nil hA hJ.1 hr (i+1) i (by omega) hi) hJ,fun i hi=>?_⟩
   refine hstep L a w i hJ hi _ (fun a' w' hJ'=>ih _ _ _ ?_ hJ') _
   obtain⟨o,ho,hl,_⟩:=ready_mem hJ.1 hi
   have hin:i<l.toArray.size:=(Array.getElem?_eq_some_iff.1 ho).1
   have h:=cnt_set (p:=fun j=>!lst (L.setIfInBounds i true) j) (q:=fun j=>!lst L j) l.toArray.size i hin (by simp[lst_set L i i (by rw[hJ.1];exact hin)]) (fun j hj=>by simp[lst_set L i j (by rw[hJ.1];exact hin),hj])
   simp[hl]at h
   simp at hf⊢
   omega
 refine wpIn_region_any hm (main _ _ _ _ (cnt_le _ _) ?_)
 have hf:∀i,lst (Array.replicate l.toArray.size false) i=false:=by
  intro i
  unfold lst
  simp only[Array.getD_eq_getD_getElem?,Array.getElem?_replicate]
  split<;>rfl
 refine⟨by simp,fun i o _ hl=>?_,?_⟩
 ·rw[hf]at hl;cases hl
 ·rw[run_none R 0 st fun j _=>hf _]
  obtain⟨⟨X,β,hX,HH,Ht,KK,hJ,hD⟩,nd,gs,hl⟩:=H
  have G:=Goes.drew HH (w.drawn+1)
  exact⟨⟨X,β,hX,G.hok,fun t=>(Ht t).evo G.evo,KK.goes G nd (G.lives HH nd),fun i hi=>F.go G (hJ i hi),hD.goes HH G⟩,nd,gs,hl⟩
end
end
section
theorem tok_of_map {P:Program} {TT:List TI} (h:(List.range TT.length).map (fun t=>tiOf P t)=TT.map some):TOK P TT:=fun t ti ht=>by
 have hl:=(List.getElem?_eq_some_iff.1 ht).1
 have:=congrArg (·[t]?) h
 simp only[List.getElem?_map,ht,Option.map_some,List.getElem?_range hl]at this
 simpa using this
def OpsX0 (P:Program) {K0:List Nat} (F:Fr K0) (m:Nat) (ops:Array Oper):Bool→List Oper→St→List FP→(List FP→St→Prop)→Prop
 |false,l,st,_,Q=>Ops P F m ops l st (Q [])
 |true,l,st,fs,Q=>∃es st',Tr P m ops l st es st'∧Q ((es.map Evt.fp).reverse++fs) st'
structure OpsX (P:Program) {K0:List Nat} (F:Fr K0) (m:Nat) (ops:Array Oper) (dr:Bool) (l:List Oper) (st:St) (fs:List FP) (Q:List FP→St→Prop):Prop where
 run:OpsX0 P F m ops dr l st fs Q
section
variable {P:Program} {K0:List Nat} {F:Fr K0} {m:Nat} {ops:Array Oper} {rest:List Oper} {Q:List FP→St→Prop} {tm:List (Nat×AV)} {h:List (Nat×Ent)} {dr:Bool} {fs:List FP}
theorem x_nil {st:St} {Q':St→Prop} (hq:Q' st):OpsX P F m ops false [] st fs (fun _ s=>Q' s):=⟨ops_nil hq⟩
theorem x_nilD {l:List Oper} {st:St} {Q':St→Prop} (hc:regOK l (clos l) fs.reverse=true) (hq:Q' st):OpsX P F m ops true [] st fs (fun fs s=>regOK l (clos l) fs.reverse=true∧Q' s):=⟨⟨[],st,rfl,hc,hq⟩⟩
theorem x_cons {o:Oper} {st st':St} {e:Evt} (hon:e.on=true) (hg:o.guard=none) (hs:Stp P st o.op e.v e.d e.r e.nw) (hn:∀k,k∈e.nw→lookE st.h k=none) (hd:noDead e.d=true) (hm:∀t,o.dst=some t→t<m)
  (he:st'=st.app o.dst e.v e.d) (hk:OpsX P F m ops dr rest st' (e.fp::fs) Q):OpsX P F m ops dr (o::rest) st fs Q:=by
 subst he
 cases dr with
 |false=>exact⟨ops_step hg hs hn hd hm (fun t=>look_app _ _ _ _ _) (funext fun k=>lookE_app _ _ _ _ _) hk.run⟩
 |true=>
  obtain⟨es,st2,h1,h2⟩:=hk.run
  refine⟨⟨e::es,st2,⟨⟨hd,hm,hn,(fun _=>hs),(fun h=>by rw[hon]at h;cases h),by rw[hg];exact hon⟩,h1⟩,?_⟩⟩
  simpa using h2
section
variable {op:Op} {ty:Nat} {pos:String} {after:Array Edge} {t:Nat} {v:AV} {r nw:List Nat}
theorem x_q (hs:Stp P ⟨tm,h⟩ op v [] r []) (hm:Nat.blt t m=true) (hk:OpsX P F m ops dr rest ⟨(t,v)::tm,h⟩ (⟨true,[],r⟩::fs) Q):OpsX P F m ops dr (⟨some t,op,ty,pos,after,none⟩::rest) ⟨tm,h⟩ fs Q:=
 x_cons (e:=⟨true,v,[],r,[]⟩) rfl rfl hs (by simp) rfl (fun j hj=>by cases hj;exact Nat.le_of_ble_eq_true hm) rfl hk
theorem x_w {k:Nat} {e:Ent} (hs:Stp P ⟨tm,h⟩ op v [(k,e)] r nw) (hm:Nat.blt t m=true) (hn:nw.all (fun j=>(lookE h j).isNone)=true) (hd:noDead [(k,e)]=true) (hk:OpsX P F m ops dr rest ⟨(t,v)::tm,(k,e)::h⟩ (⟨true,k::nw,r⟩::fs) Q):
  OpsX P F m ops dr (⟨some t,op,ty,pos,after,none⟩::rest) ⟨tm,h⟩ fs Q:=
 x_cons (e:=⟨true,v,[(k,e)],r,nw⟩) rfl rfl hs (fun j hj=>by have:=List.all_eq_true.1 hn j hj;simpa using this) hd (fun j hj=>by cases hj;exact Nat.le_of_ble_eq_true hm) rfl hk
theorem x_s {k:Nat} {e:Ent} (hs:Stp P ⟨tm,h⟩ op v [(k,e)] r nw) (hn:nw.all (fun j=>(lookE h j).isNone)=true) (hd:noDead [(k,e)]=true) (hk:OpsX P F m ops dr rest ⟨tm,(k,e)::h⟩ (⟨true,k::nw,r⟩::fs) Q):OpsX P F m ops dr (⟨none,op,ty,pos,after,none⟩::rest) ⟨tm,h⟩ fs Q:=
 x_cons (e:=⟨true,v,[(k,e)],r,nw⟩) rfl rfl hs (fun j hj=>by have:=List.all_eq_true.1 hn j hj;simpa using this) hd (fun j hj=>by cases hj) rfl hk
theorem x_d {d:List (Nat×Ent)} (hs:Stp P ⟨tm,h⟩ op v d r nw) (hm:Nat.blt t m=true) (hn:nw.all (fun j=>(lookE h j).isNone)=true) (hd:noDead d=true) (hk:OpsX P F m ops dr rest ⟨(t,v)::tm,d++h⟩ (⟨true,keys d++nw,r⟩::fs) Q):
  OpsX P F m ops dr (⟨some t,op,ty,pos,after,none⟩::rest) ⟨tm,h⟩ fs Q:=
 x_cons (e:=⟨true,v,d,r,nw⟩) rfl rfl hs (fun j hj=>by have:=List.all_eq_true.1 hn j hj;simpa using this) hd (fun j hj=>by cases hj;exact Nat.le_of_ble_eq_true hm) rfl hk
end
theorem Step1.on {P:Program} {m:Nat} {ops:Array Oper} {d:Option Nat} {op:Op} {ty:Nat} {pos:String} {after:Array Edge} {j t:Nat} {b:Bool} {st:St} {e:Evt} (ht:gslot ops j=some t) (hv:look st.tm t= .s (.bool b)) (hs:Step1 P m ops ⟨d,op,ty,pos,after,none⟩ st e):
  Step1 P m ops ⟨d,op,ty,pos,after,some (j,b)⟩ st e:=by
 obtain⟨h1,h2,h3,h4,h5,h6⟩:=hs
 exact⟨h1,h2,h3,h4,h5,t,.bool b,ht,hv,by rw[show e.on=true from h6];simp[gw]⟩
theorem x_on {d:Option Nat} {op:Op} {ty:Nat} {pos:String} {after:Array Edge} {j t:Nat} {b:Bool} {st:St} (ht:gslot ops j=some t) (hv:look st.tm t= .s (.bool b)) (hk:OpsX P F m ops dr (⟨d,op,ty,pos,after,none⟩::rest) st fs Q):
  OpsX P F m ops dr (⟨d,op,ty,pos,after,some (j,b)⟩::rest) st fs Q:=by
 cases dr with
 |false=>exact⟨ops_on ht hv hk.run⟩
 |true=>
  obtain⟨es,st2,h1,h2⟩:=hk.run
  cases es with
  |nil=>exact h1.elim
  |cons e es=>exact⟨⟨e::es,st2,⟨h1.1.on ht hv,h1.2⟩,h2⟩⟩
theorem x_off {d:Nat} {op:Op} {ty:Nat} {pos:String} {after:Array Edge} {j t:Nat} {b:Bool} {c:Value} (ht:gslot ops j=some t) (hv:look tm t= .s c) (hc:gw c b=false) (hm:Nat.blt d m=true) (hk:OpsX P F m ops dr rest ⟨(d,.s undef)::tm,h⟩ (⟨false,[],[]⟩::fs) Q):
  OpsX P F m ops dr (⟨some d,op,ty,pos,after,some (j,b)⟩::rest) ⟨tm,h⟩ fs Q:=by
 cases dr with
 |false=>exact⟨ops_off ht hv hc hm hk.run⟩
 |true=>
  obtain⟨es,st2,h1,h2⟩:=hk.run
  refine⟨⟨⟨false,.s undef,[],[],[]⟩::es,st2,⟨⟨rfl,(fun j hj=>by cases hj;exact Nat.le_of_ble_eq_true hm),by simp,(fun h=>by cases h),(fun _=>⟨rfl,rfl⟩),t,c,ht,hv,hc.symm⟩,h1⟩,?_⟩⟩
  rw[List.map_cons,List.reverse_cons,List.append_assoc]
  exact h2
theorem x_split {st:St} {l:List Oper} {t:Nat} {c:Bool} (hv:look st.tm t= .s (.bool c)) (h1:c=true→OpsX P F m ops false l ⟨(t,.s (.bool true))::st.tm,st.h⟩ fs Q) (h2:c=false→OpsX P F m ops false l ⟨(t,.s (.bool false))::st.tm,st.h⟩ fs Q):OpsX P F m ops false l st fs Q:=⟨ops_split hv (fun h=>(h1 h).run) (fun h=>(h2 h).run)⟩
theorem x_gsplit {d:Option Nat} {op:Op} {ty:Nat} {pos:String} {after:Array Edge} {j t:Nat} {b c:Bool} (ht:gslot ops j=some t) (hv:look tm t= .s (.bool c)) (h1:c=true→OpsX P F m ops false (⟨d,op,ty,pos,after,some (j,b)⟩::rest) ⟨(t,.s (.bool true))::tm,h⟩ fs Q) (h2:c=false→OpsX P F m ops false (⟨d,op,ty,pos,after,some (j,b)⟩::rest) ⟨(t,.s (.bool false))::tm,h⟩ fs Q):
  OpsX P F m ops false (⟨d,op,ty,pos,after,some (j,b)⟩::rest) ⟨tm,h⟩ fs Q:=by
 have:=ht
 exact x_split (st:=⟨tm,h⟩) hv h1 h2
section
variable {ty t:Nat} {pos:String} {after:Array Edge} {st:St} {g:Option (Nat×Bool)} {d:Option Nat}
theorem is_call {c:Operand} {asq:Array Operand} {ts:Array Nat} (hk:OpsX P F m ops dr (⟨some t,(.call ⟨.value c,asq,ts⟩),ty,pos,after,none⟩::rest) st fs Q):OpsX P F m ops dr (⟨some t,(.call ⟨.value c,asq,ts⟩),ty,pos,after,none⟩::rest) st fs Q:=hk
theorem is_bin {op:BinOp} {tx t2:Nat} {x y:Operand} (hk:OpsX P F m ops dr (⟨some t,(.binOp op tx x y t2),ty,pos,after,none⟩::rest) st fs Q):OpsX P F m ops dr (⟨some t,(.binOp op tx x y t2),ty,pos,after,none⟩::rest) st fs Q:=hk
theorem is_idx {tx:Nat} {x y:Operand} (hk:OpsX P F m ops dr (⟨some t,(.indexAddr tx x y),ty,pos,after,none⟩::rest) st fs Q):OpsX P F m ops dr (⟨some t,(.indexAddr tx x y),ty,pos,after,none⟩::rest) st fs Q:=hk
theorem is_load {tx:Nat} {x:Operand} (hk:OpsX P F m ops dr (⟨some t,(.load tx x),ty,pos,after,none⟩::rest) st fs Q):OpsX P F m ops dr (⟨some t,(.load tx x),ty,pos,after,none⟩::rest) st fs Q:=hk
theorem is_fad {tx n:Nat} {x:Operand} (hk:OpsX P F m ops dr (⟨some t,(.fieldAddr tx x n),ty,pos,after,none⟩::rest) st fs Q):OpsX P F m ops dr (⟨some t,(.fieldAddr tx x n),ty,pos,after,none⟩::rest) st fs Q:=hk
theorem is_sto {tx:Nat} {x y:Operand} (hk:OpsX P F m ops dr (⟨none,(.store tx x y),ty,pos,after,none⟩::rest) st fs Q):OpsX P F m ops dr (⟨none,(.store tx x y),ty,pos,after,none⟩::rest) st fs Q:=hk
theorem is_grd {op:Op} {j:Nat} {b:Bool} (hk:OpsX P F m ops dr (⟨d,op,ty,pos,after,some (j,b)⟩::rest) st fs Q):OpsX P F m ops dr (⟨d,op,ty,pos,after,some (j,b)⟩::rest) st fs Q:=hk
theorem is_ops {l:List Oper} (hk:OpsX P F m ops dr l st fs Q):OpsX P F m ops dr l st fs Q:=hk
end
theorem x_region {Q:Exit→St→Prop} {id:Nat} {l:List Oper} {st:St} (hk:OpsX P F m l.toArray false l st [] (fun _ s=>Q .normal s)):Sim P F m (.region id l.toArray false) st Q:=sim_region hk.run
theorem x_draw {Q:Exit→St→Prop} {id:Nat} {l:List Oper} {st:St} (hm:P.follows .mixedOrders=true) (hk:OpsX P F m l.toArray true l st [] (fun fs s=>regOK l (clos l) fs.reverse=true∧Q .normal s)):Sim P F m (.region id l.toArray true) st Q:=by
 obtain⟨es,st2,h1,h2,h3⟩:=hk.run
 exact sim_draw hm h1 (by simpa using h2) h3
end
end
end Av
end Go.Proofs.YtaikgchmpieooaaGreat
