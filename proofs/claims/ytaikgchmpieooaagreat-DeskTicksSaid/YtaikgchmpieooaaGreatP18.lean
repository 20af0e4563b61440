/- Part 18: contracts of the functions, and what they rest upon. -/
import Derived.Test.YtaikgchmpieooaaGreatP17
namespace Go.Proofs.YtaikgchmpieooaaGreat
namespace Av
set_option linter.unusedSimpArgs false
set_option linter.unusedVariables false
mutual
def Whole (k L:Nat):AV→Prop
 | .ref j off len=>j=k→off=0∧len=L
 | .ptr j _ _=>j≠k
 | .agg cs| .fn _ cs| .tup cs=>WholeL k L cs
 |_=>True
def WholeL (k L:Nat):List AV→Prop
 | []=>True
 |v::r=>Whole k L v∧WholeL k L r
end
def WholeT (k L:Nat):List (Nat×AV)→Prop
 | []=>True
 |(_,v)::r=>Whole k L v∧WholeT k L r
def WholeH (k L:Nat):List (Nat×Ent)→Prop
 | []=>True
 |(_,e)::r=>(match e with
  | .box cs=>WholeL k L cs
  | .arr _ xs fl=>fl.nest=false∨WholeL k L xs
  | .dead=>True)∧WholeH k L r
theorem WholeL.at {k L:Nat}:∀{cs:List AV} {i:Nat} {v:AV},WholeL k L cs→cs[i]? =some v→Whole k L v
 | [],_,_,_,h=>by simp at h
 |x::r,0,v,hk,h=>by simp at h;subst h;exact hk.1
 |x::r,i+1,v,hk,h=>WholeL.at hk.2 (by simpa using h)
theorem WholeT.at {k L:Nat}:∀{tm:List (Nat×AV)},WholeT k L tm→∀t,Whole k L (look tm t)
 | [],_,t=>trivial
 |(j,v)::r,h,t=>by
  rw[look_cons]
  split
  ·exact h.1
  ·exact WholeT.at h.2 t
theorem WholeH.at {k L:Nat}:∀{h:List (Nat×Ent)} {j:Nat} {e:Ent},WholeH k L h→lookE h j=some e→match e with
  | .box cs=>WholeL k L cs
  | .arr _ xs fl=>fl.nest=false∨WholeL k L xs
  | .dead=>True
 | [],_,_,_,he=>by simp[lookE]at he
 |(i,e0)::r,j,e,h,he=>by
  rw[lookE_cons]at he
  split at he
  ·cases he;exact h.1
  ·exact WholeH.at h.2 he
theorem Whole.cells {k L:Nat} {x:AV} (h:Whole k L x):WholeL k L x.cells:=by
 cases x<;>first
  |exact h
  |exact⟨h,trivial⟩
theorem RepV.whole {w:World} {D D':Nat→Prop} {h h':Heap} {β β':Map} (k L:Nat) (hD:∀b,D' b→D b) (hh:∀j,j≠k→h' j=h j) (hβ:∀j,j≠k→β' j=β j) (hw:∀c,RepV w D h β (.ref k 0 L) c→RepV w D' h' β' (.ref k 0 L) c) {v:AV} {c:Value} (hv:RepV w D h β v c):Whole k L v→RepV w D' h' β' v c:=by
 have key:∀{off len j c},(j=k→off=0∧len=L)→RepV w D h β (.ref j off len) c→(j≠k→RepV w D' h' β' (.ref j off len) c)→RepV w D' h' β' (.ref j off len) c:=fun {off len j c} h1 h2 h3=>by
  by_cases hj:j=k
  ·obtain⟨rfl,rfl⟩:=h1 hj
   subst hj
   exact hw _ h2
  ·exact h3 hj
 induction hv with
 |fz v c hf=>exact fun _=> .fz v c (hf.less hD)
 |agg cs c hl h1 hr ih=>exact fun hk=> .agg cs c hl h1 fun i v hv=>ih i v hv (WholeL.at hk hv)
 |fn f caps c hl hr ih=>exact fun hk=> .fn f caps c hl fun i v hv=>ih i v hv (WholeL.at hk hv)
 |tup vs c hl hr ih=>exact fun hk=> .tup vs c hl fun i v hv=>ih i v hv (WholeL.at hk hv)
 |dref j off len c hk' h1=>exact fun hk=>key hk (.dref j off len c hk' h1) fun hj=> .dref j off len c (by rw[hh j hj];exact hk') h1
 |dptr j i off c hk' h1=>exact fun hk=> .dptr j i off c (by rw[hh j hk];exact hk') h1
 |ref j off len sz xs st b n cap hk' hb hn hc hs=>exact fun hk=>key hk (.ref j off len sz xs st b n cap hk' hb hn hc hs) fun hj=> .ref j off len sz xs st b n cap (by rw[hh j hj];exact hk') (by rw[hβ j hj];exact hb) hn hc hs
 |ref0 j off sz xs st a hk' hn=>exact fun hk=>key hk (.ref0 j off sz xs st a hk' hn) fun hj=> .ref0 j off sz xs st a (by rw[hh j hj];exact hk') hn
 |pbox j off cs b n hk' hb=>exact fun hk=> .pbox j off cs b n (by rw[hh j hk];exact hk') (by rw[hβ j hk];exact hb)
 |parr j i off sz xs st b n hk' hb hi ho=>exact fun hk=> .parr j i off sz xs st b n (by rw[hh j hk];exact hk') (by rw[hβ j hk];exact hb) hi ho
section
variable {P:Program} {K0:List Nat} {F:Fr K0} {m:Nat} {tm:List (Nat×AV)} {h:List (Nat×Ent)}
end
section
variable {P:Program} {TT:List TI} {K0:List Nat} {F:Fr K0} {m:Nat} {ops:Array Oper} {dr:Bool} {rest:List Oper} {fs:List FP} {Q:List FP→St→Prop} {tm:List (Nat×AV)} {h:List (Nat×Ent)} {ty:Nat} {pos:String} {after:Array Edge} {t:Nat}
theorem x_bslN (k:Nat) (hP:TOK P TT) {T e len:Nat} {ps:Array (Nat×Operand)} {ti te:TI} {xs:List AV} (hT:TT[T]? =some ti) (hd:ti.d= .slice e) (he:TT[e]? =some te) (hp:Nat.ble 1 te.size=true) (hps:prts ⟨tm,h⟩ ps=(xs.zipIdx 0).map fun x=>(x.2,x.1)) (hl:Nat.beq xs.length len=true)
  (hw:xs.all (fun x=>Nat.beq x.cells.length te.size&&x.ok)=true) (hb:Nat.ble (len*te.size) 65536=true) (hzl:Nat.beq te.zero.length te.size=true) (hm:Nat.blt t m=true) (hnn:(lookE h k).isNone=true)
  {sz:Nat} (hse:te.size=sz) (hk:OpsX P F m ops dr rest ⟨(t,.ref k 0 len)::tm,(k,.arr sz xs ⟨false,true⟩)::h⟩ (⟨true,[k,k],[]⟩::fs) Q):OpsX P F m ops dr (⟨some t,.buildSlice T len ps,ty,pos,after,none⟩::rest) ⟨tm,h⟩ fs Q:=by
 subst hse;exact x_w (nw:=[k]) (stp_buildSliceN hP k hT hd he hp hps hl hw hb hzl) hm (all1 hnn) rfl hk
end
end Av
end Go.Proofs.YtaikgchmpieooaaGreat
