/- Part 1. -/
import Derived.Below
import Derived.Orders
import Derived.LoopN
import Derived.Laws.Sem
import Derived.KernelRfl
import Derived.Laws.AppendOwn
import Derived.Laws.CopyRow
import Derived.IntWalk
import Derived.Laws.MakeOwn
import Derived.Laws.Append
import Derived.Great.FillDense
import Derived.Laws.Tables
namespace Go.Proofs.YteajjdidebfcjaaGreat
namespace Av
theorem Z{α:Sort _}{a:α}:a=a:=rfl
set_option linter.all false
def yAc:=@if_neg
def yAd:=@if_pos
def yAe:=@List.length_map
def yAf:=@List.length_append
def yAg:=@Nat.le_refl
def yAh:=@List.take_length
def yAi:=@List.getElem?_map
def yAj:=@decide_eq_true
def yAk:=@List.getD_eq_getElem?_getD
def yAl:=@decide_eq_false
def yAm:=@decide_eq_true_eq
def yAn:=@List.map_append
def yAo:=@List.take_of_length_le
def yAp:=@List.length_cons
def yAq:=@Option.map_eq_some_iff
def yAr:=@List.getElem?_eq_getElem
def yAs:=@Bool.and_eq_true
def yAt:=@Nat.zero_le
def yAu:=@List.all_eq_true
def yAv:=@Nat.le_of_ble_eq_true
def yAw:=@List.length_take
def yAx:=@Bool.false_ne_true
def yAy:=@decide_eq_false_iff_not
def yAz:=@List.mem_append
def yA0:=@Nat.mul_le_mul_right
def yA1:=@List.getElem?_eq_none
def yA2:=@List.mem_range
def yA3:=@Bool.true_and
def yA4:=@List.getElem?_append_right
def yA5:=@List.getElem?_eq_some_iff
def yA6:=@List.append_assoc
def yA7:=@List.length_drop
def yA8:=@List.append_nil
def yA9:=@List.getElem?_append_left
def yBa:=@congrArg
def yBb:=@List.eq_nil_of_length_eq_zero
def yBc:=@List.mem_of_mem_drop
def yBd:=@Nat.eq_of_beq_eq_true
def yBe:=@List.mem_singleton
def yBf:=@List.drop_zero
def yBg:=@List.getElem?_range
def yBh:=@Array.getD_eq_getD_getElem?
def yBi:=@Nat.add_mul
def yBj:=@List.ext_getElem?
def yBk:=@List.length_nil
def yBl:=@List.mem_map
def yBm:=@beq_eq_false_iff_ne
def yBn:=@Nat.le_trans
def yBo:=@Nat.lt_of_lt_of_le
def yBp:=@List.mem_of_getElem?
def yBq:=@Int.toNat_natCast
def yBr:=@List.getElem?_take
def yBs:=@List.map_cons
def yBt:=@List.mem_cons
def yBu:=@Option.some.injEq
def yBv:=@Nat.zero_add
def yBw:=@beq_iff_eq
def yBx:=@cond_true
def yBy:=@List.mem_of_mem_take
def yBz:=@Int.tmod_eq_emod_of_nonneg
def yB0:=@bne_eq_false_iff_eq
def yB1:=@List.length_range
def yB2:=@List.length_replicate
def yB3:=@List.getElem?_drop
def yB4:=@Bool.false_and
def yB5:=@List.getElem?_set_self
def yB6:=@Int.tdiv_eq_ediv_of_nonneg
def yB7:=@List.length_set
def yB8:=@List.any_eq_true
def yB9:=@Classical.byContradiction
def yCa:=@Int.eq_ofNat_of_zero_le
def yCb:=@List.getElem?_replicate
def yCc:=@List.nil_append
def yCd:=@Prod.mk.injEq
def yCe:=@Nat.one_mul
def yCf:=@Nat.le_of_eq
def yCg:=@cond_false
def yCh:=@Option.getD_some
def yCi:=@Array.getElem?_append_left
def yCj:=@Int.le_refl
def yCk:=@List.map_set
def yCl:=@List.length_singleton
def yCm:=@Nat.sub_self
def yCn:=@List.getElem?_set
def yCo:=@List.length_filter_le
def yCp:=@List.getElem_of_mem
def yCq:=@List.map_nil
def yCr:=@Option.some.inj
def yCs:=@bne_iff_ne
def yCt:=@List.take_add_one
def yCu:=@Int.fdiv_eq_ediv_of_nonneg
def yCv:=@List.flatten_append
def yCw:=@List.drop_eq_getElem_cons
def yCx:=@List.range_succ
def yCy:=@Bool.not_eq_true
def yCz:=@Bool.not_eq_true'
def yC0:=@List.flatten_cons
def yC1:=@Bool.or_eq_true
def yC2:=@List.take_append_drop
def yC3:=@Nat.not_lt_zero
def yC4:=@Array.getElem?_eq_some_iff
def yC5:=@List.cons_append
def yC6:=@Nat.mod_eq_of_lt
def yC7:=@List.take_append_of_le_length
def yC8:=@List.mem_or_eq_of_mem_set
def yC9:=@Bool.false_or
def yDa:=@List.getElem_mem
def yDb:=@List.getElem?_toArray
def yDc:=@Array.length_toList
def yDd:=@List.all_eq_false
def yDe:=@List.any_eq_false
def yDf:=@List.size_toArray
def yDg:=@List.map_drop
def yDh:=@List.map_take
def yDi:=@Bool.true_or
def yDj:=@List.contains_iff_mem
def yDk:=@List.set_append_right
def yDl:=@List.take_zero
def yDm:=@Nat.add_zero
def yDn:=@Nat.mul_le_mul
def yDo:=@Option.map_none
def yDp:=@List.drop_length
def yDq:=@List.take_succ_eq_append_getElem
def yDr:=@List.drop_eq_nil_of_le
def yDs:=@Decidable.not_not
def yDt:=@List.map_congr_left
def yDu:=@List.singleton_append
def yDv:=@BitVec.toNat_ofNat
def yDw:=@Int.emod_lt_of_pos
def yDx:=@List.filter_append
def yDy:=@BitVec.ofInt_natCast
def yDz:=@List.mem_filter
def yD0:=@List.drop_succ_cons
def yD1:=@Bool.or_true
def yD2:=@List.zipWith_cons_cons
def yD3:=@ne_eq
def yD4:=@List.mem_flatten
def yD5:=@Bool.and_false
def yD6:=@List.map_replicate
def yD7:=@Nat.ble_eq_true_of_le
def yD8:=@Int.emod_nonneg
def yD9:=@List.getElem?_of_mem
def yEa:=@List.mem_iff_getElem
def yEb:=@Nat.shiftLeft_add_eq_or_of_lt
def yEc:=@List.replicate_succ
def yEd:=@Array.getElem?_append_right
def yEe:=@Nat.zero_mul
def yEf:=@Nat.lt_irrefl
def yEg:=@List.getElem?_set_ne
def yEh:=@List.pairwise_append
def yEi:=@Nat.pow_le_pow_right
def yEj:=@List.drop_left
def yEk:=@List.not_mem_nil
def yEl:=@Int.toNat_of_nonneg
def yEm:=@List.length_zipWith
def yEn:=@List.filter_cons_of_neg
def yEo:=@List.filter_cons_of_pos
def yEp:=@Bool.and_true
def yEq:=@Int.not_le
def yEr:=@Int.not_lt
def yEs:=@List.mem_replicate
def yEt:=@List.pairwise_cons
def yEu:=@List.set_cons_zero
def yEv:=@List.drop_of_length_le
def yEw:=@List.drop_append_of_le_length
def yEx:=@Bool.eq_false_iff
def yEy:=@of_decide_eq_true
def yEz:=@List.map_map
def yE0:=@Nat.mul_comm
def yE1:=@List.getElem?_zipIdx
def yE2:=@Nat.le_of_mul_le_mul_right
def yE3:=@List.replicate_zero
def yE4:=@List.take_succ_cons
def yE5:=@Bool.eq_iff_iff
def yE6:=@List.mem_of_find?_eq_some
def yE7:=@List.take_left'
def yE8:=@Nat.mul_add_mod
def yE9:=@Int.natCast_nonneg
def yFa:=@List.eq_of_mem_replicate
def yFb:=@List.find?_eq_none
def yFc:=@List.set_set
def yFd:=@List.take_append_getElem
def yFe:=@Nat.le_of_lt
def yFf:=@Nat.sub_zero
def yFg:=@Bool.not_false
def yFh:=@Array.size_append
def yFi:=@List.foldl_append
def yFj:=@Nat.sub_mul
def yFk:=@Nat.add_assoc
def yFl:=@Array.toList_map
def yFm:=@Nat.shiftLeft_eq
def yFn:=@List.set_getElem_self
def yFo:=@dif_pos
def yFp:=@Array.getElem?_range
def yFq:=@Int.natCast_add
def yFr:=@Int.pow_succ
def yFs:=@List.replicate_succ'
def yFt:=@List.filter_eq_self
def yFu:=@List.nodup_nil
def yFv:=@or_false
def yFw:=@Array.getElem?_map
def yFx:=@Int.tmod_lt_of_pos
def yFy:=@Option.toList_some
def yFz:=@Bool.not_true
def yF0:=@Array.all_eq_true
def yF1:=@List.find?_append
def yF2:=@Nat.or_lt_two_pow
def yF3:=@not_true_eq_false
def yF4:=@if_true
def yF5:=@List.mem_toArray
def yF6:=@BitVec.toNat_or
def yF7:=@Int.natCast_mul
def yF8:=@Int.tmod_nonneg
def yF9:=@List.find?_cons
def yGa:=@List.find?_some
def yGb:=@List.foldl_cons
def yGc:=@Nat.min_eq_left
def yGd:=@Int.mul_nonneg
def yGe:=@List.mapM_cons
def yGf:=@List.take_left
def yGg:=@Nat.testBit_or
def yGh:=@Nat.mod_lt
def yGi:=@Bool.or_false
def yGj:=@List.all_cons
def yGk:=@Int.min_self
def yGl:=@and_false
def yGm:=@decide_false
def zS {p:Prop} (h:p:=by simp):p:=h
def xL {p:Prop} (h:p:=by decide):p:=h
def wF {p:Prop} (h:p:=by(simp;omega)):p:=h
def uF {p:Prop} (h:p:=by simp[Op.operands]):p:=h
def qX {p:Prop} (h:p:=by simp[Op.operands,Call.operands]):p:=h
def kK {p:Prop} (h:p:=by(first|rfl|assumption)):p:=h
def ZF {p:Prop} (h:p:=by simp[List.getD,hi']):p:=h
def RS {p:Prop} (h:p:=by simp[hx]):p:=h
def RT {p:Prop} (h:p:=by(rw[yA7];omega)):p:=h
def QY {p:Prop} (h:p:=by assumption):p:=h
def WA {p:Prop} (h:p:=by kernel_rfl):p:=h
def WB {p:Prop} (h:p:=by(have:=H.vl;omega)):p:=h
def TJ {p:Prop} (h:p:=by simpa using h):p:=h
def TK {p:Prop} (h:p:=by simp[hi]):p:=h
def QL {p:Prop} (h:p:=by(rw[yAe];omega)):p:=h
def NS {p:Prop} (h:p:=by(rw[yAw];omega)):p:=h
def NT {p:Prop} (h:p:=by(rw[hh j hj];exact hk')):p:=h
def NU {p:Prop} (h:p:=by(rw[<-e3];exact hv)):p:=h
def KT {p:Prop} (h:p:=by simpa using h2):p:=h
def KU {p:Prop} (h:p:=by(rw[hk];rfl)):p:=h
def KV {p:Prop} (h:p:=by(rw[hk];exact q1)):p:=h
def DT {p:Prop} (h:p:=by simpa using hi):p:=h
def DU {p:Prop} (h:p:=by simpa using hv):p:=h
def DV {p:Prop} (h:p:=by simpa using hl):p:=h
def DW {p:Prop} (h:p:=by simpa using hn):p:=h
def DX {p:Prop} (h:p:=by simpa using h1):p:=h
def DY {p:Prop} (h:p:=by(rw[hbk,e];simp)):p:=h
def zDn {p:Prop} (h:p:=by(first|exact yDg.symm|rfl)):p:=h
def zDo {p:Prop} (h:p:=by(first|exact yDh.symm|rfl)):p:=h
def zDp {p:Prop} (h:p:=by(first|assumption|rfl)):p:=h
def zDq {p:Prop} (h:p:=by rw[yAe,hp]):p:=h
def zDr {p:Prop} (h:p:=by(rw[yAm];exact hs)):p:=h
def zDs {p:Prop} (h:p:=by(rw[hβ j hj];exact hb)):p:=h
def zDt {p:Prop} (h:p:=by simpa using this):p:=h
def zDu {p:Prop} (h:p:=by(rw[hl]at hi;omega)):p:=h
def zDv {p:Prop} (h:p:=by(have:=J.n;omega)):p:=h
def zJx {p:Prop} (h:p:=by(rw[yAw,yA7];omega)):p:=h
def zJy {p:Prop} (h:p:=by rw[yBf,yAh]):p:=h
def zJz {p:Prop} (h:p:=by(rw[hq];exact yAx)):p:=h
def zJ0 {p:Prop} (h:p:=by(rw[hh j hk];exact hk')):p:=h
def zJ1 {p:Prop} (h:p:=by(rw[yB7,yAe];exact yAg _)):p:=h
def zSm {p:Prop} (h:p:=by(simp[List.getD];rw[yAr zB];simp)):p:=h
def zSn {p:Prop} (h:p:=by rw[<-yCw hi,yC2]):p:=h
def zSo {p:Prop} (h:p:=by rw[hN,yBf,<-hz3l,yAh]):p:=h
def zSp {p:Prop} (h:p:=by(rcases hk with hk|hk|hk|hk<;>rw[hk]<;>rfl)):p:=h
inductive AV where
 |bot
 |gh (n:Nat)
 |s (v:Value)
 |agg (cs:List AV)
 |sl (nn:Bool) (xs:List AV)
 |slc (cap:Nat) (xs:List AV)
 |ref (k off len:Nat)
 |ptr (k i off:Nat)
 |fp (xs:List AV) (i off:Nat)
 |fn (f:Nat) (caps:List AV)
 |tup (vs:List AV)
 |fm (ob:Option Nat) (p:Obj->Prop)
 deriving Inhabited
def AV.cells:AV->List AV
 | .agg cs=>cs
 |v=>[v]
def AV.isAgg:AV->Bool
 | .agg _=>true
 |_=>false
def cA:Nat:=9223372036854775807
structure Lay (w:World) (D:Nat->Prop) (xs:List AV) (b o sz:Nat) (f:Nat->Nat->Value):Prop where
 lt:b<w.heap.size
 nd:¬D b
 pos:1<=sz
 max:xs.length<=cA
 wide:∀(i:Nat) (x:AV),xs[i]? =some x->x.cells.length=sz
 cell:∀i j,i<xs.length->j<sz->w.cell? ⟨b,o+i*sz+j,none⟩=some (f i j)
 one:∀i j,i<xs.length->j<sz->(f i j).oneCell'=true
inductive xH (w:World) (D:Nat->Prop):AV->Value->Prop
 |bot (c:Value):xH w D .bot c
 |gh (n:Nat) (c:Value):xH w D (.gh n) c
 |s (v:Value):xH w D (.s v) v
 |agg (cs:List AV) (c:Array Value) (hl:c.size=cs.length) (h1:∀i,i<c.size->(c.getD i undef).oneCell'=true) (h:∀(i:Nat) v,cs[i]? =some v->xH w D v (c.getD i undef)):xH w D (.agg cs) (.agg c)
 |nil (a:Option Addr) (cap:Nat):xH w D (.sl false []) (.slice a 0 cap)
 |nil1 (a:Addr) (cap:Nat):xH w D (.sl true []) (.slice (some a) 0 cap)
 |sl (nn:Bool) (xs:List AV) (b o sz cap:Nat) (f:Nat->Nat->Value) (hx:xs≠[]) (hL:Lay w D xs b o sz f) (hc:xs.length<=cap)
  (h:∀(i:Nat) (x:AV) (j:Nat) v,xs[i]? =some x->x.cells[j]? =some v->xH w D v (f i j)):xH w D (.sl nn xs) (.slice (some ⟨b,o,none⟩) xs.length cap)
 |slc (cap:Nat) (xs:List AV) (b o sz:Nat) (f:Nat->Nat->Value) (hL:Lay w D xs b o sz f) (hc:xs.length<=cap)
  (h:∀(i:Nat) (x:AV) (j:Nat) v,xs[i]? =some x->x.cells[j]? =some v->xH w D v (f i j)):xH w D (.slc cap xs) (.slice (some ⟨b,o,none⟩) xs.length cap)
 |fp (xs:List AV) (b o sz i off:Nat) (f:Nat->Nat->Value) (hL:Lay w D xs b o sz f) (hi:i<xs.length) (ho:off<sz)
  (h:∀(i:Nat) (x:AV) (j:Nat) v,xs[i]? =some x->x.cells[j]? =some v->xH w D v (f i j)):xH w D (.fp xs i off) (.pointer (some ⟨b,o+i*sz+off,none⟩))
 |fm (ob:Option Nat) (p:Obj->Prop) (b:Nat) (x:Obj) (ho:∀n,ob=some n->n=b) (hl:b<w.heap.size) (hd:¬D b) (hx:w.heap[b]? =some x) (hp:p x):xH w D (.fm ob p) (.map (some b))
structure Fl where
 stale:Bool
 nest:Bool
instance:Coe Bool Fl:=⟨λb=>⟨b,false⟩⟩
inductive xO where
 |box (cs:List AV)
 |arr (sz:Nat) (xs:List AV) (fl:Fl)
 |dead
 |obj (o:Nat×(Obj->Prop))
abbrev yG:=Nat->Option xO
abbrev uG:=Nat->List (Nat×Nat)
def wH (w:World) (b:Nat):Nat:=((w.shape? b).map (·.2)).getD 0
inductive zY (w:World) (D:Nat->Prop) (h:yG) (β:uG):AV->Value->Prop
 |fz (v:AV) (c:Value) (hf:xH w D v c):zY w D h β v c
 |agg (cs:List AV) (c:Array Value) (hl:c.size=cs.length) (h1:∀i,i<c.size->(c.getD i undef).oneCell'=true) (hh:∀(i:Nat) v,cs[i]? =some v->zY w D h β v (c.getD i undef)):zY w D h β (.agg cs) (.agg c)
 |fn (f:Nat) (caps:List AV) (c:Array Value) (hl:c.size=caps.length) (hh:∀(i:Nat) v,caps[i]? =some v->zY w D h β v (c.getD i undef)):zY w D h β (.fn f caps) (.func (.func f) #[] c)
 |tup (vs:List AV) (c:Array Value) (hl:c.size=vs.length) (hh:∀(i:Nat) v,vs[i]? =some v->zY w D h β v (c.getD i undef)):zY w D h β (.tup vs) (.tuple c)
 |dref (k off len:Nat) (c:Value) (hk:h k=some .dead) (h1:c.oneCell'=true):zY w D h β (.ref k off len) c
 |dptr (k i off:Nat) (c:Value) (hk:h k=some .dead) (h1:c.oneCell'=true):zY w D h β (.ptr k i off) c
 |ref (k off len sz:Nat) (xs:List AV) (st:Fl) (b n cap:Nat) (hk:h k=some (.arr sz xs st)) (hb:(b,n)∈β k) (hn:off+len<=n) (hc:len<=cap) (hs:(off+cap)*sz=wH w b):
  zY w D h β (.ref k off len) (.slice (some ⟨b,off*sz,none⟩) len cap)
 |ref0 (k off sz:Nat) (xs:List AV) (st:Fl) (a:Option Addr) (hk:h k=some (.arr sz xs st)) (hn:off<=xs.length):zY w D h β (.ref k off 0) (.slice a 0 0)
 |pbox (k off:Nat) (cs:List AV) (b n:Nat) (hk:h k=some (.box cs)) (hb:(b,n)∈β k):zY w D h β (.ptr k 0 off) (.pointer (some ⟨b,off,none⟩))
 |parr (k i off sz:Nat) (xs:List AV) (st:Fl) (b n:Nat) (hk:h k=some (.arr sz xs st)) (hb:(b,n)∈β k) (hi:i<n) (ho:off<sz):
  zY w D h β (.ptr k i off) (.pointer (some ⟨b,i*sz+off,none⟩))
def xP (X:Nat->Prop) (β:uG) (b:Nat):Prop:=X b∨∃k n,(b,n)∈β k
def jP (w:World) (D:Nat->Prop) (h:yG) (β:uG) (nest:Bool) (xs:List AV) (f:Nat->Nat->Value):Prop:=
 ∀(i:Nat) (x:AV) (j:Nat) v,xs[i]? =some x->x.cells[j]? =some v->zY w D h β v (f i j)/\(nest=false->xH w D v (f i j))
theorem jP.ofF {w:World} {D:Nat->Prop} {h:yG} {β:uG} {nest:Bool} {xs:List AV} {f:Nat->Nat->Value} (H:∀(i:Nat) (x:AV) (j:Nat) v,xs[i]? =some x->x.cells[j]? =some v->xH w D v (f i j)):jP w D h β nest xs f:=
 λi x j v hx hv=>⟨.fz _ _ (H i x j v hx hv),λ_=>H i x j v hx hv⟩
theorem jP.toF {w:World} {D:Nat->Prop} {h:yG} {β:uG} {nest:Bool} {xs:List AV} {f:Nat->Nat->Value} (H:jP w D h β nest xs f) (hn:nest=false) (i:Nat) (x:AV) (j:Nat) (v:AV) (hx:xs[i]? =some x) (hv:x.cells[j]? =some v):xH w D v (f i j):=
 (H i x j v hx hv).2 hn
theorem jP.toV {w:World} {D:Nat->Prop} {h:yG} {β:uG} {nest:Bool} {xs:List AV} {f:Nat->Nat->Value} (H:jP w D h β nest xs f) (i:Nat) (x:AV) (j:Nat) (v:AV) (hx:xs[i]? =some x) (hv:x.cells[j]? =some v):zY w D h β v (f i j):=
 (H i x j v hx hv).1
def TL (w:World) (D:Nat->Prop) (h:yG) (β:uG) (k:Nat):xO->Prop
 | .box cs=>∃b c el,β k=[(b,0)]/\w.heap[b]? =some (.cells c el (0,0))/\c.size=cs.length/\(∀i,i<c.size->(c.getD i undef).oneCell'=true)/\∀(i:Nat) v,cs[i]? =some v->zY w D h β v (c.getD i undef)
 | .obj o=>β k=[(o.1,0)]/\∃x,w.heap[o.1]? =some x/\o.2 x
 | .arr sz xs st=>1<=sz/\xs.length<=cA/\(xs≠[]->β k≠[])/\(∀(i:Nat) (x:AV),xs[i]? =some x->x.cells.length=sz)/\
  (∀b n r,β k=(b,n)::r->n=xs.length/\(st.stale=false->∀b' n',(b',n')∈r->n'=0)/\∀b' n',(b',n')∈r->n'<xs.length)/\
  ∃f:Nat->Nat->Value,jP w D h β st.nest xs f/\(∀i j,i<xs.length->j<sz->(f i j).oneCell'=true)/\
   ∀b n,(b,n)∈β k->∃c el,w.heap[b]? =some (.cells c el (0,0))/\n*sz<=c.size/\(∀i j,i<n->j<sz->c[i*sz+j]? =some (f i j))/\∀i,i<c.size->(c.getD i undef).oneCell'=true
 | .dead=>β k=[]
structure jA (X:Nat->Prop) (h:yG) (β:uG) (w:World):Prop where
 ent:∀k e,h k=some e->TL w (xP X β) h β k e
 off:∀k,h k=none->β k=[]
 disj:∀k k' b n n',(b,n)∈β k->(b,n')∈β k'->k=k'
 free:∀k b n,(b,n)∈β k->¬X b
 lt:∀b,xP X β b->b<w.heap.size
structure FK (w:World) (D:Nat->Prop) (h:yG) (β:uG) (w':World) (D':Nat->Prop) (h':yG) (β':uG):Prop where
 size:w.heap.size<=w'.heap.size
 fz:∀b,b<w.heap.size->¬D b->w'.heap[b]? =w.heap[b]? /\¬D' b
 bs:∀k b n,(b,n)∈β k->wH w' b=wH w b
 key:∀k e,h k=some e->h' k=some .dead∨match e with
  | .dead=>False
  | .box _=>(∃cs',h' k=some (.box cs'))/\∀b n,(b,n)∈β k->(b,n)∈β' k
  | .obj _=>(∃cs',h' k=some (.obj cs'))/\∀b n,(b,n)∈β k->(b,n)∈β' k
  | .arr sz xs _=>(∃xs' st',h' k=some (.arr sz xs' st')/\xs.length<=xs'.length)/\∀b n,(b,n)∈β k->∃n',n<=n'/\(b,n')∈β' k
theorem Lay.evo {w w':World} {D D':Nat->Prop} {xs:List AV} {b o sz:Nat} {f:Nat->Nat->Value} (hL:Lay w D xs b o sz f) (hs:w.heap.size<=w'.heap.size)
  (hf:∀b,b<w.heap.size->¬D b->w'.heap[b]? =w.heap[b]? /\¬D' b):Lay w' D' xs b o sz f:=
 ⟨yBo hL.lt hs,(hf b hL.lt hL.nd).2,hL.pos,hL.max,hL.wide,λi j hi hj=>(World.cell?_of_block (a:=⟨b,o+i*sz+j,none⟩) (hf b hL.lt hL.nd).1).trans (hL.cell i j hi hj),hL.one⟩
theorem xH.evo {w w':World} {D D':Nat->Prop} (hs:w.heap.size<=w'.heap.size) (hf:∀b,b<w.heap.size->¬D b->w'.heap[b]? =w.heap[b]? /\¬D' b)
  {v:AV} {c:Value} (h:xH w D v c):xH w' D' v c:=by
 induction h with
 |bot c=>exact .bot c
 |gh n c=>exact .gh n c
 |s v=>exact .s v
 |agg cs c hl h1 _ ih=>exact .agg cs c hl h1 ih
 |nil a cap=>exact .nil a cap
 |nil1 a cap=>exact .nil1 a cap
 |sl nn xs b o sz cap f hx hL hc _ ih=>exact .sl nn xs b o sz cap f hx (hL.evo hs hf) hc ih
 |slc cap xs b o sz f hL hc _ ih=>exact .slc cap xs b o sz f (hL.evo hs hf) hc ih
 |fp xs b o sz i off f hL hi ho _ ih=>exact .fp xs b o sz i off f (hL.evo hs hf) hi ho ih
 |fm ob p b x ho hl hd hx hp=>exact .fm ob p b x ho (yBo hl hs) (hf b hl hd).2 ((hf b hl hd).1.trans hx) hp
theorem zY.evo {w w':World} {D D':Nat->Prop} {h h':yG} {β β':uG} (E:FK w D h β w' D' h' β') {v:AV} {c:Value} (hv:zY w D h β v c):zY w' D' h' β' v c:=by
 induction hv with
 |fz v c hf=>exact .fz v c (hf.evo E.size E.fz)
 |agg cs c hl h1 _ ih=>exact .agg cs c hl h1 ih
 |fn f caps c hl _ ih=>exact .fn f caps c hl ih
 |tup vs c hl _ ih=>exact .tup vs c hl ih
 |dref k off len c hk h1=>exact .dref _ _ _ _ ((E.key k _ hk).resolve_right (λf=>f)) h1
 |dptr k i off c hk h1=>exact .dptr _ _ _ _ ((E.key k _ hk).resolve_right (λf=>f)) h1
 |ref k off len sz xs st b n cap hk hb hn hc hs=>
  rcases E.key k _ hk with hd|⟨⟨xs',st',hk',_⟩,hm⟩
  ·exact .dref _ _ _ _ hd Z
  ·obtain⟨n',hn',hb'⟩:=hm b n hb;exact .ref k off len sz xs' st' b n' cap hk' hb' (yBn hn hn') hc (by rw[E.bs k b n hb];exact hs)
 |ref0 k off sz xs st a hk hn=>
  rcases E.key k _ hk with hd|⟨⟨xs',st',hk',hl⟩,hm⟩
  ·exact .dref _ _ _ _ hd Z
  ·exact .ref0 k off sz xs' st' a hk' (yBn hn hl)
 |pbox k off cs b n hk hb=>
  rcases E.key k _ hk with hd|⟨⟨cs',hk'⟩,hm⟩
  ·exact .dptr _ _ _ _ hd Z
  ·exact .pbox k off cs' b n hk' (hm b n hb)
 |parr k i off sz xs st b n hk hb hi ho=>
  rcases E.key k _ hk with hd|⟨⟨xs',st',hk',hl⟩,hm⟩
  ·exact .dptr _ _ _ _ hd Z
  ·obtain⟨n',hn',hb'⟩:=hm b n hb;exact .parr k i off sz xs' st' b n' hk' hb' (yBo hi hn') ho
theorem jP.evo {w w':World} {D D':Nat->Prop} {h h':yG} {β β':uG} (E:FK w D h β w' D' h' β') {nest:Bool} {xs:List AV} {f:Nat->Nat->Value} (H:jP w D h β nest xs f):jP w' D' h' β' nest xs f:=
 λi x j v hx hv=>⟨(H i x j v hx hv).1.evo E,λhn=>((H i x j v hx hv).2 hn).evo E.size E.fz⟩
structure xN (X:Nat->Prop) (w:World) (h:yG) (β:uG) (w':World) (h':yG) (β':uG):Prop where
 size:w.heap.size<=w'.heap.size
 keep:∀b,b<w.heap.size->(∀k n,(b,n)∉β k)->w'.heap[b]? =w.heap[b]?
 own:∀k b n,(b,n)∈β' k->(∃k' n',(b,n')∈β k')∨w.heap.size<=b
 bs:∀k b n,(b,n)∈β k->wH w' b=wH w b
 key:∀k e,h k=some e->h' k=some .dead∨match e with
  | .dead=>False
  | .box _=>(∃cs',h' k=some (.box cs'))/\∀b n,(b,n)∈β k->(b,n)∈β' k
  | .obj _=>(∃cs',h' k=some (.obj cs'))/\∀b n,(b,n)∈β k->(b,n)∈β' k
  | .arr sz xs _=>(∃xs' st',h' k=some (.arr sz xs' st')/\xs.length<=xs'.length)/\∀b n,(b,n)∈β k->∃n',n<=n'/\(b,n')∈β' k
 hok:jA X h' β' w'
 os:w'.os=w.os
 tape:w'.tape=w.tape
 output:w'.output=w.output
theorem xN.evo {X:Nat->Prop} {w w':World} {h h':yG} {β β':uG} (G:xN X w h β w' h' β'):FK w (xP X β) h β w' (xP X β') h' β' where
 size:=G.size
 fz b hb hd:=by
  have h1:∀k n,(b,n)∉β k:=λk n hm=>hd (.inr ⟨k,n,hm⟩)
  refine⟨G.keep b hb h1,?_⟩;rintro(hx|⟨k,n,hm⟩)
  ·exact hd (.inl hx)
  ·rcases G.own k b n hm with⟨k',n',h2⟩|h2
   ·exact h1 _ _ h2
   ·omega
 bs:=G.bs
 key:=G.key
def kF (h:yG) (β:uG):∀k e,h k=some e->h k=some .dead∨match e with
  | .dead=>False
  | .box _=>(∃cs',h k=some (.box cs'))/\∀b n,(b,n)∈β k->(b,n)∈β k
  | .obj _=>(∃cs',h k=some (.obj cs'))/\∀b n,(b,n)∈β k->(b,n)∈β k
  | .arr sz xs _=>(∃xs' st',h k=some (.arr sz xs' st')/\xs.length<=xs'.length)/\∀b n,(b,n)∈β k->∃n',n<=n'/\(b,n')∈β k:=by
 intro k e he
 cases e with
 |dead=>exact .inl he
 |box cs=>exact .inr ⟨⟨cs,he⟩,λ_ _ h=>h⟩
 |obj cs=>exact .inr ⟨⟨cs,he⟩,λ_ _ h=>h⟩
 |arr sz xs st=>exact .inr ⟨⟨xs,st,he,yAg _⟩,λ_ n h=>⟨n,yAg _,h⟩⟩
theorem xN.refl {X:Nat->Prop} {h:yG} {β:uG} {w:World} (H:jA X h β w):xN X w h β w h β:=
 ⟨yAg _,λ_ _ _=>rfl,λk _ n hm=> .inl ⟨k,n,hm⟩,λ_ _ _ _=>rfl,kF h β,H,rfl,rfl,rfl⟩
theorem jA.drew {X:Nat->Prop} {h:yG} {β:uG} {w:World} (H:jA X h β w) (n:Nat):jA X h β {w with drawn:=n}:=by
 have ev:∀{v c},zY w (xP X β) h β v c->zY {w with drawn:=n} (xP X β) h β v c:=λhv=>
  zY.evo (w:=w) (w':={w with drawn:=n}) (D':=xP X β) (h':=h) (β':=β) ⟨yAg _,λ_ _ hd=>⟨rfl,hd⟩,λ_ _ _ _=>rfl,kF h β⟩ hv
 have ef:∀{v c},xH w (xP X β) v c->xH {w with drawn:=n} (xP X β) v c:=λhv=>xH.evo (w:=w) (w':={w with drawn:=n}) (D':=xP X β) (yAg _) (λ_ _ hd=>⟨rfl,hd⟩) hv
 refine⟨λk e he=>?_,H.off,H.disj,H.free,H.lt⟩;have:=H.ent k e he
 cases e with
 |dead=>exact this
 |box cs=>
  obtain⟨b,c,el,h1,h2,h3,h4,h5⟩:=this;exact⟨b,c,el,h1,h2,h3,h4,λi v hv=>ev (h5 i v hv)⟩
 |obj cs=>
  exact this
 |arr sz xs st=>
  obtain⟨h1,h2,h3,h4,h5,f,h6,h7⟩:=this;exact⟨h1,h2,h3,h4,h5,f,λi x j v hx hv=>⟨ev (h6 i x j v hx hv).1,λhn=>ef ((h6 i x j v hx hv).2 hn)⟩,h7⟩
theorem xN.drew {X:Nat->Prop} {h:yG} {β:uG} {w:World} (H:jA X h β w) (n:Nat):xN X w h β {w with drawn:=n} h β:=
 ⟨yAg _,λ_ _ _=>rfl,λk _ n hm=> .inl ⟨k,n,hm⟩,λ_ _ _ _=>rfl,kF h β,H.drew n,rfl,rfl,rfl⟩
theorem xN.trans {X:Nat->Prop} {w w' w'':World} {h h' h'':yG} {β β' β'':uG} (H:jA X h β w) (G:xN X w h β w' h' β') (K:xN X w' h' β' w'' h'' β''):xN X w h β w'' h'' β'' where
 size:=yBn G.size K.size
 keep b hb hn:=by
  rw[K.keep b (yBo hb G.size),G.keep b hb hn];intro k n hm
  rcases G.own k b n hm with⟨k',n',h2⟩|h2
  ·exact hn _ _ h2
  ·omega
 own k b n hm:=by
  rcases K.own k b n hm with⟨k',n',h2⟩|h2
  ·exact G.own k' b n' h2
  ·exact .inr (yBn G.size h2)
 bs k b n hm:=by
  have hb:=H.lt b (.inr ⟨k,n,hm⟩);by_cases hd:∃k n,(b,n)∈β' k
  ·obtain⟨k',n',hm'⟩:=hd;rw[K.bs k' b n' hm',G.bs k b n hm]
  ·rw[<-G.bs k b n hm];unfold wH World.shape?;rw[K.keep b (yBo hb G.size) λk n hm=>hd ⟨k,n,hm⟩]
 key k e he:=by
  rcases G.key k e he with h1|h1
  ·rcases K.key k _ h1 with h2|h2
   ·exact .inl h2
   ·exact h2.elim
  ·cases e with
   |dead=>exact h1.elim
   |box cs=>
    obtain⟨⟨cs',h2⟩,h3⟩:=h1
    rcases K.key k _ h2 with h4|⟨h4,h5⟩
    ·exact .inl h4
    ·exact .inr ⟨h4,λb n hm=>h5 b n (h3 b n hm)⟩
   |obj cs=>
    obtain⟨⟨cs',h2⟩,h3⟩:=h1
    rcases K.key k _ h2 with h4|⟨h4,h5⟩
    ·exact .inl h4
    ·exact .inr ⟨h4,λb n hm=>h5 b n (h3 b n hm)⟩
   |arr sz xs st=>
    obtain⟨⟨xs',st',h2,hl⟩,h3⟩:=h1
    rcases K.key k _ h2 with h4|⟨⟨xs'',st'',h4,hl'⟩,h5⟩
    ·exact .inl h4
    ·refine .inr ⟨⟨xs'',st'',h4,yBn hl hl'⟩,λb n hm=>?_⟩;obtain⟨n',hn',hm'⟩:=h3 b n hm;obtain⟨n'',hn'',hm''⟩:=h5 b n' hm';exact⟨n'',yBn hn' hn'',hm''⟩
 hok:=K.hok
 os:=K.os.trans G.os
 tape:=K.tape.trans G.tape
 output:=K.output.trans G.output
section
inductive TD where
 |str (fs:List (Nat×Nat))
 |slice (e:Nat)
 |arr (n e:Nat)
 |int (k:IntKind)
 |bool
 |string
 |ptr (e:Nat)
 |func
 |other
structure TI where
 d:TD
 size:Nat
 bytes:Nat
 zero:List Value
def TD.agg:TD->Bool
 | .str _| .arr _ _=>true
 |_=>false
def XT:TypeDesc->TD
 | .struct fs=> .str (fs.toList.map λf=>(f.offset,f.type))
 | .slice e=> .slice e
 | .array n e=> .arr n e
 | .int k=> .int k
 | .bool=> .bool
 | .string=> .string
 | .pointer e=> .ptr e
 | .func .. => .func
 |_=> .other
def zJ2 (P:Program) (t:Nat):Option TI:=
 match P.info? t,P.underlying t with
 |some i,some u=>i.zero.map λz=>⟨XT u,i.size,i.bytes,z.cells.toList⟩
 |_,_=>none
def uJ (P:Program) (TT:List TI):Prop:=∀(t:Nat) ti,TT[t]? =some ti->zJ2 P t=some ti
def uC {P:Program} {t:Nat} {ti:TI} (h:zJ2 P t=some ti):∃i u z,P.info? t=some i/\P.underlying t=some u/\i.zero=some z/\ti.d=XT u/\ti.size=i.size/\ti.bytes=i.bytes/\ti.zero=z.cells.toList:=by
 unfold zJ2 at h;split at h
 ·rename_i i u hi hu
  cases hz:i.zero with
  |none=>simp[hz]at h
  |some z=>
   simp[hz]at h;exact⟨i,u,z,hi,hu,hz,by rw[<-h],by rw[<-h],by rw[<-h],by rw[<-h]⟩
 ·cases h
section runs
variable {P:Program} {t:Nat} {ti:TI} (h:zJ2 P t=some ti) (w:World)
include h
def DZ:∃i z,(typeInfo t).run P w= .ok i w/\i.size=ti.size/\i.bytes=ti.bytes/\i.zero=some z/\z.cells.toList=ti.zero:=by
 obtain⟨i,u,z,hi,_,hz,_,hs,hb,hzz⟩:=uC h;exact⟨i,z,by simp[typeInfo,hi],hs.symm,hb.symm,hz,hzz.symm⟩
def uK:(sizeOf t).run P w= .ok ti.size w:=by
 obtain⟨i,z,hr,hs,_⟩:=DZ h w;simp[sizeOf,hr,hs]
def NV:∃z,(zeroValue t).run P w= .ok z w/\z.cells.toList=ti.zero:=by
 obtain⟨i,z,hr,_,_,hz,hzz⟩:=DZ h w;exact⟨z,by simp[zeroValue,hr,hz],hzz⟩
def xV:∃u,(underlying t).run P w= .ok u w/\XT u=ti.d:=by
 obtain⟨i,u,z,_,hu,_,hd,_⟩:=uC h;exact⟨u,by simp[underlying,hu],hd.symm⟩
def zDw:(isAgg t).run P w= .ok ti.d.agg w:=by
 obtain⟨u,hr,hd⟩:=xV h w;rw[<-hd];simp only[isAgg,Sem.run_bind,hr,Result.andThen_ok]
 cases u<;>rfl
end runs
def CA {P:Program} {t:Nat} (w:World) {u:TypeDesc} (hu:P.underlying t=some u):(underlying t).run P w= .ok u w:=by simp[underlying,hu]
def vP {u:TypeDesc} {e:Nat} (h:XT u= .slice e):u= .slice e:=by cases u<;>simp[XT]at h;rw[h]
def zBc {u:TypeDesc} {n e:Nat} (h:XT u= .arr n e):u= .array n e:=by cases u<;>simp[XT]at h;rw[h.1,h.2]
def HM {u:TypeDesc} {k:IntKind} (h:XT u= .int k):u= .int k:=by cases u<;>simp[XT]at h;rw[h]
def zP6 {u:TypeDesc} (h:XT u= .bool):u= .bool:=by cases u<;>simp[XT]at h;rfl
def zFs {u:TypeDesc} (h:XT u= .string):u= .string:=by cases u<;>simp[XT]at h;rfl
def zJ3 {u:TypeDesc} {fs:List (Nat×Nat)} (h:XT u= .str fs):∃f,u= .struct f/\f.toList.map (λf=>(f.offset,f.type))=fs:=by
 cases u with
 |struct f=>exact⟨f,rfl,by simpa [XT]using h⟩
 |_=>simp[XT]at h
structure St where
 tm:List (Nat×AV)
 h:List (Nat×xO)
def zG:List (Nat×AV)->Nat->AV
 | [],_=> .bot
 |(k,v)::r,t=>bif Nat.beq t k then v else zG r t
def zD:List (Nat×xO)->Nat->Option xO
 | [],_=>none
 |(k,e)::r,t=>bif Nat.beq t k then some e else zD r t
def over (d:List (Nat×xO)) (h:yG):yG:=λk=>match zD d k with
 |some e=>some e
 |none=>h k
def yO (tm:Nat->AV):Operand->AV
 | .tmp t=>tm t
 | .const v=> .s v
 | .func f=> .fn f []
 | .global _=> .bot
def fV (op:Op):List Nat:=op.operands.toList.filterMap λ| .tmp t=>some t|_=>none
def aN (P:Program) (N:Value->World->Prop):Result Next->Prop
 | .ok (.value c) w'=>N c w'
 | .ok .skip w'=>N undef w'
 | .ok (.enter f args) w'=>Calls P f args w' λe w''=>∃c,e= .returned c/\N c w''
 |_=>False
def zXn (P:Program) (X:Nat->Prop) (tm:Nat->AV) (h:yG) (op:Op) (v:AV) (h':yG):Prop:=
 ∀(o:Oper) (a:Act) (w:World) (β:uG),o.op=op->jA X h β w->(∀t,zY w (xP X β) h β (tm t) (a.eval (.tmp t)))->
  aN P (λc w'=>∃β',xN X w h β w' h' β'/\zY w' (xP X β') h' β' v c) ((execOp a.eval o).run P w)
structure wS (P:Program) (st:St) (op:Op) (v:AV) (d:List (Nat×xO)) (r nw:List Nat):Prop where
 run:∀(X:Nat->Prop) (tm:Nat->AV) (h:yG),(∀t,t∈fV op->tm t=zG st.tm t)->(∀k,k∈r->h k=zD st.h k)->(∀k,k∈nw->h k=none)->zXn P X tm h op v (over d h)
section
variable {w:World} {D:Nat->Prop} {h:yG} {β:uG}
def PV {tm:Nat->AV} {a:Act} (H:∀t,zY w D h β (tm t) (a.eval (.tmp t))) (x:Operand):zY w D h β (yO tm x) (a.eval x):=by
 cases x with
 |tmp t=>exact H t
 |const v=>exact .fz _ _ (.s v)
 |global g=>exact .fz _ _ (.bot _)
 |func f=>exact .fn f [] #[] Z (λi v hv=>by simp at hv)
def zFt {op:Op} {tm tm':Nat->AV} (H:∀t,t∈fV op->tm t=tm' t) {x:Operand} (hx:x∈op.operands):yO tm x=yO tm' x:=by
 cases x with
 |tmp t=>exact H t (by simp only[fV,List.mem_filterMap];exact⟨.tmp t,by simpa using hx,rfl⟩)
 |_=>rfl
theorem zY.s_inv {x c:Value} (hv:zY w D h β (.s x) c):c=x:=by
 cases hv with
 |fz _ _ hf=>cases hf;rfl
def gA {op:Op} {tm:Nat->AV} {st:St} {a:Act} (H:∀t,zY w D h β (tm t) (a.eval (.tmp t))) (hg:∀t,t∈fV op->tm t=zG st.tm t) {x:Operand} (hx:x∈op.operands) {v:AV}
  (hv:yO (zG st.tm) x=v):zY w D h β v (a.eval x):=by
 rw[<-hv,<-zFt hg hx];exact PV H x
def vO {op:Op} {tm:Nat->AV} {st:St} {a:Act} (H:∀t,zY w D h β (tm t) (a.eval (.tmp t))) (hg:∀t,t∈fV op->tm t=zG st.tm t) {x:Operand} (hx:x∈op.operands) {v:Value}
 (hv:yO (zG st.tm) x= .s v):a.eval x=v:=(gA H hg hx hv).s_inv
end
def dP (h:yG):over [] h=h:=rfl
def yR {P:Program} {st:St} {op:Op} {v:AV} {r:List Nat}
  (H:∀(o:Oper) (X:Nat->Prop) (tm:Nat->AV) (h:yG) (w:World) (β:uG) (a:Act),o.op=op->(∀t,t∈fV op->tm t=zG st.tm t)->(∀k,k∈r->h k=zD st.h k)->jA X h β w->
   (∀t,zY w (xP X β) h β (tm t) (a.eval (.tmp t)))->∃c,(execOp a.eval o).run P w= .ok (.value c) w/\zY w (xP X β) h β v c):wS P st op v [] r []:=by
 refine⟨?_⟩;intro X tm h hg hr _ o a w β ho HH Ht;obtain⟨c,hc,hv⟩:=H o X tm h w β a ho hg hr HH Ht;rw[hc,dP];exact⟨β,xN.refl HH,hv⟩
section ops
variable {P:Program} {TT:List TI} {st:St}
def zJ4 {x:Operand} {v:AV} (hv:yO (zG st.tm) x=v):wS P st (.move x) v [] [] []:=
 yR λo X tm h w β a ho hg _ _ Ht=>by
  obtain⟨d0,o0,y0,p0,f0,g0⟩:=o;dsimp only at ho;subst ho;exact⟨a.eval x,rfl,gA Ht hg uF hv⟩
def zBd {x:Operand} {v:AV} (hv:yO (zG st.tm) x=v):wS P st (.assign x) v [] [] []:=
 yR λo X tm h w β a ho hg _ _ Ht=>by
  obtain⟨d0,o0,y0,p0,f0,g0⟩:=o;dsimp only at ho;subst ho;exact⟨a.eval x,rfl,gA Ht hg uF hv⟩
def zJ5 {c x y:Operand} {t:Bool} {v:AV} (hc:yO (zG st.tm) c= .s (.bool t)) (hv:(bif t then yO (zG st.tm) x else yO (zG st.tm) y)=v):wS P st (.pick c x y) v [] [] []:=
 yR λo X tm h w β a ho hg _ _ Ht=>by
  obtain⟨d0,o0,y0,p0,f0,g0⟩:=o;dsimp only at ho;subst ho;have h1:=vO Ht hg (x:=c) uF hc;refine⟨if t then a.eval x else a.eval y,by simp[execOp,h1,asBool],?_⟩;cases t
  ·exact gA Ht hg uF hv
  ·exact gA Ht hg uF hv
def CB {x:Operand} {vs:List AV} {i:Nat} {v:AV} (hx:yO (zG st.tm) x= .tup vs) (hv:vs[i]? =some v):wS P st (.extract x i) v [] [] []:=
 yR λo X tm h w β a ho hg _ _ Ht=>by
  obtain⟨d0,o0,y0,p0,f0,g0⟩:=o;dsimp only at ho;subst ho;have h1:=gA Ht hg (x:=x) uF hx;have hi:=(yA5.1 hv).1;generalize he:a.eval x=cx at h1
  cases h1 with
  |fz _ _ hf=>cases hf
  |tup _ c hl hh=>
   obtain⟨u,hc⟩:∃u,c[i]? =some u:=⟨c[i],by simp[show i<c.size by omega]⟩;have hu:c.getD i undef=u:=by simp[yBh,hc]
   exact⟨u,by simp[execOp,Instr.extract,he,hc],hu▸hh i v hv⟩
def ZM:IntKind->Int->Prop
 | .i64,n=> -9223372036854775808<=n/\n<=9223372036854775807
 | .u8,n=>0<=n/\n<=255
 | .i32,n=> -2147483648<=n/\n<=2147483647
 | .u32,n=>0<=n/\n<=4294967295
 | .u64,n=>0<=n/\n<=18446744073709551615
 | .i8,n=> -128<=n/\n<=127
 | .i16,n=> -32768<=n/\n<=32767
 | .u16,n=>0<=n/\n<=65535
def kG {k:IntKind} {n:Int} (h:ZM k n):k.wrap n=n:=by
 cases k<;>first
  |exact IntWalk.i64_in n h
  |exact IntWalk.u8_in n h
  |exact IntWalk.i32_in n h
  |exact IntWalk.u32_in n h
  |exact IntWalk.u64_in n h
  |exact IntWalk.i8_in n h
  |exact IntWalk.i16_in n h
  |exact IntWalk.u16_in n h
def uL {op:BinOp} {tx ty:Nat} {x y:Operand} {k:IntKind} {m n:Int} {v:Value} (hx:yO (zG st.tm) x= .s (.int k m)) (hy:yO (zG st.tm) y= .s (.int k n))
  (H:∀w,(binOp op tx (.int k m) (.int k n)).run P w= .ok v w):wS P st (.binOp op tx x y ty) (.s v) [] [] []:=
 yR λo X tm h w β a ho hg _ _ Ht=>by
  obtain⟨d0,o0,y0,p0,f0,g0⟩:=o;dsimp only at ho;subst ho;have h1:=vO Ht hg (x:=x) uF hx;have h2:=vO Ht hg (x:=y) uF hy;refine⟨v,?_,.fz _ _ (.s v)⟩
  have hgd:(eqGuard op tx x y (.int k m) (.int k n)).run P w= .ok () w:=by
   unfold eqGuard;cases op<;>rfl
  simp only[execOp,h1,h2,Sem.run_bind,hgd,Result.andThen_ok,H,Sem.run_pure]
section
variable {tx ty:Nat} {x y:Operand} {k:IntKind} {m n:Int} (hx:yO (zG st.tm) x= .s (.int k m)) (hy:yO (zG st.tm) y= .s (.int k n))
include hx hy
def aO (hr:ZM k (m+n)):wS P st (.binOp .add tx x y ty) (.s (.int k (m+n))) [] [] []:=uL hx hy λw=>by simp[binOp,Op.intArith,kG hr]
def PW (hr:ZM k (m-n)):wS P st (.binOp .sub tx x y ty) (.s (.int k (m-n))) [] [] []:=uL hx hy λw=>by simp[binOp,Op.intArith,kG hr]
def aP (hr:ZM k (m*n)):wS P st (.binOp .mul tx x y ty) (.s (.int k (m*n))) [] [] []:=uL hx hy λw=>by simp[binOp,Op.intArith,kG hr]
def PX (hr:ZM k (m.tdiv n)) (h0:n≠0):wS P st (.binOp .quo tx x y ty) (.s (.int k (m.tdiv n))) [] [] []:=uL hx hy λw=>by simp[binOp,Op.intDiv,h0,kG hr]
def PY (h0:n≠0):wS P st (.binOp .rem tx x y ty) (.s (.int k (m.tmod n))) [] [] []:=uL hx hy λw=>by simp[binOp,Op.intDiv,h0]
def PZ:wS P st (.binOp .and tx x y ty) (.s (.int k (k.wrap (BitVec.ofInt k.bits m &&& BitVec.ofInt k.bits n).toNat))) [] [] []:=uL hx hy λw=>by simp only[binOp,Op.intBits];simp
def HN:wS P st (.binOp .or tx x y ty) (.s (.int k (k.wrap (BitVec.ofInt k.bits m ||| BitVec.ofInt k.bits n).toNat))) [] [] []:=uL hx hy λw=>by simp only[binOp,Op.intBits];simp
def OA:wS P st (.binOp .xor tx x y ty) (.s (.int k (k.wrap (BitVec.ofInt k.bits m ^^^ BitVec.ofInt k.bits n).toNat))) [] [] []:=uL hx hy λw=>by simp only[binOp,Op.intBits];simp
def zBe:wS P st (.binOp .andNot tx x y ty) (.s (.int k (k.wrap (BitVec.ofInt k.bits m &&& ~~~BitVec.ofInt k.bits n).toNat))) [] [] []:=uL hx hy λw=>by simp only[binOp,Op.intBits];simp
def HO:wS P st (.binOp .eql tx x y ty) (.s (.bool (m==n))) [] [] []:=uL hx hy λw=>by simp[binOp,Op.intCmp]
def HP:wS P st (.binOp .neq tx x y ty) (.s (.bool (m != n))) [] [] []:=uL hx hy λw=>by simp[binOp,Op.intCmp]
def HQ:wS P st (.binOp .lss tx x y ty) (.s (.bool (decide (m<n)))) [] [] []:=uL hx hy λw=>by simp[binOp,Op.intCmp]
def HR:wS P st (.binOp .leq tx x y ty) (.s (.bool (decide (m<=n)))) [] [] []:=uL hx hy λw=>by simp[binOp,Op.intCmp]
def HS:wS P st (.binOp .gtr tx x y ty) (.s (.bool (decide (n<m)))) [] [] []:=uL hx hy λw=>by simp[binOp,Op.intCmp]
def HT:wS P st (.binOp .geq tx x y ty) (.s (.bool (decide (n<=m)))) [] [] []:=uL hx hy λw=>by simp[binOp,Op.intCmp]
end
def kE {op:BinOp} {tx ty:Nat} {x y:Operand} {k k':IntKind} {m n:Int} {v:Int} (hop:op= .shl/\v=k.wrap (m*2 ^ (min n.toNat k.bits))∨op= .shr/\v=m.fdiv (2 ^ (min n.toNat k.bits)))
  (hx:yO (zG st.tm) x= .s (.int k m)) (hy:yO (zG st.tm) y= .s (.int k' n)) (h0:0<=n):wS P st (.binOp op tx x y ty) (.s (.int k v)) [] [] []:=
 yR λo X tm h w β a ho hg _ _ Ht=>by
  obtain⟨d0,o0,y0,p0,f0,g0⟩:=o;dsimp only at ho;subst ho;have h1:=vO Ht hg (x:=x) uF hx;have h2:=vO Ht hg (x:=y) uF hy;have h3:¬n<0:=by omega
  refine⟨.int k v,?_,.fz _ _ (.s _)⟩
  rcases hop with⟨rfl,rfl⟩|⟨rfl,rfl⟩<;>simp[execOp,h1,h2,eqGuard,binOp,Op.shift,h3]
def zP7 {tx:Nat} {x:Operand} {b:Bool} (hx:yO (zG st.tm) x= .s (.bool b)):wS P st (.unOp .not tx x) (.s (.bool !b)) [] [] []:=
 yR λo X tm h w β a ho hg _ _ Ht=>by
  obtain⟨d0,o0,y0,p0,f0,g0⟩:=o;dsimp only at ho;subst ho;have h1:=vO Ht hg (x:=x) uF hx;exact⟨_,by simp[execOp,h1,Op.unary],.fz _ _ (.s _)⟩
def OB {tx:Nat} {x:Operand} {k:IntKind} {n:Int} (hx:yO (zG st.tm) x= .s (.int k n)) (hr:ZM k (-n)):wS P st (.unOp .neg tx x) (.s (.int k (-n))) [] [] []:=
 yR λo X tm h w β a ho hg _ _ Ht=>by
  obtain⟨d0,o0,y0,p0,f0,g0⟩:=o;dsimp only at ho;subst ho;have h1:=vO Ht hg (x:=x) uF hx;exact⟨.int k (-n),by simp[execOp,h1,Op.unary,Op.intArith,kG hr],.fz _ _ (.s _)⟩
def ZX {src dst:Nat} {x:Operand} {k k':IntKind} {n:Int} {ts td:TI} (hP:uJ P TT) (hs:TT[src]? =some ts) (hd:TT[dst]? =some td) (hk:td.d= .int k') (hx:yO (zG st.tm) x= .s (.int k n)):
  wS P st (.convert src dst x) (.s (.int k' (k'.wrap n))) [] [] []:=
 yR λo X tm h w β a ho hg _ _ Ht=>by
  obtain⟨dst',op',type,pos,after,guard⟩:=o;dsimp only at ho;subst ho;have h1:=vO Ht hg (x:=x) uF hx;obtain⟨u,hu,_⟩:=xV (hP _ _ hs) w;obtain⟨u',hu',hd'⟩:=xV (hP _ _ hd) w;obtain rfl:=HM (hd'.trans hk);exact⟨.int k' (k'.wrap n),by simp[execOp,convert,h1,hu,hu',Conv.intToInt],.fz _ _ (.s _)⟩
def jT {op:BinOp} {tx ty:Nat} {x y:Operand} {p q:Bool} {v:Bool} {ti:TI} (hP:uJ P TT) (ht:TT[tx]? =some ti) (hd:ti.d= .bool) (hx:yO (zG st.tm) x= .s (.bool p)) (hy:yO (zG st.tm) y= .s (.bool q))
  (hop:op= .eql/\v=(p==q)∨op= .neq/\v=(p != q)):wS P st (.binOp op tx x y ty) (.s (.bool v)) [] [] []:=
 yR λo X tm h w β a ho hg _ _ Ht=>by
  obtain⟨d0,o0,y0,p0,f0,g0⟩:=o;dsimp only at ho;subst ho;have h1:=vO Ht hg (x:=x) uF hx;have h2:=vO Ht hg (x:=y) uF hy;obtain⟨u,hu,hd'⟩:=xV (hP _ _ ht) w;obtain rfl:=zP6 (hd'.trans hd)
  have he:(Op.equal tx (.bool p) (.bool q)).run P w= .ok (p==q) w:=by
   show(Op.equalIn (9999+1) tx (.bool p) (.bool q)).run P w=_
   unfold Op.equalIn;simp[hu]
  refine⟨.bool v,?_,.fz _ _ (.s _)⟩
  rcases hop with⟨rfl,rfl⟩|⟨rfl,rfl⟩<;>simp[execOp,h1,h2,eqGuard,binOp,he,bne]
def HU {f:Nat} {cap:Array Operand}:wS P st (.makeFunc (.func f) #[] cap) (.fn f (cap.toList.map (yO (zG st.tm)))) [] [] []:=
 yR λo X tm h w β a ho hg _ _ Ht=>by
  obtain⟨d0,o0,y0,p0,f0,g0⟩:=o;dsimp only at ho;subst ho;refine⟨.func (.func f) #[] (cap.map a.eval),by simp[execOp,Instr.makeFunc],.fn _ _ _ zS λi v hv=>?_⟩;simp only[yAi,yAq]at hv;obtain⟨x,hx,rfl⟩:=hv
  have:(cap.map a.eval).getD i undef=a.eval x:=by
   have:cap[i]? =some x:=by simpa using hx
   simp[yBh,this]
  rw[this];refine gA Ht hg ?_ Z
  have:x∈cap:=by
   have:=yBp hx;simpa using this
  simp[Op.operands,this]
end ops
end
def cN (β:uG) (k:Nat) (l:List (Nat×Nat)):uG:=λj=>if j=k then l else β j
def zW (β:uG) (k:Nat) (l:List (Nat×Nat)):cN β k l k=l:=by simp[cN]
def qK (β:uG) {k j:Nat} (l:List (Nat×Nat)) (h:j≠k):cN β k l j=β j:=by simp[cN,h]
def zFu (k:Nat):Nat.beq k k=true:=by simp
def XG {j k:Nat} (h:j≠k):Nat.beq j k=false:=by
 cases e:Nat.beq j k with
 |false=>rfl
 |true=>exact absurd (yBd e) h
def qL (k:Nat) (e:xO) (h:yG):over [(k,e)] h k=some e:=by simp[over,zD]
def aQ {k j:Nat} (e:xO) (h:yG) (hj:j≠k):over [(k,e)] h j=h j:=by simp[over,zD,XG hj]
theorem TL.evo {w w':World} {D D':Nat->Prop} {h h':yG} {β β':uG} (E:FK w D h β w' D' h' β') {k:Nat} {e:xO} (hb:β' k=β k) (hk:∀b n,(b,n)∈β k->w'.heap[b]? =w.heap[b]?)
  (H:TL w D h β k e):TL w' D' h' β' k e:=by
 cases e with
 |dead=>exact hb.trans H
 |box cs=>
  obtain⟨b,c,el,h1,h2,h3,h4,h5⟩:=H;exact⟨b,c,el,hb.trans h1,(hk b 0 (by rw[h1];simp)).trans h2,h3,h4,λi v hv=>(h5 i v hv).evo E⟩
 |obj cs=>
  obtain⟨h1,x,h2,h3⟩:=H;exact⟨hb.trans h1,x,(hk cs.1 0 (by rw[h1];simp)).trans h2,h3⟩
 |arr sz xs st=>
  obtain⟨h1,h2,h3,h4,h5,f,h6,h7,h8⟩:=H;refine⟨h1,h2,by rwa [hb],h4,by rwa [hb],f,h6.evo E,h7,λb n hm=>?_⟩;rw[hb]at hm;obtain⟨c,el,h9,h10⟩:=h8 b n hm;exact⟨c,el,(hk b n hm).trans h9,h10⟩
theorem xN.step {X:Nat->Prop} {h:yG} {β:uG} {w w':World} (H:jA X h β w) (k:Nat) (e':xO) (l:List (Nat×Nat)) (size:w.heap.size<=w'.heap.size)
  (keep:∀b,b<w.heap.size->(∀n,(b,n)∉β k)->w'.heap[b]? =w.heap[b]?) (os:w'.os=w.os) (tape:w'.tape=w.tape) (output:w'.output=w.output)
  (own:∀b n,(b,n)∈l->(∃n',(b,n')∈β k)∨(w.heap.size<=b/\b<w'.heap.size)) (bs:∀b n,(b,n)∈β k->wH w' b=wH w b)
  (key:∀e,h k=some e->e'= .dead∨match e with
   | .dead=>False
   | .box _=>(∃cs',e'= .box cs')/\∀b n,(b,n)∈β k->(b,n)∈l
   | .obj _=>(∃cs',e'= .obj cs')/\∀b n,(b,n)∈β k->(b,n)∈l
   | .arr sz xs _=>(∃xs' st',e'= .arr sz xs' st'/\xs.length<=xs'.length)/\∀b n,(b,n)∈β k->∃n',n<=n'/\(b,n')∈l)
  (ent:FK w (xP X β) h β w' (xP X (cN β k l)) (over [(k,e')] h) (cN β k l)->TL w' (xP X (cN β k l)) (over [(k,e')] h) (cN β k l) k e'):
  xN X w h β w' (over [(k,e')] h) (cN β k l):=by
 have own':∀j b n,(b,n)∈cN β k l j->(∃k' n',(b,n')∈β k')∨w.heap.size<=b:=by
  intro j b n hm;by_cases hj:j=k
  ·subst hj;rw[zW]at hm
   rcases own b n hm with⟨n',h1⟩|⟨h1,_⟩
   ·exact .inl ⟨_,_,h1⟩
   ·exact .inr h1
  ·rw[qK _ _ hj]at hm;exact .inl ⟨_,_,hm⟩
 have apart:∀j b n n',j≠k->(b,n)∈β j->(b,n')∉β k:=λj b n n' hj h1 h2=>hj (H.disj _ _ _ _ _ h1 h2)
 have keep':∀b,b<w.heap.size->(∀k n,(b,n)∉β k)->w'.heap[b]? =w.heap[b]? :=λb hb hn=>keep b hb (hn k)
 have bs':∀j b n,(b,n)∈β j->wH w' b=wH w b:=by
  intro j b n hm;by_cases hj:j=k
  ·subst hj;exact bs b n hm
  ·unfold wH World.shape?;rw[keep b (H.lt b (.inr ⟨j,n,hm⟩)) λn' h1=>apart j b n n' hj hm h1]
 have key':∀j e,h j=some e->over [(k,e')] h j=some .dead∨match e with
   | .dead=>False
   | .box _=>(∃cs',over [(k,e')] h j=some (.box cs'))/\∀b n,(b,n)∈β j->(b,n)∈cN β k l j
   | .obj _=>(∃cs',over [(k,e')] h j=some (.obj cs'))/\∀b n,(b,n)∈β j->(b,n)∈cN β k l j
   | .arr sz xs _=>(∃xs' st',over [(k,e')] h j=some (.arr sz xs' st')/\xs.length<=xs'.length)/\∀b n,(b,n)∈β j->∃n',n<=n'/\(b,n')∈cN β k l j:=by
  intro j e he;by_cases hj:j=k
  ·subst hj;rw[qL,zW]
   rcases key e he with h1|h1
   ·exact .inl (by rw[h1])
   ·cases e with
    |dead=>exact h1.elim
    |box cs=>obtain⟨⟨cs',h2⟩,h3⟩:=h1;exact .inr ⟨⟨cs',by rw[h2]⟩,h3⟩
    |obj cs=>obtain⟨⟨cs',h2⟩,h3⟩:=h1;exact .inr ⟨⟨cs',by rw[h2]⟩,h3⟩
    |arr sz xs st=>obtain⟨⟨xs',st',h2,h2'⟩,h3⟩:=h1;exact .inr ⟨⟨xs',st',by rw[h2],h2'⟩,h3⟩
  ·rw[aQ _ _ hj,qK _ _ hj];exact kF h β j e he
 have E:FK w (xP X β) h β w' (xP X (cN β k l)) (over [(k,e')] h) (cN β k l):=by
  refine⟨size,λb hb hd=>?_,bs',key'⟩;have h1:∀k n,(b,n)∉β k:=λk n hm=>hd (.inr ⟨k,n,hm⟩)
  refine⟨keep' b hb h1,?_⟩;rintro(hx|⟨j,n,hm⟩)
  ·exact hd (.inl hx)
  ·rcases own' j b n hm with⟨k',n',h2⟩|h2
   ·exact h1 _ _ h2
   ·omega
 refine⟨size,keep',own',bs',key',⟨λj e he=>?_,λj he=>?_,λj j' b n n' h1 h2=>?_,λj b n hm hx=>?_,λb hd=>?_⟩,os,tape,output⟩
 ·by_cases hj:j=k
  ·subst hj;rw[qL]at he;cases he;exact ent E
  ·rw[aQ _ _ hj]at he;exact(H.ent j e he).evo E (qK _ _ hj) λb n hm=>keep b (H.lt b (.inr ⟨j,n,hm⟩)) λn' h1=>apart j b n n' hj hm h1
 ·by_cases hj:j=k
  ·subst hj;rw[qL]at he;cases he
  ·rw[aQ _ _ hj]at he;rw[qK _ _ hj];exact H.off j he
 ·by_cases hj:j=k<;>by_cases hj':j'=k
  ·rw[hj,hj']
  ·subst hj;rw[zW]at h1;rw[qK _ _ hj']at h2
   rcases own b n h1 with⟨m,h3⟩|⟨h3,_⟩
   ·exact absurd h3 (apart j' b n' m hj' h2)
   ·have:=H.lt b (.inr ⟨_,_,h2⟩);omega
  ·subst hj';rw[zW]at h2;rw[qK _ _ hj]at h1
   rcases own b n' h2 with⟨m,h3⟩|⟨h3,_⟩
   ·exact absurd h3 (apart j b n m hj h1)
   ·have:=H.lt b (.inr ⟨_,_,h1⟩);omega
  ·rw[qK _ _ hj]at h1;rw[qK _ _ hj']at h2;exact H.disj _ _ _ _ _ h1 h2
 ·by_cases hj:j=k
  ·subst hj;rw[zW]at hm
   rcases own b n hm with⟨m,h3⟩|⟨h3,_⟩
   ·exact H.free _ _ _ h3 hx
   ·have:=H.lt b (.inl hx);omega
  ·rw[qK _ _ hj]at hm;exact H.free _ _ _ hm hx
 ·rcases hd with hx|⟨j,n,hm⟩
  ·exact yBo (H.lt b (.inl hx)) size
  ·by_cases hj:j=k
   ·subst hj;rw[zW]at hm
    rcases own b n hm with⟨m,h3⟩|⟨_,h3⟩
    ·exact yBo (H.lt b (.inr ⟨_,_,h3⟩)) size
    ·exact h3
   ·rw[qK _ _ hj]at hm;exact yBo (H.lt b (.inr ⟨_,_,hm⟩)) size
theorem xN.new {X:Nat->Prop} {h:yG} {β:uG} {w:World} (H:jA X h β w) {k:Nat} (hk:h k=none) (e':xO) (n:Nat) (c:Array Value) (el:Nat)
  (ent:FK w (xP X β) h β (w.alloc (.cells c el)) (xP X (cN β k [(w.heap.size,n)])) (over [(k,e')] h) (cN β k [(w.heap.size,n)])->
   TL (w.alloc (.cells c el)) (xP X (cN β k [(w.heap.size,n)])) (over [(k,e')] h) (cN β k [(w.heap.size,n)]) k e'):
  xN X w h β (w.alloc (.cells c el)) (over [(k,e')] h) (cN β k [(w.heap.size,n)]):=by
 refine xN.step H k e' _ zS (λb hb _=>heap_alloc_old w _ b hb) Z Z Z (λb n hm=>?_) (λb n hm=>?_) (λe he=>?_) ent
 ·simp at hm;refine .inr ?_;simp[hm.1]
 ·rw[H.off k hk]at hm;simp at hm
 ·rw[hk]at he;cases he
theorem xN.newBox {X:Nat->Prop} {h:yG} {β:uG} {w:World} (H:jA X h β w) {k:Nat} (hk:h k=none) (c:Array Value) (el:Nat) (cs:List AV) (hl:c.size=cs.length) (h1:∀i,i<c.size->(c.getD i undef).oneCell'=true)
  (hv:∀(i:Nat) v,cs[i]? =some v->zY w (xP X β) h β v (c.getD i undef)):
  ∃β',xN X w h β (w.alloc (.cells c el)) (over [(k,.box cs)] h) β'/\zY (w.alloc (.cells c el)) (xP X β') (over [(k,.box cs)] h) β' (.ptr k 0 0) (.pointer (some ⟨w.heap.size,0,none⟩)):=
 ⟨_,xN.new H hk (.box cs) 0 c el λE=>⟨_,c,el,zW _ _ _,heap_alloc_new w _,hl,h1,λi v hx=>(hv i v hx).evo E⟩,
  .pbox k 0 cs w.heap.size 0 (qL _ _ _) (by rw[zW];simp)⟩
def qD (c:Array Value):Prop:=∀v,v∈c.toList->v.oneCell'=true
theorem qD.get {c:Array Value} (h:qD c):∀i,i<c.size->(c.getD i undef).oneCell'=true:=λi hi=>by
 have e:c.getD i undef=c[i]:=by simp[Array.getD,hi]
 rw[e];exact h _ zS
theorem qD.of {c:Array Value} (h:∀i,i<c.size->(c.getD i undef).oneCell'=true):qD c:=λv hv=>by
 obtain⟨i,hi,rfl⟩:=yCp hv;have hi':i<c.size:=by simpa using hi
 have:=h i hi';simpa [Array.getD,hi']using this
theorem qD.app {a b:Array Value} (ha:qD a) (hb:qD b):qD (a++b):=λv hv=>by
 rw[Array.toList_append,yAz]at hv;exact hv.elim (ha v) (hb v)
theorem qD.arr {l:List Value} (h:∀v∈l,v.oneCell'=true):qD l.toArray:=λv hv=>h v DU
def CD {z:Array Value} {i:Nat} (h:i<z.size):z[i]! ∈z.toList:=by
 rw[getElem!_pos z i h];simp
theorem qD.zero {z:Array Value} (h:∀v,v∈z.toList->v.oneCell'=true) (n:Nat):qD (Builtin.zeroCells z n):=λv hv=>by
 simp only[Builtin.zeroCells,yFl,Array.toList_range,yBl,yA2]at hv;obtain⟨i,hi,rfl⟩:=hv
 have hz:0<z.size:=by
  rcases Nat.eq_zero_or_pos z.size with h0|h0
  ·rw[h0,Nat.mul_zero]at hi;omega
  ·exact h0
 exact h _ (CD (yGh _ hz))
def CE {c:Array Value} {n sz:Nat} {f:Nat->Nat->Value} (hs:c.size=n*sz) (hp:1<=sz) (hf:∀i j,i<n->j<sz->c[i*sz+j]? =some (f i j)) (h1:∀i j,i<n->j<sz->(f i j).oneCell'=true):∀i,i<c.size->(c.getD i undef).oneCell'=true:=λi hi=>by
 have hm:i % sz<sz:=yGh _ (by omega);have hd:i/sz<n:=by rw[Nat.div_lt_iff_lt_mul (by omega)];omega
 have e:i/sz*sz+i % sz=i:=by rw[yE0];exact Nat.div_add_mod i sz
 have h2:=hf (i/sz) (i % sz) hd hm;rw[e]at h2;have e2:c.getD i undef=f (i/sz) (i % sz):=by simp[yBh,h2]
 rw[e2];exact h1 _ _ hd hm
theorem qD.made {z:Array Value} (h:∀v,v∈z.toList->v.oneCell'=true) (hz:0<z.size) (n:Nat):qD (madeCells z n):=λv hv=>by
 simp only[madeCells,yFl,Array.toList_range,yBl,yA2]at hv;obtain⟨i,hi,rfl⟩:=hv;exact h _ (CD (yGh _ hz))
theorem xN.newArr {X:Nat->Prop} {h:yG} {β:uG} {w:World} (H:jA X h β w) {k:Nat} (hk:h k=none) (c:Array Value) (el sz:Nat) (xs:List AV) (cap:Nat) (f:Nat->Nat->Value) (hp:1<=sz) (hm:xs.length<=cA)
  (hcap:xs.length<=cap) (hc:cap*sz=c.size) (hall:∀i,i<c.size->(c.getD i undef).oneCell'=true) (hw:∀(i:Nat) (x:AV),xs[i]? =some x->x.cells.length=sz) (hf:∀i j,i<xs.length->j<sz->c[i*sz+j]? =some (f i j)) (h1:∀i j,i<xs.length->j<sz->(f i j).oneCell'=true)
  (hv:∀(i:Nat) (x:AV) (j:Nat) v,xs[i]? =some x->x.cells[j]? =some v->xH w (xP X β) v (f i j)):
  ∃β',xN X w h β (w.alloc (.cells c el)) (over [(k,.arr sz xs false)] h) β'/\zY (w.alloc (.cells c el)) (xP X β') (over [(k,.arr sz xs false)] h) β' (.ref k 0 xs.length) (.slice (some ⟨w.heap.size,0,none⟩) xs.length cap):=by
 refine⟨_,xN.new H hk (.arr sz xs false) xs.length c el λE=>⟨hp,hm,λ_=>by rw[zW];simp,hw,λb n r hr=>?_,f,.ofF λi x j v hx hy=>(hv i x j v hx hy).evo E.size E.fz,h1,λb n hb=>?_⟩,?_⟩
 ·rw[zW]at hr;simp at hr;exact⟨hr.1.2.symm,λ_ b' n' hm=>by rw[hr.2]at hm;simp at hm,λb' n' hm=>by rw[hr.2]at hm;simp at hm⟩
 ·rw[zW]at hb;simp at hb;obtain⟨rfl,rfl⟩:=hb;exact⟨c,el,heap_alloc_new w _,yBn (yA0 _ hcap) (yCf hc),hf,hall⟩
 ·have:=zY.ref (w:=w.alloc (.cells c el)) (D:=xP X (cN β k [(w.heap.size,xs.length)])) (h:=over [(k,.arr sz xs false)] h) (β:=cN β k [(w.heap.size,xs.length)]) k 0 xs.length sz xs false w.heap.size xs.length cap (qL _ _ _)
   (by rw[zW];simp) (by omega) hcap (by
    have:wH (w.alloc (.cells c el)) w.heap.size=c.size:=by
     unfold wH World.shape?;rw[heap_alloc_new];rfl
    rw[this];simpa using hc)
  simpa using this
theorem xN.newArrN {X:Nat->Prop} {h:yG} {β:uG} {w:World} (H:jA X h β w) {k:Nat} (hk:h k=none) (c:Array Value) (el sz:Nat) (xs:List AV) (cap:Nat) (f:Nat->Nat->Value) (hp:1<=sz) (hm:xs.length<=cA)
  (hcap:xs.length<=cap) (hc:cap*sz=c.size) (hall:∀i,i<c.size->(c.getD i undef).oneCell'=true) (hw:∀(i:Nat) (x:AV),xs[i]? =some x->x.cells.length=sz) (hf:∀i j,i<xs.length->j<sz->c[i*sz+j]? =some (f i j)) (h1:∀i j,i<xs.length->j<sz->(f i j).oneCell'=true)
  (hv:∀(i:Nat) (x:AV) (j:Nat) v,xs[i]? =some x->x.cells[j]? =some v->zY w (xP X β) h β v (f i j)):
  ∃β',xN X w h β (w.alloc (.cells c el)) (over [(k,.arr sz xs ⟨false,true⟩)] h) β'/\zY (w.alloc (.cells c el)) (xP X β') (over [(k,.arr sz xs ⟨false,true⟩)] h) β' (.ref k 0 xs.length) (.slice (some ⟨w.heap.size,0,none⟩) xs.length cap):=by
 refine⟨_,xN.new H hk (.arr sz xs ⟨false,true⟩) xs.length c el λE=>⟨hp,hm,λ_=>by rw[zW];simp,hw,λb n r hr=>?_,f,λi x j v hx hy=>⟨(hv i x j v hx hy).evo E,λh=>by cases h⟩,h1,λb n hb=>?_⟩,?_⟩
 ·rw[zW]at hr;simp at hr;exact⟨hr.1.2.symm,λ_ b' n' hm=>by rw[hr.2]at hm;simp at hm,λb' n' hm=>by rw[hr.2]at hm;simp at hm⟩
 ·rw[zW]at hb;simp at hb;obtain⟨rfl,rfl⟩:=hb;exact⟨c,el,heap_alloc_new w _,yBn (yA0 _ hcap) (yCf hc),hf,hall⟩
 ·have:=zY.ref (w:=w.alloc (.cells c el)) (D:=xP X (cN β k [(w.heap.size,xs.length)])) (h:=over [(k,.arr sz xs ⟨false,true⟩)] h) (β:=cN β k [(w.heap.size,xs.length)]) k 0 xs.length sz xs ⟨false,true⟩ w.heap.size xs.length cap (qL _ _ _)
   (by rw[zW];simp) (by omega) hcap (by
    have:wH (w.alloc (.cells c el)) w.heap.size=c.size:=by
     unfold wH World.shape?;rw[heap_alloc_new];rfl
    rw[this];simpa using hc)
  simpa using this
theorem xN.newFz {X:Nat->Prop} {h:yG} {β:uG} {w:World} (H:jA X h β w) (c:Array Value) (el:Nat):xN X w h β (w.alloc (.cells c el)) h β:=by
 have hold:∀b,b<w.heap.size->(w.alloc (.cells c el)).heap[b]? =w.heap[b]? :=λb hb=>heap_alloc_old w _ b hb
 have hbs:∀k b n,(b,n)∈β k->wH (w.alloc (.cells c el)) b=wH w b:=λk b n hm=>by
  unfold wH World.shape?;rw[hold b (H.lt b (.inr ⟨k,n,hm⟩))]
 have E:FK w (xP X β) h β (w.alloc (.cells c el)) (xP X β) h β:=⟨by simp,λb hb hd=>⟨hold b hb,hd⟩,hbs,kF h β⟩;refine⟨by simp,λb hb _=>hold b hb,λk _ n hm=> .inl ⟨k,n,hm⟩,hbs,kF h β,⟨λk e he=>(H.ent k e he).evo E Z λb n hm=>hold b (H.lt b (.inr ⟨k,n,hm⟩)),H.off,H.disj,H.free,λb hd=>?_⟩,rfl,rfl,rfl⟩;exact yBo (H.lt b hd) zS
theorem xH.newArr {X:Nat->Prop} {h:yG} {β:uG} {w:World} (H:jA X h β w) (c:Array Value) (el sz:Nat) (xs:List AV) (cap:Nat) (f:Nat->Nat->Value) (hp:1<=sz) (hm:xs.length<=cA)
  (hcap:xs.length<=cap) (hw:∀(i:Nat) (x:AV),xs[i]? =some x->x.cells.length=sz) (hf:∀i j,i<xs.length->j<sz->c[i*sz+j]? =some (f i j)) (h1:∀i j,i<xs.length->j<sz->(f i j).oneCell'=true)
  (hv:∀(i:Nat) (x:AV) (j:Nat) v,xs[i]? =some x->x.cells[j]? =some v->xH w (xP X β) v (f i j)):
  xH (w.alloc (.cells c el)) (xP X β) (.sl true xs) (.slice (some ⟨w.heap.size,0,none⟩) xs.length cap):=by
 have E:=(xN.newFz H c el).evo;by_cases hx:xs=[]
 ·subst hx;exact .nil1 _ _
 ·refine .sl true xs w.heap.size 0 sz cap f hx ⟨by simp,λhd=>?_,hp,hm,hw,λi j hi hj=>?_,h1⟩ hcap λi x j v hx hy=>(hv i x j v hx hy).evo E.size E.fz
  ·have:=H.lt _ hd;omega
  ·rw[yBv];simp only[World.cell?,heap_alloc_new];exact hf i j hi hj
theorem xH.wkF {w:World} {D:Nat->Prop} {nn:Bool} {xs:List AV} {c:Value} (h:xH w D (.sl nn xs) c):xH w D (.sl false xs) c:=by
 cases h with
 |nil a cap=>exact .nil a cap
 |nil1 a cap=>exact .nil _ cap
 |sl nn xs b o sz cap f hx hL hc hh=>exact .sl false xs b o sz cap f hx hL hc hh
section
def AV.one:AV->Bool
 | .s v=>v.oneCell'
 | .sl _ _| .slc _ _| .ref _ _ _| .ptr _ _ _| .fp _ _ _| .fn _ _| .fm _ _=>true
 |_=>false
def AV.ok:AV->Bool
 | .agg _=>true
 |v=>v.one
mutual
def AV.nokey:AV->Bool
 | .bot| .s _| .sl _ _| .slc _ _| .fp _ _ _| .fm _ _=>true
 | .agg cs=>wG cs
 |_=>false
def wG:List AV->Bool
 | []=>true
 |v::r=>v.nokey&&wG r
end
theorem jB:∀{cs:List AV} {i:Nat} {v:AV},wG cs=true->cs[i]? =some v->v.nokey=true
 | [],_,_,_,h=>by simp at h
 |x::r,0,v,hk,h=>by simp at h;subst h;simp[wG]at hk;exact hk.1
 |x::r,i+1,v,hk,h=>by simp[wG]at hk;exact jB hk.2 TJ
def TM {α:Type}:List α->Nat->List α->List α
 |cs,_,[]=>cs
 |cs,o,v::vs=>TM (cs.set o v) (o+1) vs
theorem cO {α:Type}:∀(vs cs:List α) (o:Nat),(TM cs o vs).length=cs.length
 | [],_,_=>rfl
 |v::vs,cs,o=>by rw[TM,cO vs,yB7]
theorem XH {α:Type}:∀(vs cs:List α) (o j:Nat),o+vs.length<=cs.length->(TM cs o vs)[j]? =if o<=j/\j<o+vs.length then vs[j-o]? else cs[j]?
 | [],cs,o,j,_=>by rw[TM,yAc zS]
 | v::vs,cs,o,j,h=>by
  simp at h;rw[TM,XH vs _ _ _ wF];by_cases h1:o+1<=j/\j<o+1+vs.length
  ·rw[yAd h1,yAd wF,show j-o=(j-(o+1))+1 by omega];simp
  ·rw[yAc h1];by_cases h2:j=o
   ·subst h2;rw[yAd zS,yB5 (by omega),yCm];rfl
   ·rw[yAc wF,yEg (by omega)]
section
variable {w:World} {D:Nat->Prop} {h:yG} {β:uG}
def gB {c:Array Value} {i:Nat} {v:Value} (h:c[i]? =some v):c.getD i undef=v:=by simp[yBh,h]
def kH (c:Array Value) (i:Nat) (h:i<c.size):c[i]? =some (c.getD i undef):=by
 obtain⟨u,hu⟩:∃u,c[i]? =some u:=⟨c[i],by simp[h]⟩;rw[gB hu];exact hu
theorem xH.one_of {v:AV} {c:Value} (hv:xH w D v c) (h1:v.one=true):c.oneCell'=true:=by
 cases hv<;>first|rfl|(simp[AV.one]at h1;done)|simpa [AV.one]using h1
theorem zY.one_of {v:AV} {c:Value} (hv:zY w D h β v c) (h1:v.one=true):c.oneCell'=true:=by
 cases hv with
 |fz _ _ hf=>exact hf.one_of h1
 |dref _ _ _ _ _ h2=>exact h2
 |dptr _ _ _ _ _ h2=>exact h2
 |agg _ _ _ _ _=>simp[AV.one]at h1
 |tup _ _ _ _=>simp[AV.one]at h1
 |_=>rfl
theorem zY.cells {v:AV} {c:Value} (hv:zY w D h β v c) (h1:v.ok=true):
  c.cells.size=v.cells.length/\(∀i,i<c.cells.size->(c.cells.getD i undef).oneCell'=true)/\∀(i:Nat) u,v.cells[i]? =some u->zY w D h β u (c.cells.getD i undef):=by
 by_cases ha:v.isAgg=true
 ·cases v<;>simp[AV.isAgg]at ha
  rename_i cs
  cases hv with
  |fz _ _ hf=>
   cases hf with
   |agg _ c hl h2 hh=>exact⟨hl,h2,λi u hu=> .fz _ _ (hh i u hu)⟩
  |agg _ c hl h2 hh=>exact⟨hl,h2,hh⟩
 ·have ho:v.one=true:=by cases v<;>first|exact h1|(simp[AV.isAgg]at ha)
  have hc:=hv.one_of ho
  have e1:c.cells= #[c]:=by cases c<;>first|rfl|(simp[Value.oneCell']at hc)
  have e2:v.cells=[v]:=by cases v<;>first|rfl|(simp[AV.isAgg]at ha)
  rw[e1,e2];refine⟨rfl,λi hi=>?_,λi u hu=>?_⟩
  ·obtain rfl:i=0:=by simpa using hi
   exact hc
  ·cases i with
   |zero=>simp at hu;subst hu;exact hv
   |succ i=>simp at hu
theorem zY.toF:∀{v:AV} {c:Value},zY w D h β v c->v.nokey=true->xH w D v c:=by
 intro v c hv
 induction hv with
 |fz _ _ hf=>exact λ_=>hf
 |agg cs c hl h1 _ ih=>exact λhk=> .agg cs c hl h1 λi v hi=>ih i v hi (jB (by simpa [AV.nokey]using hk) hi)
 |_=>intro hk;simp[AV.nokey]at hk
def Row (w:World) (D:Nat->Prop) (h:yG) (β:uG) (row:List AV) (b o:Nat):Prop:=
 ∀(j:Nat) u,row[j]? =some u->∃c,w.cell? ⟨b,o+j,none⟩=some c/\c.oneCell'=true/\zY w D h β u c
def uH {b:Nat} {c:Array Value} {el:Nat} {fr:Nat×Nat} (hb:w.heap[b]? =some (.cells c el fr)) (j:Nat):w.cell? ⟨b,j,none⟩=c[j]? :=by simp[World.cell?,hb]
def OC {X:Nat->Prop} (H:jA X h β w) {k off:Nat} {cs:List AV} (hk:h k=some (.box cs)) {i:Nat} {c:Value} (hv:zY w D h β (.ptr k i off) c):
  ∃b,c= .pointer (some ⟨b,off,none⟩)/\i=0/\Row w (xP X β) h β cs b 0:=by
 cases hv with
 |fz _ _ hf=>cases hf
 |dptr _ _ _ _ hd _=>rw[hk]at hd;cases hd
 |parr _ _ _ _ _ _ _ _ hd _ _ _=>rw[hk]at hd;cases hd
 |pbox _ _ cs' b n hk' hb=>
  obtain⟨b',c,el,h1,h2,h3,h4,h5⟩:=H.ent k _ hk;rw[h1]at hb;simp at hb;obtain⟨rfl,rfl⟩:=hb;refine⟨b,rfl,rfl,λj u hu=>?_⟩;have hj:j<c.size:=by rw[h3];exact(yA5.1 hu).1
  exact⟨c.getD j undef,by rw[uH h2,yBv];exact kH c j hj,h4 j hj,h5 j u hu⟩
def zDx {X:Nat->Prop} (H:jA X h β w) {k i off sz:Nat} {xs:List AV} {st:Fl} (hk:h k=some (.arr sz xs st)) {x:AV} (hx:xs[i]? =some x) {c:Value} (hv:zY w D h β (.ptr k i off) c):
  ∃b n,c= .pointer (some ⟨b,i*sz+off,none⟩)/\(b,n)∈β k/\off<sz/\x.cells.length=sz/\Row w (xP X β) h β x.cells b (i*sz):=by
 cases hv with
 |fz _ _ hf=>cases hf
 |dptr _ _ _ _ hd _=>rw[hk]at hd;cases hd
 |pbox _ _ _ _ _ hd _=>rw[hk]at hd;cases hd
 |parr _ _ _ sz' xs' st' b n hk' hb hi ho=>
  rw[hk]at hk';cases hk';obtain⟨_,_,_,hw,_,f,h6,h7,h8⟩:=H.ent k _ hk;obtain⟨c,el,h9,_,h11,_⟩:=h8 b n hb;have hsz:=hw i x hx;refine⟨b,n,rfl,hb,ho,hsz,λj u hu=>?_⟩;have hj:j<sz:=by rw[<-hsz];exact(yA5.1 hu).1
  exact⟨f i j,by rw[uH h9];exact h11 i j hi hj,h7 i j (yA5.1 hx).1 hj,h6.toV i x j u hx hu⟩
def zJ6 {X:Nat->Prop} (H:jA X h β w) {k i off sz:Nat} {xs:List AV} {st:Fl} (hk:h k=some (.arr sz xs st)) {x:AV} (hx:xs[i]? =some x) {c:Value} (hv:zY w D h β (.ptr k i off) c):
  ∃b n,c= .pointer (some ⟨b,i*sz+off,none⟩)/\(b,n)∈β k/\off<sz/\x.cells.length=sz/\Row w (xP X β) h β x.cells b (i*sz)/\i<n:=by
 cases hv with
 |fz _ _ hf=>cases hf
 |dptr _ _ _ _ hd _=>rw[hk]at hd;cases hd
 |pbox _ _ _ _ _ hd _=>rw[hk]at hd;cases hd
 |parr _ _ _ sz' xs' st' b n hk' hb hi ho=>
  rw[hk]at hk';cases hk';obtain⟨_,_,_,hw,_,f,h6,h7,h8⟩:=H.ent k _ hk;obtain⟨c,el,h9,_,h11,_⟩:=h8 b n hb;have hsz:=hw i x hx;refine⟨b,n,rfl,hb,ho,hsz,λj u hu=>?_,hi⟩;have hj:j<sz:=by rw[<-hsz];exact(yA5.1 hu).1
  exact⟨f i j,by rw[uH h9];exact h11 i j hi hj,h7 i j (yA5.1 hx).1 hj,h6.toV i x j u hx hu⟩
def zU8 {xs:List AV} {i off:Nat} {x:AV} (hx:xs[i]? =some x) {c:Value} (hv:zY w D h β (.fp xs i off) c):
  ∃b o,c= .pointer (some ⟨b,o+off,none⟩)/\off<x.cells.length/\Row w D h β x.cells b o:=by
 cases hv with
 | fz _ _ hf=>
  cases hf with
  |fp _ b o sz _ _ f hL hi ho hh=>
   have hsz:=hL.wide i x hx;refine⟨b,o+i*sz,rfl,by omega,λj u hu=>?_⟩;have hj:j<sz:=by rw[<-hsz];exact(yA5.1 hu).1
   exact⟨f i j,hL.cell i j hi hj,hL.one i j hi hj,.fz _ _ (hh i x j u hx hu)⟩
end
def ldv (agg:Bool) (n:Nat) (row:List AV) (off:Nat):Option AV:=
 bif agg then(bif Nat.ble (off+n) row.length then some (.agg ((row.drop off).take n))else none)else row[off]?
def HV {P:Program} {TT:List TI} (hP:uJ P TT) {T:Nat} {ti:TI} (hT:TT[T]? =some ti) {w:World} {D:Nat->Prop} {h:yG} {β:uG} {row:List AV} {b o off:Nat} (hR:Row w D h β row b o) {v:AV}
  (hv:ldv ti.d.agg ti.size row off=some v):∃c,(loadVar T ⟨b,o+off,none⟩).run P w= .ok c w/\zY w D h β v c:=by
 have ha:=zDw (hP _ _ hT) w;have hs:=uK (hP _ _ hT) w;unfold ldv at hv
 have hadd:∀j,(⟨b,o+off,none⟩:Addr).add j=⟨b,o+(off+j),none⟩:=λj=>by unfold Addr.add;split<;>simp_all<;>omega
 cases hb:ti.d.agg with
 |false=>
  simp only[hb,yCg]at hv;obtain⟨c,h1,_,h3⟩:=hR off v hv;exact⟨c,by simp[loadVar,ha,hb,h1],h3⟩
 | true=>
  simp only[hb,yBx]at hv
  cases hle:Nat.ble (off+ti.size) row.length with
  |false=>simp[hle]at hv
  | true=>
   have hle':=yAv hle;simp only[hle,yBx,yBu]at hv;subst hv
   have hc:∀j,∃c,j<ti.size->∃u,row[off+j]? =some u/\w.cell? ((⟨b,o+off,none⟩:Addr).add j)=some c/\c.oneCell'=true/\zY w D h β u c:=λj=>by
    by_cases hj:j<ti.size
    ·obtain⟨u,hu⟩:∃u,row[off+j]? =some u:=⟨row[off+j],by simp⟩;obtain⟨c,h1,h2,h3⟩:=hR (off+j) u hu;exact⟨c,λ_=>⟨u,hu,by rw[hadd];exact h1,h2,h3⟩⟩
    ·exact⟨undef,λh=>absurd h hj⟩
   obtain⟨f,hf⟩:∃f:Nat->Value,∀j,j<ti.size->∃u,row[off+j]? =some u/\w.cell? ((⟨b,o+off,none⟩:Addr).add j)=some (f j)/\(f j).oneCell'=true/\zY w D h β u (f j):=
    ⟨λj=>(hc j).choose,λj hj=>(hc j).choose_spec hj⟩
   have hl:=run_loadCells (P:=P) w ⟨b,o+off,none⟩ ti.size f λj hj=>(hf j hj).choose_spec.2.1
   have hat:∀i,i<ti.size->(((List.range ti.size).map f).toArray).getD i undef=f i:=λi hi=>gB TK
   refine⟨.agg ((List.range ti.size).map f).toArray,by simp[loadVar,ha,hb,hs,hl],.agg _ _ wF (λi hi=>?_) λi u hu=>?_⟩
   ·have hi':i<ti.size:=by simpa using hi
    rw[hat i hi'];exact(hf i hi').choose_spec.2.2.1
   ·rw[yBr]at hu;split at hu
    ·rename_i hi;rw[hat i hi];obtain⟨u',h1,_,_,h3⟩:=hf i hi;rw[yB3,h1]at hu;cases hu;exact h3
    ·cases hu
section ops
variable {P:Program} {TT:List TI} {st:St} (hP:uJ P TT)
def jC {T:Nat} {x:Operand} {v:AV} (k:Nat) (hx:yO (zG st.tm) x=v) (h1:v.ok=true):wS P st (.box T x) (.ptr k 0 0) [(k,.box v.cells)] [] [k]:=by
 refine⟨?_⟩;intro X tm h hg _ hn o a w β ho HH Ht;obtain⟨d0,o0,y0,p0,f0,g0⟩:=o;dsimp only at ho;subst ho;obtain⟨hl,ho,hv⟩:=(gA Ht hg (x:=x) uF hx).cells h1;obtain⟨β',G,hp⟩:=xN.newBox HH (hn k zS) (a.eval x).cells T v.cells hl ho hv
 have hr:(execOp a.eval ⟨d0,.box T x,y0,p0,f0,g0⟩).run P w= .ok (.value (.pointer (some ⟨w.heap.size,0,none⟩))) (w.alloc (.cells (a.eval x).cells T)):=by
  simp[execOp,Instr.box,newVar,newRow]
 rw[hr];exact⟨β',G,hp⟩
include hP in
def XI {T:Nat} {ti:TI} (k:Nat) (hT:TT[T]? =some ti) (h1:ti.zero.all (·.oneCell')=true):wS P st (.alloc T) (.ptr k 0 0) [(k,.box (ti.zero.map .s))] [] [k]:=by
 refine⟨?_⟩;intro X tm h hg _ hn o a w β ho HH Ht;obtain⟨d0,o0,y0,p0,f0,g0⟩:=o;dsimp only at ho;subst ho;obtain⟨z,hz,hzz⟩:=NV (hP _ _ hT) w
 obtain⟨β',G,hp⟩:=xN.newBox HH (hn k zS) z.cells T (ti.zero.map .s) (by simp[<-hzz]) (λi hi=>by
   have:=yAu.1 h1 (z.cells.getD i undef) (by rw[<-hzz];exact yBp (by simpa using kH _ i hi))
   exact this) (λi v hv=>by
   simp only[yAi,yAq]at hv;obtain⟨u,hu,rfl⟩:=hv;rw[<-hzz]at hu;rw[gB (by simpa using hu)]
   exact .fz _ _ (.s _))
 have hr:(execOp a.eval ⟨d0,.alloc T,y0,p0,f0,g0⟩).run P w= .ok (.value (.pointer (some ⟨w.heap.size,0,none⟩))) (w.alloc (.cells z.cells T)):=by
  simp[execOp,Instr.alloc,hz,newVar,newRow]
 rw[hr];exact⟨β',G,hp⟩
include hP in
def HW {T:Nat} {x:Operand} {k off:Nat} {cs:List AV} {v:AV} {ti:TI} (hx:yO (zG st.tm) x= .ptr k 0 off) (hk:zD st.h k=some (.box cs)) (hT:TT[T]? =some ti)
  (hv:ldv ti.d.agg ti.size cs off=some v):wS P st (.load T x) v [] [k] []:=
 yR λo X tm h w β a ho hg hr HH Ht=>by
  obtain⟨d0,o0,y0,p0,f0,g0⟩:=o;dsimp only at ho;subst ho;have h1:=gA Ht hg (x:=x) uF hx;have hk':=(hr k zS).trans hk;obtain⟨b,hc,_,hR⟩:=OC HH hk' h1;obtain⟨c,h2,h3⟩:=HV hP hT hR hv;rw[yBv]at h2;exact⟨c,by simp[execOp,Instr.loadAt,hc,Instr.sureAddr,h2],h3⟩
include hP in
def eO {T:Nat} {x:Operand} {k i off sz:Nat} {xs:List AV} {sl:Fl} {y v:AV} {ti:TI} (hx:yO (zG st.tm) x= .ptr k i off) (hk:zD st.h k=some (.arr sz xs sl)) (hy:xs[i]? =some y) (hT:TT[T]? =some ti)
  (hv:ldv ti.d.agg ti.size y.cells off=some v):wS P st (.load T x) v [] [k] []:=
 yR λo X tm h w β a ho hg hr HH Ht=>by
  obtain⟨d0,o0,y0,p0,f0,g0⟩:=o;dsimp only at ho;subst ho;have h1:=gA Ht hg (x:=x) uF hx;have hk':=(hr k zS).trans hk;obtain⟨b,n,hc,_,_,_,hR⟩:=zDx HH hk' hy h1;obtain⟨c,h2,h3⟩:=HV hP hT hR hv;exact⟨c,by simp[execOp,Instr.loadAt,hc,Instr.sureAddr,h2],h3⟩
include hP in
def ZY {T:Nat} {x:Operand} {i off:Nat} {xs:List AV} {y v:AV} {ti:TI} (hx:yO (zG st.tm) x= .fp xs i off) (hy:xs[i]? =some y) (hT:TT[T]? =some ti)
  (hv:ldv ti.d.agg ti.size y.cells off=some v):wS P st (.load T x) v [] [] []:=
 yR λo X tm h w β a ho hg hr HH Ht=>by
  obtain⟨d0,o0,y0,p0,f0,g0⟩:=o;dsimp only at ho;subst ho;have h1:=gA Ht hg (x:=x) uF hx;obtain⟨b,o,hc,_,hR⟩:=zU8 hy h1;obtain⟨c,h2,h3⟩:=HV hP hT hR hv;exact⟨c,by simp[execOp,Instr.loadAt,hc,Instr.sureAddr,h2],h3⟩
end ops
def zJ7 {P:Program} {TT:List TI} (hP:uJ P TT) {T:Nat} {ti:TI} (hT:TT[T]? =some ti) {w:World} {b:Nat} {c:Array Value} {el:Nat} (hb:w.heap[b]? =some (.cells c el (0,0))) {off:Nat} {x:Value} (hn:x.cells.size=ti.size)
  (ho:off+ti.size<=c.size) (h1:∀i,i<x.cells.size->(x.cells.getD i undef).oneCell'=true):
  ∃c':Array Value,(storeVar T ⟨b,off,none⟩ x).run P w= .ok () (w.setRow b c')/\c'.size=c.size/\∀j,c'.getD j undef=if off<=j/\j<off+ti.size then x.cells.getD (j-off) undef else c.getD j undef:=by
 have hs:=uK (hP _ _ hT) w
 have hst:=run_storeCells_at P b off el x.cells.toList 0 c w hb wF (λv hv=>by
  obtain⟨i,hi,rfl⟩:=yCp hv;have:=h1 i DT
  simpa [yBh,show i<x.cells.size by simpa using hi]using this)
 refine⟨_,by simp only[storeVar,Sem.run_bind,hs,Result.andThen_ok,hn,yD3,yF3,if_false,hst];rfl,?_,λj=>?_⟩
 ·simp;omega
 ·simp only[yDm,yDc,hn,yBh,yDb];by_cases h2:off<=j/\j<off+ti.size
  ·rw[yAd h2,yA9 wF,yA4 wF];simp[show min off c.size=off by omega]
  ·rw[yAc h2];by_cases h3:j<off
   ·rw[yA9 wF,yA9 wF,yBr,yAd h3];simp
   ·rw[yA4 wF,yB3];have e:off+ti.size+(j-(List.take off c.toList++x.cells.toList).length)=j:=by simp[hn];omega
    rw[e];simp
def uZ {w:World} {b:Nat} {c c':Array Value} {el:Nat} {fr:Nat×Nat} (hb:w.heap[b]? =some (.cells c el fr)) (hs:c'.size=c.size) (j:Nat):wH (w.setRow b c') j=wH w j:=by
 unfold wH World.shape?;by_cases h:j=b
 ·subst h;rw[setRow_heap w _ _ _ _ _ hb,hb];simp[hs]
 ·rw[setRow_other w b j c' h]
section ops
variable {P:Program} {TT:List TI} {st:St} (hP:uJ P TT)
include hP in
def LT {T:Nat} {p x:Operand} {k off:Nat} {cs:List AV} {v:AV} {ti:TI} (hp:yO (zG st.tm) p= .ptr k 0 off) (hx:yO (zG st.tm) x=v) (hk:zD st.h k=some (.box cs)) (hT:TT[T]? =some ti)
  (h1:v.ok=true) (h2:Nat.beq v.cells.length ti.size=true) (h3:Nat.ble (off+ti.size) cs.length=true):wS P st (.store T p x) .bot [(k,.box (TM cs off v.cells))] [k] []:=by
 refine⟨?_⟩;intro X tm h hg hr _ o a w β ho HH Ht;obtain⟨d0,o0,y0,p0,f0,g0⟩:=o;dsimp only at ho;subst ho;have hk':=(hr k zS).trans hk;have h2:=yBd h2;have h3:=yAv h3;have hp':=gA Ht hg (x:=p) uF hp;obtain⟨hl,hon,hv⟩:=(gA Ht hg (x:=x) uF hx).cells h1;obtain⟨b,c,el,e1,e2,e3,e4,e5⟩:=HH.ent k _ hk';obtain⟨b',hc,_,_⟩:=OC HH hk' hp'
 obtain rfl:b'=b:=by
  generalize a.eval p=cp at*
  cases hp' with
  |fz _ _ hf=>cases hf
  |dptr _ _ _ _ hd _=>rw[hk']at hd;cases hd
  |parr _ _ _ _ _ _ _ _ hd _ _ _=>rw[hk']at hd;cases hd
  |pbox _ _ cs' b'' n hk'' hb=>
   rw[e1]at hb;simp at hb;simp at hc;rw[<-hc,hb.1]
 obtain⟨c',hrun,hsz,hat⟩:=zJ7 hP hT e2 (off:=off) (x:=a.eval x) (by omega) (by omega) hon
 have hr:(execOp a.eval ⟨d0,.store T p x,y0,p0,f0,g0⟩).run P w= .ok .skip (w.setRow b' c'):=by
  simp[execOp,Instr.storeAt,hc,Instr.sureAddr,hrun]
 rw[hr]
 refine⟨cN β k (β k),xN.step HH k _ _ zS (λj hj hn=>setRow_other w b' j c' (λe=>hn 0 (by rw[e1,e];simp))) Z Z Z (λb n hm=> .inl ⟨n,hm⟩) (λb n _=>uZ e2 hsz b)
  (λe he=>by rw[hk']at he;cases he;exact .inr ⟨⟨_,rfl⟩,λ_ _ hm=>hm⟩) λE=>⟨b',c',el,by rw[zW];exact e1,setRow_heap w _ _ _ _ _ e2,by rw[cO];omega,λi hi=>?_,λi u hu=>?_⟩,.fz _ _ (.bot _)⟩
 ·rw[hat];split
  ·exact hon _ (by omega)
  ·exact e4 i (by omega)
 ·rw[XH _ _ _ _ (by omega)]at hu;rw[hat];rw[h2]at hu;split
  ·rename_i hi;rw[yAd hi]at hu;exact(hv _ u hu).evo E
  ·rename_i hi;rw[yAc hi]at hu;exact(e5 i u hu).evo E
def HX (x:AV) (off:Nat) (cs:List AV):AV:=match x with
 | .agg ds=> .agg (TM ds off cs)
 |_=>match cs with
  | [v]=>v
  |_=> .bot
def zBf {x:AV} {off:Nat} {cs:List AV} (h:off+cs.length<=x.cells.length) (h0:1<=cs.length) (hg:cs.all (λv=>!v.isAgg)=true):(HX x off cs).cells=TM x.cells off cs:=by
  cases x<;>first
    |rfl
    | (simp only[AV.cells,yAp,yBk]at h
       match cs,h0,h,hg with
       | [v],_,h,hg=>
         simp at hg h;subst h
         cases v<;>first|rfl|(simp[AV.isAgg]at hg))
include hP in
theorem WC {T:Nat} {p x:Operand} {k i off sz:Nat} {xs:List AV} {y v:AV} {ti:TI} {nest:Bool} (hp:yO (zG st.tm) p= .ptr k i off) (hx:yO (zG st.tm) x=v) (hk:zD st.h k=some (.arr sz xs ⟨false,nest⟩)) (hy:xs[i]? =some y) (hT:TT[T]? =some ti)
  (h1:v.ok=true) (h2:Nat.beq v.cells.length ti.size=true) (h3:Nat.ble (off+ti.size) y.cells.length=true) (h4:(nest||v.nokey)=true) (h5:Nat.ble 1 ti.size=true) (h6:v.cells.all (λv=>!v.isAgg)=true):
  wS P st (.store T p x) .bot [(k,.arr sz (xs.set i (HX y off v.cells)) ⟨false,nest⟩)] [k] []:=by
 refine⟨?_⟩;intro X tm h hg hr _ o a w β ho HH Ht;obtain⟨d0,o0,y0,p0,f0,g0⟩:=o;dsimp only at ho;subst ho;have hk':=(hr k zS).trans hk;have h2:=yBd h2;have h3:=yAv h3;have h5:=yAv h5;have hp':=gA Ht hg (x:=p) uF hp;have hxv:=gA Ht hg (x:=x) uF hx;obtain⟨hl,hon,hv⟩:=hxv.cells h1
 have hvF:nest=false->∀(j:Nat) u,v.cells[j]? =some u->xH w (xP X β) u ((a.eval x).cells.getD j undef):=λhn j u hu=>(hv j u hu).toF (by
  rw[hn,yC9]at h4
  cases v<;>first
   |(simp[AV.cells]at hu;cases j<;>simp at hu;subst hu;exact h4)
   |(exact jB (by simpa [AV.nokey,AV.cells]using h4) hu))
 obtain⟨b,n,hc,hm,hof,hyl,_,hni⟩:=zJ6 HH hk' hy hp';obtain⟨g1,g2,g3,g4,g5,f,g6,g7,g8⟩:=HH.ent k _ hk';have hi:i<xs.length:=(yA5.1 hy).1
 obtain⟨rr,hbk,hnx,hr0⟩:∃rr,β k=(b,n)::rr/\n=xs.length/\∀b' n',(b',n')∈rr->n'=0:=by
  cases hbk:β k with
  |nil=>rw[hbk]at hm;simp at hm
  |cons q r=>
   obtain⟨b0,n0⟩:=q;obtain⟨e1,e2,_⟩:=g5 b0 n0 r hbk;have e2:=e2 Z;rw[hbk]at hm;simp at hm
   rcases hm with⟨rfl,rfl⟩|hm
   ·exact⟨r,rfl,e1,e2⟩
   ·have:=e2 b n hm;omega
 subst hnx;obtain⟨c,el,e2,e3,e4,e5⟩:=g8 b _ hm
 have hmul:i*sz+sz<=xs.length*sz:=by
  have:=yA0 sz (show i+1<=xs.length by omega)
  rwa [yBi,yCe]at this
 obtain⟨c',hrun,hsz,hat⟩:=zJ7 hP hT e2 (off:=i*sz+off) (x:=a.eval x) (by omega) (by omega) hon
 have hr:(execOp a.eval ⟨d0,.store T p x,y0,p0,f0,g0⟩).run P w= .ok .skip (w.setRow b c'):=by
  simp[execOp,Instr.storeAt,hc,Instr.sureAddr,hrun]
 rw[hr];have hpc:=zBf (x:=y) (off:=off) (cs:=v.cells) (by omega) (by omega) h6;have hlen:(xs.set i (HX y off v.cells)).length=xs.length:=by simp
 have hget:∀(i':Nat) (x':AV),(xs.set i (HX y off v.cells))[i']? =some x'->(i'=i/\x'=HX y off v.cells)∨(i'≠i/\xs[i']? =some x'):=by
  intro i' x' hx';by_cases hii:i'=i
  ·subst hii;rw[yB5 hi]at hx';exact .inl ⟨rfl,(yCr hx').symm⟩
  ·rw[yEg (λe=>hii e.symm)]at hx';exact .inr ⟨hii,hx'⟩
 let f':Nat->Nat->Value:=λi' j=>if i'=i/\off<=j/\j<off+ti.size then(a.eval x).cells.getD (j-off) undef else f i' j
 refine⟨cN β k (β k),xN.step HH k _ _ zS (λj hj hn=>setRow_other w b j c' (λe=>hn xs.length DY)) Z Z Z (λb n hm=> .inl ⟨n,hm⟩) (λb n _=>uZ e2 hsz b)
  (λe he=>by rw[hk']at he;cases he;exact .inr ⟨⟨_,_,rfl,by simp⟩,λ_ n hm=>⟨n,yAg _,hm⟩⟩) λE=>⟨g1,by simpa using g2,λ_=>by rw[zW,hbk];simp,λi' x' hx'=>?_,λb' n' r hb'=>?_,f',λi' x' j u hx' hu=>?_,λi' j hi' hj=>?_,λb' n' hb'=>?_⟩,.fz _ _ (.bot _)⟩
 ·rcases hget i' x' hx' with⟨_,rfl⟩|⟨_,h⟩
  ·rw[hpc,cO];exact hyl
  ·exact g4 i' x' h
 ·rw[zW,hbk]at hb';simp at hb';obtain⟨⟨rfl,rfl⟩,rfl⟩:=hb';refine⟨by simp,λ_=>hr0,λb' n' hm=>by have:=hr0 b' n' hm;simp;omega⟩
 ·rcases hget i' x' hx' with⟨rfl,rfl⟩|⟨hii,h⟩
  ·rw[hpc,XH _ _ _ _ (by omega)]at hu;simp only[f',true_and];rw[h2]at hu;split
   ·rename_i hj;rw[yAd hj]at hu;exact⟨(hv _ u hu).evo E,λhn=>(hvF hn _ u hu).evo E.size E.fz⟩
   ·rename_i hj;rw[yAc hj]at hu;exact⟨(g6 i' y j u hy hu).1.evo E,λhn=>((g6 i' y j u hy hu).2 hn).evo E.size E.fz⟩
  ·simp only[f',hii,false_and,if_false];exact⟨(g6 i' x' j u h hu).1.evo E,λhn=>((g6 i' x' j u h hu).2 hn).evo E.size E.fz⟩
 ·simp only[f'];split
  ·exact hon _ (by omega)
  ·exact g7 i' j (by simpa using hi') hj
 ·have hone2:∀q,q<c'.size->(c'.getD q undef).oneCell'=true:=λq hq=>by
   rw[hat];split
   ·exact hon _ (by omega)
   ·exact e5 q (by omega)
  rw[zW,hbk]at hb';simp at hb'
  rcases hb' with⟨rfl,rfl⟩|hb'
  case inr=>
   obtain rfl:=hr0 b' n' hb';by_cases hbb:b'=b
   ·subst hbb;exact⟨c',el,setRow_heap w _ _ _ _ _ e2,by omega,λi' j hi' _=>by omega,hone2⟩
   ·obtain⟨c2,el2,q1,q2,_,q4⟩:=g8 b' 0 (by rw[hbk];simp[hb']);exact⟨c2,el2,(setRow_other w b b' c' hbb).trans q1,q2,λi' j hi' _=>by omega,q4⟩
  refine⟨c',el,setRow_heap w _ _ _ _ _ e2,by omega,λi' j hi' hj=>?_,hone2⟩
  have hlt:i'*sz+j<c'.size:=by
   have:=yA0 sz (show i'+1<=xs.length by omega);rw[yBi,yCe]at this;omega
  rw[kH c' _ hlt,hat]
  congr 1
  have hiff:(i*sz+off<=i'*sz+j/\i'*sz+j<i*sz+off+ti.size)↔(i'=i/\off<=j/\j<off+ti.size):=by
   constructor
   ·rintro⟨q1,q2⟩
    have hii:i'=i:=by
     rcases Nat.lt_trichotomy i' i with h|h|h
     ·have:=yA0 sz (show i'+1<=i by omega);rw[yBi,yCe]at this;omega
     ·exact h
     ·have:=yA0 sz (show i+1<=i' by omega);rw[yBi,yCe]at this;omega
    subst hii;exact⟨rfl,by omega,by omega⟩
   ·rintro⟨rfl,q1,q2⟩;omega
  simp only[f',hiff];split
  ·rename_i hq;obtain⟨rfl,q1,q2⟩:=hq
   congr 1
   omega
  ·exact gB (e4 i' j hi' hj)
end ops
end
section
section ops
variable {P:Program} {TT:List TI} {st:St} (hP:uJ P TT)
def CF {P:Program} {TT:List TI} (hP:uJ P TT) {T f o ft:Nat} {ti:TI} {fs:List (Nat×Nat)} (hT:TT[T]? =some ti) (hd:ti.d= .str fs) (hf:fs[f]? =some (o,ft)) (w:World):
  ∃(fields:Array Field) (fd:Field),(underlying T).run P w= .ok (.struct fields) w/\fields[f]? =some fd/\fd.offset=o/\fd.type=ft:=by
 obtain⟨u,hu,hd'⟩:=xV (hP _ _ hT) w;obtain⟨fields,rfl,hm⟩:=zJ3 (hd'.trans hd);rw[<-hm]at hf;simp only[yAi,yAq,yCd]at hf;obtain⟨fd,h1,h2,h3⟩:=hf;exact⟨fields,fd,hu,by simpa using h1,h2,h3⟩
def ZZ {P:Program} {TT:List TI} (hP:uJ P TT) {T f o ft:Nat} {ti tf:TI} {fs:List (Nat×Nat)} (hT:TT[T]? =some ti) (hd:ti.d= .str fs) (hf:fs[f]? =some (o,ft)) (hft:TT[ft]? =some tf) (hz:Nat.ble 1 tf.size=true) (w:World) (b q:Nat):
  (Instr.fieldAt T (.pointer (some ⟨b,q,none⟩)) f).run P w= .ok (.pointer (some ⟨b,q+o,none⟩)) w:=by
 obtain⟨fields,fd,h1,h2,h3,h4⟩:=CF hP hT hd hf w;have hs:=uK (hP _ _ hft) w;have hz:=yAv hz;have hz':¬tf.size=0:=by omega
 have hadd:(⟨b,q,none⟩:Addr).add o=⟨b,q+o,none⟩:=by unfold Addr.add;split<;>simp_all
 simp[Instr.fieldAt,h1,h2,Instr.sureAddr,fieldPlace,h3,h4,hs,hz',hadd]
def YA (b q n:Nat):(⟨b,q,none⟩:Addr).add n=⟨b,q+n,none⟩:=by unfold Addr.add;split<;>simp_all
include hP in
def TN {T f k off o ft:Nat} {x:Operand} {ti tf:TI} {fs:List (Nat×Nat)} {cs:List AV} (hx:yO (zG st.tm) x= .ptr k 0 off) (hk:zD st.h k=some (.box cs)) (hT:TT[T]? =some ti) (hd:ti.d= .str fs) (hf:fs[f]? =some (o,ft))
  (hft:TT[ft]? =some tf) (hz:Nat.ble 1 tf.size=true):wS P st (.fieldAddr T x f) (.ptr k 0 (off+o)) [] [k] []:=
 yR λoo X tm h w β a ho hg hr HH Ht=>by
  obtain⟨d0,o0,y0,p0,f0,g0⟩:=oo;dsimp only at ho;subst ho;have h1:=gA Ht hg (x:=x) uF hx;have hk':=(hr k zS).trans hk;have hfa:=λb=>ZZ hP hT hd hf hft hz w b off
  generalize he:a.eval x=cx at h1
  cases h1 with
  |fz _ _ hf=>cases hf
  |dptr _ _ _ _ hd _=>rw[hk']at hd;cases hd
  |parr _ _ _ _ _ _ _ _ hd _ _ _=>rw[hk']at hd;cases hd
  |pbox _ _ cs' b n hk'' hb=>exact⟨_,by simp[execOp,he,hfa],.pbox k _ cs' b n hk'' hb⟩
include hP in
def kI {T f k i off o ft sz:Nat} {x:Operand} {ti tf:TI} {fs:List (Nat×Nat)} {xs:List AV} {sl:Fl} (hx:yO (zG st.tm) x= .ptr k i off) (hk:zD st.h k=some (.arr sz xs sl)) (hT:TT[T]? =some ti) (hd:ti.d= .str fs) (hf:fs[f]? =some (o,ft))
  (hft:TT[ft]? =some tf) (hz:Nat.ble 1 tf.size=true) (hle:Nat.blt (off+o) sz=true):wS P st (.fieldAddr T x f) (.ptr k i (off+o)) [] [k] []:=
 yR λoo X tm h w β a ho hg hr HH Ht=>by
  obtain⟨d0,o0,y0,p0,f0,g0⟩:=oo;dsimp only at ho;subst ho;have h1:=gA Ht hg (x:=x) uF hx;have hk':=(hr k zS).trans hk;have hfa:=λb q=>ZZ hP hT hd hf hft hz w b q
  have hle:off+o<sz:=yAv hle;generalize he:a.eval x=cx at h1
  cases h1 with
  |fz _ _ hf=>cases hf
  |dptr _ _ _ _ hd _=>rw[hk']at hd;cases hd
  |pbox _ _ _ _ _ hd _=>rw[hk']at hd;cases hd
  |parr _ _ _ sz' xs' st' b n hk'' hb hi ho=>
   have h2:=hk'';rw[hk']at h2;cases h2;exact⟨_,by simp[execOp,he,hfa];rfl,by rw[yFk];exact .parr k i (off+o) sz xs sl b n hk'' hb hi hle⟩
include hP in
def jD {T f i off o ft:Nat} {x:Operand} {ti tf:TI} {fs:List (Nat×Nat)} {xs:List AV} {y:AV} (hx:yO (zG st.tm) x= .fp xs i off) (hy:xs[i]? =some y) (hT:TT[T]? =some ti) (hd:ti.d= .str fs) (hf:fs[f]? =some (o,ft))
  (hft:TT[ft]? =some tf) (hz:Nat.ble 1 tf.size=true) (hle:Nat.blt (off+o) y.cells.length=true):wS P st (.fieldAddr T x f) (.fp xs i (off+o)) [] [] []:=
 yR λoo X tm h w β a ho hg hr HH Ht=>by
  obtain⟨d0,o0,y0,p0,f0,g0⟩:=oo;dsimp only at ho;subst ho;have h1:=gA Ht hg (x:=x) uF hx;have hfa:=λb q=>ZZ hP hT hd hf hft hz w b q
  have hle:off+o<y.cells.length:=yAv hle;generalize he:a.eval x=cx at h1
  cases h1 with
  | fz _ _ hf=>
   cases hf with
   |fp _ b q sz _ _ f hL hi ho hh=>
    have hsz:=hL.wide i y hy;exact⟨_,by simp[execOp,he,hfa];rfl,.fz _ _ (by rw[yFk];exact .fp xs b q sz i (off+o) f hL hi (by omega) hh)⟩
include hP in
def QM {T e:Nat} {ti te:TI} (hT:TT[T]? =some ti) (hd:ti.d= .slice e) (he:TT[e]? =some te) (w:World) (b q len cap:Nat) (k:IntKind) (i:Int) (h0:0<=i) (hi:i<len):
  (Instr.indexAt T (.slice (some ⟨b,q,none⟩) len cap) (.int k i)).run P w= .ok (.pointer (some ⟨b,q+i.toNat*te.size,none⟩)) w:=by
 obtain⟨u,hu,hd'⟩:=xV (hP _ _ hT) w;obtain rfl:=vP (hd'.trans hd);have hs:=uK (hP _ _ he) w;simp[Instr.indexAt,asIntOf,hu,h0,hi,hs,YA]
include hP in
def jE {T e:Nat} {x ix:Operand} {ti te:TI} {nn:Bool} {xs:List AV} {y:AV} {k:IntKind} {i:Int} (hx:yO (zG st.tm) x= .sl nn xs) (hi:yO (zG st.tm) ix= .s (.int k i)) (hT:TT[T]? =some ti) (hd:ti.d= .slice e) (he:TT[e]? =some te)
  (h0:0<=i) (hy:xs[i.toNat]? =some y) (hs:Nat.beq y.cells.length te.size=true) (hz:Nat.ble 1 te.size=true):wS P st (.indexAddr T x ix) (.fp xs i.toNat 0) [] [] []:=
 yR λoo X tm h w β a ho hg hr HH Ht=>by
  obtain⟨d0,o0,y0,p0,f0,g0⟩:=oo;dsimp only at ho;subst ho;have h1:=gA Ht hg (x:=x) uF hx;have h2:=vO Ht hg (x:=ix) uF hi;have hs:=yBd hs;have hz:=yAv hz;have hlt:i.toNat<xs.length:=(yA5.1 hy).1;generalize he':a.eval x=cx at h1
  cases h1 with
  | fz _ _ hf=>
   cases hf with
   |nil a cap=>simp at hlt
   |nil1 a cap=>simp at hlt
   |sl _ _ b o sz cap f hne hL hc hh=>
    have hsz:=hL.wide _ y hy;refine⟨_,by simp only[execOp,he',h2,Sem.run_bind,QM hP hT hd he w b o xs.length cap k i h0 (by omega),Result.andThen_ok,Sem.run_pure];rfl,.fz _ _ ?_⟩;have:=xH.fp xs b o sz i.toNat 0 f hL hlt (by omega) hh
    rwa [yDm,<-hsz,hs]at this
include hP in
def TO {T e:Nat} {x ix:Operand} {ti te:TI} {key off len sz:Nat} {xs:List AV} {sl:Fl} {k:IntKind} {i:Int} (hx:yO (zG st.tm) x= .ref key off len) (hi:yO (zG st.tm) ix= .s (.int k i)) (hk:zD st.h key=some (.arr sz xs sl)) (hT:TT[T]? =some ti) (hd:ti.d= .slice e) (he:TT[e]? =some te)
  (h0:0<=i) (hl:i<len) (hs:Nat.beq sz te.size=true):wS P st (.indexAddr T x ix) (.ptr key (off+i.toNat) 0) [] [key] []:=
 yR λoo X tm h w β a ho hg hr HH Ht=>by
  obtain⟨d0,o0,y0,p0,f0,g0⟩:=oo;dsimp only at ho;subst ho;have h1:=gA Ht hg (x:=x) uF hx;have h2:=vO Ht hg (x:=ix) uF hi;have hk':=(hr key zS).trans hk;have hs:=yBd hs;have hp:=(HH.ent key _ hk').1;generalize he':a.eval x=cx at h1
  cases h1 with
  |fz _ _ hf=>cases hf
  |dref _ _ _ _ hd _=>rw[hk']at hd;cases hd
  |ref0 _ _ _ _ _ _ _ _=>simp at hl;omega
  |ref _ _ _ sz' xs' st' b n cap hk'' hb hn hc hsz=>
   have h3:=hk'';rw[hk']at h3;cases h3;refine⟨_,by simp only[execOp,he',h2,Sem.run_bind,QM hP hT hd he w b _ len cap k i h0 hl,Result.andThen_ok,Sem.run_pure];rfl,?_⟩;have:=zY.parr (w:=w) (D:=xP X β) key (off+i.toNat) 0 sz xs sl b n hk'' hb (by omega) (by omega);rw[yBi,yDm]at this;rw[<-hs];exact this
include hP in
def kJ {T e n:Nat} {x ix:Operand} {ti te:TI} {key off:Nat} {cs:List AV} {k:IntKind} {i:Int} (hx:yO (zG st.tm) x= .ptr key 0 off) (hi:yO (zG st.tm) ix= .s (.int k i)) (hk:zD st.h key=some (.box cs)) (hT:TT[T]? =some ti) (hd:ti.d= .arr n e) (he:TT[e]? =some te)
  (h0:0<=i) (hl:i<n):wS P st (.indexAddr T x ix) (.ptr key 0 (off+i.toNat*te.size)) [] [key] []:=
 yR λoo X tm h w β a ho hg hr HH Ht=>by
  obtain⟨d0,o0,y0,p0,f0,g0⟩:=oo;dsimp only at ho;subst ho;have h1:=gA Ht hg (x:=x) uF hx;have h2:=vO Ht hg (x:=ix) uF hi;have hk':=(hr key zS).trans hk;obtain⟨u,hu,hd'⟩:=xV (hP _ _ hT) w;obtain rfl:=zBc (hd'.trans hd);have hs:=uK (hP _ _ he) w;generalize he':a.eval x=cx at h1
  cases h1 with
  |fz _ _ hf=>cases hf
  |dptr _ _ _ _ hd _=>rw[hk']at hd;cases hd
  |parr _ _ _ _ _ _ _ _ hd _ _ _=>rw[hk']at hd;cases hd
  |pbox _ _ cs' b q hk'' hb=>
   exact⟨.pointer (some ⟨b,off+i.toNat*te.size,none⟩),by simp[execOp,Instr.indexAt,asIntOf,hu,Instr.sureAddr,h0,hl,hs,YA,he',h2],.pbox key _ cs' b q hk'' hb⟩
def zJ8 {P:Program} {TT:List TI} (hP:uJ P TT) {T:Nat} {ti:TI} (hT:TT[T]? =some ti) {w:World} {D:Nat->Prop} {h:yG} {β:uG} {cs:List AV} {c:Value} (hv:zY w D h β (.agg cs) c) {off:Nat} {v:AV} (hl:ldv ti.d.agg ti.size cs off=some v):
  ∃(ca:Array Value) (u:Value),c= .agg ca/\(part T ca off).run P w= .ok u w/\zY w D h β v u:=by
 obtain⟨h1,h2,h3⟩:=hv.cells Z;have ha:=zDw (hP _ _ hT) w;have hs:=uK (hP _ _ hT) w
 obtain⟨ca,rfl⟩:∃ca,c= .agg ca:=by
  cases hv with
  |fz _ _ hf=>cases hf with|agg _ c=>exact⟨c,rfl⟩
  |agg _ c=>exact⟨c,rfl⟩
 simp only[Value.cells,AV.cells]at h1 h2 h3;unfold ldv at hl
 cases hb:ti.d.agg with
 |false=>
  simp only[hb,yCg]at hl;have hlt:off<ca.size:=by rw[h1];exact(yA5.1 hl).1
  exact⟨ca,ca.getD off undef,rfl,by simp only[part,Sem.run_bind,ha,hb,Result.andThen_ok,kH ca off hlt,Bool.false_eq_true,if_false,Sem.run_pure],h3 _ _ hl⟩
 | true=>
  simp only[hb,yBx]at hl
  cases hle:Nat.ble (off+ti.size) cs.length with
  |false=>simp[hle]at hl
  | true=>
   have hle':=yAv hle;simp only[hle,yBx,yBu]at hl;subst hl
   have hat:∀i,i<ti.size->(ca.extract off (off+ti.size)).getD i undef=ca.getD (off+i) undef:=λi hi=>by
    apply gB;rw[Array.getElem?_extract];rw[yAd (by omega)];exact kH ca _ (by omega)
   refine⟨ca,.agg (ca.extract off (off+ti.size)),rfl,by simp only[part,Sem.run_bind,ha,hb,Result.andThen_ok,yF4,hs,Sem.run_pure],.agg _ _ wF (λi hi=>?_) λi u hu=>?_⟩
   ·have hi':i<ti.size:=by simp at hi;omega
    rw[hat i hi'];exact h2 _ (by omega)
   ·rw[yBr]at hu;split at hu
    ·rename_i hi;rw[hat i hi];rw[yB3]at hu;exact h3 _ _ hu
    ·cases hu
def zFv (hP:uJ P TT) {T f o ft:Nat} {x:Operand} {ti tf:TI} {fs:List (Nat×Nat)} {cs:List AV} {v:AV} (hx:yO (zG st.tm) x= .agg cs) (hT:TT[T]? =some ti) (hd:ti.d= .str fs) (hf:fs[f]? =some (o,ft))
  (hft:TT[ft]? =some tf) (hv:ldv tf.d.agg tf.size cs o=some v):wS P st (.field T x f) v [] [] []:=
 yR λoo X tm h w β a ho hg hr HH Ht=>by
  obtain⟨d0,o0,y0,p0,f0,g0⟩:=oo;dsimp only at ho;subst ho;have h1:=gA Ht hg (x:=x) uF hx;obtain⟨fields,fd,e1,e2,e3,e4⟩:=CF hP hT hd hf w;obtain⟨ca,u,hc,hr,hu⟩:=zJ8 hP hft h1 hv;exact⟨u,by simp[execOp,hc,Instr.field,e1,e2,asAgg,e3,e4,hr],hu⟩
def RU {x:Operand} {k off:Nat} {cs:List AV} (hx:yO (zG st.tm) x= .ptr k 0 off) (hk:zD st.h k=some (.box cs)):wS P st (.nilCheck x) (.ptr k 0 off) [] [k] []:=
 yR λoo X tm h w β a ho hg hr HH Ht=>by
  obtain⟨d0,o0,y0,p0,f0,g0⟩:=oo;dsimp only at ho;subst ho;have h1:=gA Ht hg (x:=x) uF hx;have hk':=(hr k zS).trans hk;obtain⟨b,hc,_,_⟩:=OC HH hk' h1;rw[hc]at h1;exact⟨_,by simp[execOp,hc],h1⟩
def uI {x:Operand} {k i off sz:Nat} {xs:List AV} {sl:Fl} {y:AV} (hx:yO (zG st.tm) x= .ptr k i off) (hk:zD st.h k=some (.arr sz xs sl)) (hy:xs[i]? =some y):wS P st (.nilCheck x) (.ptr k i off) [] [k] []:=
 yR λoo X tm h w β a ho hg hr HH Ht=>by
  obtain⟨d0,o0,y0,p0,f0,g0⟩:=oo;dsimp only at ho;subst ho;have h1:=gA Ht hg (x:=x) uF hx;have hk':=(hr k zS).trans hk;obtain⟨b,n,hc,_,_,_,_⟩:=zDx HH hk' hy h1;rw[hc]at h1;exact⟨_,by simp[execOp,hc],h1⟩
def zBg (hP:uJ P TT) {T e:Nat} {x:Operand} {ti:TI} {nn:Bool} {xs:List AV} (hx:yO (zG st.tm) x= .sl nn xs) (hT:TT[T]? =some ti) (hd:ti.d= .slice e):
  wS P st (.call ⟨.builtin .len, #[x], #[T]⟩) (.s (.int .i64 xs.length)) [] [] []:=
 yR λoo X tm h w β a ho hg hr HH Ht=>by
  obtain⟨d0,o0,y0,p0,f0,g0⟩:=oo;dsimp only at ho;subst ho;have h1:=gA Ht hg (x:=x) qX hx;obtain⟨u,hu,hd'⟩:=xV (hP _ _ hT) w;obtain rfl:=vP (hd'.trans hd)
  obtain⟨b,cap,hc⟩:∃b cap,a.eval x= .slice b xs.length cap:=by
   generalize a.eval x=cx at h1
   cases h1 with
   |fz _ _ hf=>cases hf<;>exact⟨_,_,rfl⟩
  exact⟨_,by simp[execOp,resolve,invoke,builtin,Builtin.len_,hc,hu,goInt],.fz _ _ (.s _)⟩
def CG (hP:uJ P TT) {T e:Nat} {x:Operand} {ti:TI} {k off len sz:Nat} {xs:List AV} {sl:Fl} (hx:yO (zG st.tm) x= .ref k off len) (hk:zD st.h k=some (.arr sz xs sl)) (hT:TT[T]? =some ti) (hd:ti.d= .slice e):
  wS P st (.call ⟨.builtin .len, #[x], #[T]⟩) (.s (.int .i64 len)) [] [k] []:=
 yR λoo X tm h w β a ho hg hr HH Ht=>by
  obtain⟨d0,o0,y0,p0,f0,g0⟩:=oo;dsimp only at ho;subst ho;have h1:=gA Ht hg (x:=x) qX hx;have hk':=(hr k zS).trans hk;obtain⟨u,hu,hd'⟩:=xV (hP _ _ hT) w;obtain rfl:=vP (hd'.trans hd)
  obtain⟨b,cap,hc⟩:∃b cap,a.eval x= .slice b len cap:=by
   generalize a.eval x=cx at h1
   cases h1 with
   |fz _ _ hf=>cases hf
   |dref _ _ _ _ hd _=>rw[hk']at hd;cases hd
   |ref0 _ _ _ _ _ _ _ _=>exact⟨_,_,rfl⟩
   |ref _ _ _ _ _ _ _ _ _ _ _ _ _ _=>exact⟨_,_,rfl⟩
  exact⟨_,by simp[execOp,resolve,invoke,builtin,Builtin.len_,hc,hu,goInt],.fz _ _ (.s _)⟩
def CH (hP:uJ P TT) {T e:Nat} {x:Operand} {ti:TI} {b:Option Addr} {n cap:Nat} (hx:yO (zG st.tm) x= .s (.slice b n cap)) (hT:TT[T]? =some ti) (hd:ti.d= .slice e):
  wS P st (.call ⟨.builtin .len, #[x], #[T]⟩) (.s (.int .i64 n)) [] [] []:=
 yR λoo X tm h w β a ho hg hr HH Ht=>by
  obtain⟨d0,o0,y0,p0,f0,g0⟩:=oo;dsimp only at ho;subst ho;have hc:=vO Ht hg (x:=x) qX hx;obtain⟨u,hu,hd'⟩:=xV (hP _ _ hT) w;obtain rfl:=vP (hd'.trans hd);exact⟨_,by simp[execOp,resolve,invoke,builtin,Builtin.len_,hc,hu,goInt],.fz _ _ (.s _)⟩
def Bd (st:St) (o:Option Operand) (dflt n:Nat):Prop:=match o with
 |none=>n=dflt
 |some x=>∃k i,yO (zG st.tm) x= .s (.int k i)/\i=(n:Int)
def gS {P:Program} {st:St} {op:Op} {tm:Nat->AV} {a:Act} {w:World} {D:Nat->Prop} {h:yG} {β:uG} (H:∀t,zY w D h β (tm t) (a.eval (.tmp t))) (hg:∀t,t∈fV op->tm t=zG st.tm t) {lo hi:Option Operand}
  (h1:∀x,lo=some x->x∈op.operands) (h2:∀x,hi=some x->x∈op.operands) {len cap l r:Nat} (hl:Bd st lo 0 l) (hr:Bd st hi len r) (hlr:l<=r) (hrc:r<=cap) (b:Bool):
  (Instr.sliceBounds b len cap (lo.map a.eval) (hi.map a.eval) none).run P w= .ok (l,r,cap) w:=by
 unfold Instr.sliceBounds
 cases lo with
 | none=>
  simp only[Bd]at hl;subst hl
  cases hi with
  |none=>simp only[Bd]at hr;subst hr;simp
  |some y=>
   obtain⟨k,i,e1,rfl⟩:=hr;have e2:=vO H hg (h2 y Z) e1;simp[Instr.sliceBound,e2,asIntOf,hrc]
 | some x=>
  obtain⟨k,i,e1,rfl⟩:=hl;have e2:=vO H hg (h1 x Z) e1
  cases hi with
  |none=>simp only[Bd]at hr;subst hr;simp[Instr.sliceBound,e2,asIntOf,hlr]
  |some y=>
   obtain⟨k',i',e3,rfl⟩:=hr;have e4:=vO H hg (h2 y Z) e3;simp[Instr.sliceBound,e2,e4,asIntOf,hlr,hrc]
theorem aR (hP:uJ P TT) {T e:Nat} {x:Operand} {lo hi:Option Operand} {ti te:TI} {nn:Bool} {xs:List AV} {l r:Nat} (hx:yO (zG st.tm) x= .sl nn xs) (hT:TT[T]? =some ti) (hd:ti.d= .slice e) (he:TT[e]? =some te)
  (hl:Bd st lo 0 l) (hr:Bd st hi xs.length r) (hlr:l<=r) (hrx:r<=xs.length) (hsz:∀y,xs[0]? =some y->y.cells.length=te.size):wS P st (.slice T x lo hi none) (.sl nn ((xs.drop l).take (r-l))) [] [] []:=
 yR λoo X tm h w β a ho hg _ HH Ht=>by
  obtain⟨d0,o0,y0,p0,f0,g0⟩:=oo;dsimp only at ho;subst ho;have h1:=gA Ht hg (x:=x) uF hx;obtain⟨u,hu,hd'⟩:=xV (hP _ _ hT) w;obtain rfl:=vP (hd'.trans hd);have hs:=uK (hP _ _ he) w
  obtain⟨b,cap,hc,hcap⟩:∃b cap,a.eval x= .slice b xs.length cap/\xs.length<=cap:=by
   generalize a.eval x=cx at h1
   cases h1 with
   |fz _ _ hf=>
    cases hf with
    |nil a cap=>exact⟨_,_,rfl,by simp⟩
    |nil1 a cap=>exact⟨_,_,rfl,by simp⟩
    |sl _ _ b o sz cap f hne hL hc hh=>exact⟨_,_,rfl,hc⟩
  have hb:=gS (P:=P) Ht hg (lo:=lo) (hi:=hi) (λy hy=>by subst hy;simp[Op.operands]) (λy hy=>by subst hy;simp[Op.operands]) hl hr hlr (yBn hrx hcap) true
  have hrun:(execOp a.eval ⟨d0,.slice T x lo hi none,y0,p0,f0,g0⟩).run P w= .ok (.value (.slice (if cap=l then b else b.map (·.add (l*te.size))) (r-l) (cap-l))) w:=by
   simp only[execOp,Instr.sliceAt,Instr.slice,Sem.run_bind,hu,Result.andThen_ok,hc,yDo,hb,hs,Sem.run_pure]
  refine⟨_,hrun,.fz _ _ ?_⟩;rw[hc]at h1;have hlen:((xs.drop l).take (r-l)).length=r-l:=by simp;omega
  by_cases hz:r-l=0
  ·have hnil:(xs.drop l).take (r-l)=[]:=yBb (by omega);rw[hnil,hz]
   cases nn with
   |false=>exact .nil _ _
   | true=>
    cases h1 with
    |fz _ _ hf=>
     cases hf with
     |nil1 a cap=>split<;>exact .nil1 _ _
     |sl _ _ b o sz cap f hne hL hc hh=>split<;>exact .nil1 _ _
  ·cases h1 with
   | fz _ _ hf=>
    cases hf with
    |nil a cap=>simp at hrx;omega
    |nil1 a cap=>simp at hrx;omega
    | sl _ _ b o sz cap f hne hL hc hh=>
     have hne':¬cap=l:=by omega
     have hsz':te.size=sz:=by
      obtain⟨y,hy⟩:∃y,xs[0]? =some y:=⟨xs[0]'(by omega),by simp⟩;rw[<-hsz y hy,hL.wide 0 y hy]
     have hat:∀(i:Nat) y,((xs.drop l).take (r-l))[i]? =some y->xs[l+i]? =some y:=λi y hy=>by
      rw[yBr]at hy;split at hy
      ·rwa [yB3]at hy
      ·cases hy
     rw[yAc hne',Option.map_some,YA,hsz']
     have:=xH.sl (w:=w) (D:=xP X β) nn ((xs.drop l).take (r-l)) b (o+l*sz) sz (cap-l) (λi j=>f (l+i) j) (λh0=>hz (by rw[<-hlen,h0];rfl))
      ⟨hL.lt,hL.nd,hL.pos,by rw[hlen];exact yBn (Nat.sub_le _ _) (yBn hrx hL.max),λi y hy=>hL.wide _ y (hat i y hy),λi j hi hj=>by
       rw[hlen]at hi;have:=hL.cell (l+i) j (by omega) hj
       rwa [yBi,<-yFk]at this,λi j hi hj=>hL.one _ _ (by rw[hlen]at hi;omega) hj⟩ (by omega) (λi y j v hy hv=>hh _ y j v (hat i y hy) hv)
     rwa [hlen]at this
def fA (hP:uJ P TT) {T e:Nat} {x:Operand} {lo hi:Option Operand} {ti te:TI} {k off len sz:Nat} {xs:List AV} {sl:Fl} {l r:Nat} (hx:yO (zG st.tm) x= .ref k off len) (hk:zD st.h k=some (.arr sz xs sl)) (hT:TT[T]? =some ti) (hd:ti.d= .slice e) (he:TT[e]? =some te)
  (hl:Bd st lo 0 l) (hr:Bd st hi len r) (hlr:l<=r) (hrx:r<=len) (hsz:Nat.beq sz te.size=true):wS P st (.slice T x lo hi none) (.ref k (off+l) (r-l)) [] [k] []:=
 yR λoo X tm h w β a ho hg hr' HH Ht=>by
  obtain⟨d0,o0,y0,p0,f0,g0⟩:=oo;dsimp only at ho;subst ho;have h1:=gA Ht hg (x:=x) uF hx;have hk':=(hr' k zS).trans hk;have hsz:=yBd hsz;obtain⟨u,hu,hd'⟩:=xV (hP _ _ hT) w;obtain rfl:=vP (hd'.trans hd);have hs:=uK (hP _ _ he) w;have hE:=HH.ent k _ hk';generalize hcx:a.eval x=cx at h1
  have main:∀b cap,cx= .slice b len cap->len<=cap->(execOp a.eval ⟨d0,.slice T x lo hi none,y0,p0,f0,g0⟩).run P w= .ok (.value (.slice (if cap=l then b else b.map (·.add (l*te.size))) (r-l) (cap-l))) w:=by
   intro b cap hc hcap;have hb:=gS (P:=P) Ht hg (lo:=lo) (hi:=hi) (λy hy=>by subst hy;simp[Op.operands]) (λy hy=>by subst hy;simp[Op.operands]) hl hr hlr (yBn hrx hcap) true;simp only[execOp,Instr.sliceAt,Instr.slice,Sem.run_bind,hu,Result.andThen_ok,hcx,hc,yDo,hb,hs,Sem.run_pure]
  cases h1 with
  |fz _ _ hf=>cases hf
  |dref _ _ _ _ hd _=>rw[hk']at hd;cases hd
  |ref0 _ _ sz' xs' st' b hk'' hn=>
   have hm:=main b 0 Z (yAg _);obtain rfl:r=0:=by omega
   obtain rfl:l=0:=by omega
   exact⟨_,hm,.ref0 k off sz' xs' st' _ hk'' hn⟩
  | ref _ _ _ sz' xs' st' b n cap hk'' hb hn hc hs'=>
   have hm:=main _ cap Z hc;have h3:=hk'';rw[hk']at h3;cases h3;refine⟨_,hm,?_⟩;obtain⟨_,_,_,_,g5,_⟩:=hE
   have hnx:n<=xs.length:=by
    cases hbk:β k with
    |nil=>rw[hbk]at hb;simp at hb
    |cons q rr=>
     obtain⟨b0,n0⟩:=q;obtain⟨e1,_,e3⟩:=g5 b0 n0 rr hbk;rw[hbk]at hb;simp at hb
     rcases hb with⟨_,rfl⟩|hb
     ·omega
     ·exact yFe (e3 b n hb)
   by_cases hcl:cap=l
   ·obtain rfl:r=l:=by omega
    rw[yAd hcl,show r-r=0 by omega,show cap-r=0 by omega];exact .ref0 k _ sz xs sl _ hk'' (by omega)
   ·rw[yAc hcl,Option.map_some,YA,<-hsz,<-yBi];exact .ref k (off+l) (r-l) sz xs sl b n (cap-l) hk'' hb (by omega) (by omega) (by rw[show off+l+(cap-l)=off+cap by omega];exact hs')
end ops
end
section
def TP (ne:Bool) (h:yG):AV->Option (List AV)
 | .sl _ ys=>some ys
 | .s v=>match v with
  | .slice none 0 0=>some []
  |_=>none
 | .ref k off len=>match h k with
  |some (.arr _ xs fl)=>bif fl.nest&& !ne then none else some ((xs.drop off).take len)
  |_=>none
 |_=>none
abbrev CI (h:yG):AV->Option (List AV):=TP false h
def OD:AV->List Nat
 | .ref k _ _=>[k]
 |_=>[]
structure Src (w:World) (D:Nat->Prop) (h:yG) (β:uG) (ne:Bool) (ys:List AV) (sz:Nat) (b o:Nat) (f:Nat->Nat->Value):Prop where
 wide:∀(i:Nat) (y:AV),ys[i]? =some y->y.cells.length=sz
 cell:∀i j,i<ys.length->j<sz->w.cell? ⟨b,o+i*sz+j,none⟩=some (f i j)
 one:∀i j,i<ys.length->j<sz->(f i j).oneCell'=true
 rep:jP w D h β ne ys f
theorem cP {w:World} {X:Nat->Prop} {h:yG} {β:uG} (H:jA X h β w) {x:AV} {c:Value} (hv:zY w (xP X β) h β x c) {ne:Bool} {ys:List AV} (he:TP ne h x=some ys) {sz:Nat} (hsz:∀y,ys[0]? =some y->y.cells.length=sz):
  ∃a cap,c= .slice a ys.length cap/\ys.length<=cap/\ys.length<=cA/\(ys≠[]->∃b o f,a=some ⟨b,o,none⟩/\Src w (xP X β) h β ne ys sz b o f):=by
 cases hv with
 | fz _ _ hf=>
  cases hf with
  |s v=>
   simp only[TP]at he;split at he
   ·cases he;exact⟨none,0,rfl,by simp,by simp,λh=>absurd Z h⟩
   ·cases he
  |nil a cap=>cases he;exact⟨a,cap,rfl,by simp,by simp,λh=>absurd Z h⟩
  |nil1 a cap=>cases he;exact⟨some a,cap,rfl,by simp,by simp,λh=>absurd Z h⟩
  | sl nn xs b o sz' cap f hne hL hc hh=>
   cases he
   have hs:sz'=sz:=by
    obtain⟨y,hy⟩:∃y,ys[0]? =some y:=by cases ys with|nil=>exact absurd Z hne|cons y _=>exact⟨y,rfl⟩
    rw[<-hsz y hy,hL.wide 0 y hy]
   subst hs;exact⟨_,cap,rfl,hc,hL.max,λ_=>⟨b,o,f,rfl,hL.wide,hL.cell,hL.one,.ofF hh⟩⟩
  |_=>cases he
 | ref k off len sz' xs st b n cap hk hb hn hc hs=>
  simp only[TP,hk]at he
  obtain⟨hne0,he⟩:(ne=false->st.nest=false)/\some ((xs.drop off).take len)=some ys:=by
   cases hn1:st.nest<;>cases ne<;>simp_all
  obtain rfl:=yCr he;obtain⟨g1,g2,g3,g4,g5,f,g6,g7,g8⟩:=H.ent k _ hk
  have hnx:n<=xs.length:=by
   cases hbk:β k with
   |nil=>rw[hbk]at hb;simp at hb
   |cons q rr=>
    obtain⟨b0,n0⟩:=q;obtain⟨e1,_,e3⟩:=g5 b0 n0 rr hbk;rw[hbk]at hb;simp at hb
    rcases hb with⟨_,rfl⟩|hb
    ·omega
    ·exact yFe (e3 b n hb)
  have hl:((xs.drop off).take len).length=len:=by simp;omega
  have hat:∀(i:Nat) y,((xs.drop off).take len)[i]? =some y->xs[off+i]? =some y:=λi y hy=>by
   rw[yBr]at hy;split at hy
   ·rwa [yB3]at hy
   ·cases hy
  refine⟨_,cap,by rw[hl],by rw[hl];exact hc,by omega,λhne=>?_⟩
  have hs':sz'=sz:=by
   obtain⟨y,hy⟩:∃y,((xs.drop off).take len)[0]? =some y:=by
    cases h0:(xs.drop off).take len with|nil=>exact absurd h0 hne|cons y _=>exact⟨y,rfl⟩
   rw[<-hsz y hy,g4 _ y (hat 0 y hy)]
  subst hs';obtain⟨c,el,e1,e2,e3,_⟩:=g8 b n hb;refine⟨b,off*sz',λi j=>f (off+i) j,rfl,λi y hy=>g4 _ y (hat i y hy),λi j hi hj=>?_,λi j hi hj=>g7 _ _ zDu hj,λi y j v hy hv=>⟨g6.toV _ y j v (hat i y hy) hv,λhn=>g6.toF (hne0 hn) _ y j v (hat i y hy) hv⟩⟩;rw[hl]at hi;rw[uH e1,show off*sz'+i*sz'+j=(off+i)*sz'+j by rw[yBi]];exact e3 _ _ (by omega) hj
 | ref0 k off sz' xs st a hk hn=>
  simp only[TP,hk,yDl]at he
  obtain rfl: []=ys:=by
   cases hn1:st.nest<;>cases ne<;>simp_all
  exact⟨a,0,rfl,by simp,by simp,λh=>absurd Z h⟩
 |dref _ _ _ _ hk _=>simp[TP,hk]at he
 |_=>simp[TP]at he
def flat (f:Nat->Nat->Value) (n sz:Nat):List Value:=(List.range (n*sz)).map λq=>f (q/sz) (q % sz)
def zP (f:Nat->Nat->Value) (n sz:Nat):(flat f n sz).length=n*sz:=by simp[flat]
def HY (f:Nat->Nat->Value) {n sz q:Nat} (h:q<n*sz):(flat f n sz)[q]? =some (f (q/sz) (q % sz)):=by simp[flat,h]
def qM (f:Nat->Nat->Value) {n sz i j:Nat} (hi:i<n) (hj:j<sz):(flat f n sz)[i*sz+j]? =some (f i j):=by
 have h1:i*sz+j<n*sz:=by
  have:=yA0 sz (show i+1<=n by omega);rw[yBi,yCe]at this;omega
 rw[HY f h1];have h2:(i*sz+j)/sz=i:=Nat.div_eq_of_lt_le (by omega) (by rw[yBi,yCe];omega);have h3:(i*sz+j) % sz=j:=by rw[yE0,yE8];exact yC6 hj
 rw[h2,h3]
theorem Src.flat {w:World} {D:Nat->Prop} {h:yG} {β:uG} {ne:Bool} {ys:List AV} {sz b o:Nat} {f:Nat->Nat->Value} (hS:Src w D h β ne ys sz b o f) (hp:1<=sz):
  (∀j u,(Av.flat f ys.length sz)[j]? =some u->w.cell? ((⟨b,o,none⟩:Addr).add j)=some u)/\∀u∈Av.flat f ys.length sz,u.oneCell'=true:=by
 have key:∀j,j<ys.length*sz->j/sz<ys.length/\j % sz<sz/\j/sz*sz+j % sz=j:=λj hj=>
  ⟨(Nat.div_lt_iff_lt_mul (by omega)).2 hj,yGh _ (by omega),by rw[yE0];exact Nat.div_add_mod j sz⟩
 refine⟨λj u hu=>?_,λu hu=>?_⟩
 ·have hj:j<ys.length*sz:=by rw[<-zP f ys.length sz];exact(yA5.1 hu).1
  rw[HY f hj]at hu;cases hu;obtain⟨h1,h2,h3⟩:=key j hj;have:=hS.cell _ _ h1 h2;rw[YA]
  rwa [yFk,h3]at this
 ·obtain⟨j,hu⟩:=yD9 hu;have hj:j<ys.length*sz:=by rw[<-zP f ys.length sz];exact(yA5.1 hu).1
  rw[HY f hj]at hu;cases hu;obtain⟨h1,h2,_⟩:=key j hj;exact hS.one _ _ h1 h2
section runs
variable {P:Program} {TT:List TI} (hP:uJ P TT) {T e:Nat} {ti te:TI} (hT:TT[T]? =some ti) (hd:ti.d= .slice e) (he:TT[e]? =some te) (w:World)
include hP hT hd he
def wU:∃(i:TypeInfo) (z:Value),P.underlying T=some (.slice e)/\P.info? e=some i/\i.zero=some z/\i.size=te.size/\i.bytes=te.bytes/\z.cells.toList=te.zero:=by
 obtain⟨_,u,_,_,hu,_,hd',_⟩:=uC (hP _ _ hT);obtain rfl:=vP (hd'.symm.trans hd);obtain⟨i,_,z,hi,_,hz,_,hs,hb,hzz⟩:=uC (hP _ _ he);exact⟨i,z,hu,hi,hz,hs.symm,hb.symm,hzz.symm⟩
def jM (ty:Nat) (b b':Option Addr) (n cap cap':Nat) (hc:n<=cap):(Builtin.append_ #[T,T] ty #[.slice b n cap,.slice b' 0 cap']).run P w= .ok (.slice b n cap) w:=by
 obtain⟨i,z,hu,hi,hz,_⟩:=wU hP hT hd he
 have h1:(Builtin.firstCells i.size 0 (.slice b' 0 cap')).run P w= .ok #[] w:=by
  cases b' with
  |none=>rfl
  |some a=>simp only[Builtin.firstCells,loadCells,yEe,loadCellsFrom];rfl
 cases b with
 |none=>simp[Builtin.append_,run_underlying hu,sizeOf,typeInfo,hi,Builtin.lenOf,hc,h1]
 |some a=>simp[Builtin.append_,run_underlying hu,sizeOf,typeInfo,hi,Builtin.lenOf,hc,h1,storeCells]
def cV (ty:Nat) (g o n cap:Nat) (cur:Array Value) (el:Nat) (hg:w.heap[g]? =some (.cells cur el (0,0))) (a:Addr) (m c:Nat) (news:List Value) (hl:news.length=m*te.size)
  (hnews:∀j u,news[j]? =some u->w.cell? (a.add j)=some u) (h1:∀u∈news,u.oneCell'=true) (hroom:n+m<=cap) (hfit:o+n*te.size+news.length<=cur.size):
  (Builtin.append_ #[T,T] ty #[.slice (some ⟨g,o,none⟩) n cap,.slice (some a) m c]).run P w=
   .ok (.slice (some ⟨g,o,none⟩) (n+m) cap) (w.setRow g (cur.toList.take (o+n*te.size)++news++cur.toList.drop (o+n*te.size+news.length)).toArray):=by
 obtain⟨i,z,hu,hi,hz,hs,_⟩:=wU hP hT hd he;rw[<-hs]at hl hfit⊢;have hf:=run_firstCells_some (P:=P) w i.size m a m c news hl hnews;have hst:=run_storeCells_at P g (o+n*i.size) el news 0 cur w hg (by simpa using hfit) h1;simp only[yDm]at hst;simp[Builtin.append_,run_underlying hu,sizeOf,typeInfo,hi,Builtin.lenOf,hroom,hf,YA,hst]
end runs
section ops
variable {P:Program} {TT:List TI} {st:St}
def gT {ne:Bool} {h h':yG} {x:AV} (H:∀k,k∈OD x->h k=h' k):TP ne h x=TP ne h' x:=by
 cases x with
 |ref k off len=>simp only[TP];rw[H k (by simp[OD])]
 |_=>rfl
theorem YB (hP:uJ P TT) {T e:Nat} {s x:Operand} {ti te:TI} {xv:AV} {ys:List AV} (kn:Nat) (hs:yO (zG st.tm) s= .s (.slice none 0 0)) (hx:yO (zG st.tm) x=xv) (hT:TT[T]? =some ti) (hd:ti.d= .slice e) (he:TT[e]? =some te)
  (hys:CI (zD st.h) xv=some ys) (hsz:∀y,ys[0]? =some y->y.cells.length=te.size) (hp:Nat.ble 1 te.size=true) (hb:Nat.ble te.bytes 65536=true) (hz:Nat.beq te.zero.length te.size=true) (hz1:te.zero.all (·.oneCell')=true) (hn:ys.length<=1073741824):
  wS P st (.call ⟨.builtin .append, #[s,x], #[T,T]⟩) (.ref kn 0 ys.length) [(kn,.arr te.size ys false)] (OD xv) [kn]:=by
 refine⟨?_⟩;intro X tm h hg hr hnw o a w β ho HH Ht;obtain⟨d0,o0,y0,p0,f0,g0⟩:=o;dsimp only at ho;subst ho;have hkn:=hnw kn zS;have h1:=vO Ht hg (x:=s) qX hs;have h2:=gA Ht hg (x:=x) qX hx;have hp:=yAv hp;have hb:=yAv hb;obtain⟨ad,cap,hc,_,hmax,hsrc⟩:=cP HH h2 ((gT hr).trans hys) hsz;obtain⟨i,z,hu,hi,hzz,e1,e2,e3⟩:=wU hP hT hd he;have hz:=yBd hz
 have hop:∀{v w'},(Builtin.append_ #[T,T] y0 #[.slice none 0 0,a.eval x]).run P w= .ok v w'->(execOp a.eval ⟨d0,.call ⟨.builtin .append, #[s,x], #[T,T]⟩,y0,p0,f0,g0⟩).run P w= .ok (.value v) w':=λhv=>by
  simp[execOp,resolve,invoke,builtin,h1,hv]
 by_cases hnil:ys=[]
 ·subst hnil;rw[hop (by rw[hc];exact jM hP hT hd he w y0 none ad 0 0 cap (yAg _))]
  refine⟨cN β kn [],xN.step HH kn _ _ (yAg _) (λ_ _ _=>rfl) Z Z Z (λb n hm=>by simp at hm) (λ_ _ _=>rfl) (λe he=>by rw[hkn]at he;cases he) (λE=>⟨hp,by simp,λh=>absurd Z h,λi y hy=>by simp at hy,
   λb n r hr=>by rw[zW]at hr;simp at hr,λ_ _=>undef,λi y j v hy _=>by simp at hy,λi j hi _=>by simp at hi,λb n hm=>by rw[zW]at hm;simp at hm⟩),.ref0 kn 0 _ _ _ _ (qL _ _ _) zS⟩
 ·obtain⟨b,q,f,rfl,hS⟩:=hsrc hnil
  have hpos:0<ys.length:=by cases ys with|nil=>exact absurd Z hnil|cons _ _=>simp
  obtain⟨hf1,hf2⟩:=hS.flat hp
  have hbytes:ys.length*i.bytes<=281474976710656:=by
   have:=yDn hn (show i.bytes<=65536 by omega);omega
  have hrun:=run_append_nil (P:=P) w T y0 e i z hu hi hzz ⟨b,q,none⟩ ys.length cap (flat f ys.length te.size) (by rw[zP,e1]) hf1 hpos (by unfold cA at hmax;omega) hbytes;rw[hop (by rw[hc];exact hrun)];have HD:=HH.drew (w.drawn+1);have hzs:z.cells.size=te.zero.length:=by rw[<-e3];simp
  have hge:=grownCap_ge w ys.length 0 e
  obtain⟨β',G,hv⟩:=xN.newArr HD hkn ((flat f ys.length te.size).toArray++Builtin.zeroCells z.cells (grownCap w ys.length 0 e-ys.length)) e te.size ys (grownCap w ys.length 0 e) f hp hmax hge (by
    simp only[yFh,yDf,zP,size_zeroCells,hzs,hz,<-yBi]
    congr 1;omega) (qD.get ((qD.arr hf2).app (qD.zero (λv hv=>yAu.1 hz1 v NU) _))) hS.wide
   (λi j hi hj=>by
    rw[yCi (by simp[zP];have:=yA0 te.size (show i+1<=ys.length by omega);rw[yBi,yCe]at this;omega)]
    simpa using qM f hi hj) hS.one (λi y j v hy hv=>xH.evo (w:=w) (w':={w with drawn:=w.drawn+1}) (yAg _) (λ_ _ hd=>⟨rfl,hd⟩) (hS.rep.toF Z i y j v hy hv))
  exact⟨β',xN.trans HH (xN.drew HH (w.drawn+1)) G,hv⟩
def QZ (hP:uJ P TT) {T e:Nat} {s x:Operand} {ti te:TI} {xv:AV} {ys:List AV} (hs:yO (zG st.tm) s= .s (.slice none 0 0)) (hx:yO (zG st.tm) x=xv) (hT:TT[T]? =some ti) (hd:ti.d= .slice e) (he:TT[e]? =some te)
  (hys:CI (zD st.h) xv=some ys) (hsz:∀y,ys[0]? =some y->y.cells.length=te.size) (hp:Nat.ble 1 te.size=true) (hb:Nat.ble te.bytes 65536=true) (hz:Nat.beq te.zero.length te.size=true) (hn:ys.length<=1073741824):
  wS P st (.call ⟨.builtin .append, #[s,x], #[T,T]⟩) (.sl false ys) [] (OD xv) []:=by
 refine⟨?_⟩;intro X tm h hg hr _ o a w β ho HH Ht;obtain⟨d0,o0,y0,p0,f0,g0⟩:=o;dsimp only at ho;subst ho;have h1:=vO Ht hg (x:=s) qX hs;have h2:=gA Ht hg (x:=x) qX hx;have hp:=yAv hp;have hb:=yAv hb;obtain⟨ad,cap,hc,_,hmax,hsrc⟩:=cP HH h2 ((gT hr).trans hys) hsz;obtain⟨i,z,hu,hi,hzz,e1,e2,e3⟩:=wU hP hT hd he;have hz:=yBd hz
 have hop:∀{v w'},(Builtin.append_ #[T,T] y0 #[.slice none 0 0,a.eval x]).run P w= .ok v w'->(execOp a.eval ⟨d0,.call ⟨.builtin .append, #[s,x], #[T,T]⟩,y0,p0,f0,g0⟩).run P w= .ok (.value v) w':=λhv=>by
  simp[execOp,resolve,invoke,builtin,h1,hv]
 by_cases hnil:ys=[]
 ·subst hnil;rw[hop (by rw[hc];exact jM hP hT hd he w y0 none ad 0 0 cap (yAg _))];rw[dP];exact⟨β,xN.refl HH,.fz _ _ (.nil _ _)⟩
 ·obtain⟨b,q,f,rfl,hS⟩:=hsrc hnil
  have hpos:0<ys.length:=by cases ys with|nil=>exact absurd Z hnil|cons _ _=>simp
  obtain⟨hf1,hf2⟩:=hS.flat hp
  have hbytes:ys.length*i.bytes<=281474976710656:=by
   have:=yDn hn (show i.bytes<=65536 by omega);omega
  have hrun:=run_append_nil (P:=P) w T y0 e i z hu hi hzz ⟨b,q,none⟩ ys.length cap (flat f ys.length te.size) (by rw[zP,e1]) hf1 hpos (by unfold cA at hmax;omega) hbytes;rw[hop (by rw[hc];exact hrun)];have HD:=HH.drew (w.drawn+1);have hzs:z.cells.size=te.zero.length:=by rw[<-e3];simp
  have hge:=grownCap_ge w ys.length 0 e;have G:=xN.newFz HD ((flat f ys.length te.size).toArray++Builtin.zeroCells z.cells (grownCap w ys.length 0 e-ys.length)) e
  have hv:=xH.newArr HD ((flat f ys.length te.size).toArray++Builtin.zeroCells z.cells (grownCap w ys.length 0 e-ys.length)) e te.size ys (grownCap w ys.length 0 e) f hp hmax hge hS.wide
   (λi j hi hj=>by
    rw[yCi (by simp[zP];have:=yA0 te.size (show i+1<=ys.length by omega);rw[yBi,yCe]at this;omega)]
    simpa using qM f hi hj) hS.one (λi y j v hy hv=>xH.evo (w:=w) (w':={w with drawn:=w.drawn+1}) (yAg _) (λ_ _ hd=>⟨rfl,hd⟩) (hS.rep.toF Z i y j v hy hv))
  rw[dP];refine⟨β,xN.trans HH (xN.drew HH (w.drawn+1)) G,.fz _ _ hv.wkF⟩
theorem uE (st' ne:Bool) (hP:uJ P TT) {T e:Nat} {s x:Operand} {ti te:TI} {k sz:Nat} {xs:List AV} {sl:Fl} {xv:AV} {ys:List AV} (hs:yO (zG st.tm) s= .ref k 0 xs.length) (hk:zD st.h k=some (.arr sz xs sl)) (hx:yO (zG st.tm) x=xv) (hT:TT[T]? =some ti) (hd:ti.d= .slice e) (he:TT[e]? =some te)
    (hsl:ne=false->sl.nest=false) (hys:TP ne (zD st.h) xv=some ys) (hsz:∀y,ys[0]? =some y->y.cells.length=sz) (hss:Nat.beq sz te.size=true) (hb:Nat.ble te.bytes 65536=true) (hz:Nat.beq te.zero.length te.size=true) (hz1:te.zero.all (·.oneCell')=true) (hn:xs.length+ys.length<=1073741824) (hst:st'=false->xs=[]):
    wS P st (.call ⟨.builtin .append, #[s,x], #[T,T]⟩) (.ref k 0 (xs++ys).length) [(k,.arr sz (xs++ys) ⟨st',ne⟩)] (k::OD xv) []:=by
  refine⟨?_⟩;intro X tm h hg hr _ o a w β ho HH Ht;obtain⟨d0,o0,y0,p0,f0,g0⟩:=o;dsimp only at ho;subst ho;have hk':=(hr k zS).trans hk;have h1:=gA Ht hg (x:=s) qX hs;have h2:=gA Ht hg (x:=x) qX hx;have hss:=yBd hss;have hb:=yAv hb;have hz:=yBd hz;obtain⟨g1,g2,g3,g4,g5,fs,g6,g7,g8⟩:=HH.ent k _ hk';obtain⟨ad,cap,hc,_,hmax,hsrc⟩:=cP HH h2 ((gT λk' hk=>hr k' (by simp[hk])).trans hys) hsz;obtain⟨i,z,hu,hi,hzz,e1,e2,e3⟩:=wU hP hT hd he;have hlen:(xs++ys).length=xs.length+ys.length:=by simp
  have hdr:∃bd cp,a.eval s= .slice bd xs.length cp/\xs.length<=cp/\((∃b,bd=some ⟨b,0,none⟩/\(b,xs.length)∈β k/\cp*sz=wH w b)∨(xs=[]/\cp=0)):=by
    generalize a.eval s=cs at h1;generalize hL:xs.length=L at h1
    cases h1 with
    |fz _ _ hf=>cases hf
    |dref _ _ _ _ hd _=>rw[hk']at hd;cases hd
    |ref0 _ _ _ _ _ bd _ _=>exact⟨bd,0,rfl,yAg _,.inr ⟨yBb hL,rfl⟩⟩
    | ref _ _ _ sz' xs' st' b n cp hk'' hb hn hc hs'=>
      have h3:=hk'';rw[hk']at h3;cases h3;subst hL
      have hnx:n=xs.length:=by
        cases hbk:β k with
        |nil=>rw[hbk]at hb;simp at hb
        | cons q rr=>
          obtain⟨b0,n0⟩:=q;obtain⟨e1,_,e3⟩:=g5 b0 n0 rr hbk;rw[hbk]at hb;simp at hb
          rcases hb with⟨_,rfl⟩|hb
          · exact e1
          · have:=e3 b n hb;omega
      subst hnx;exact⟨_,cp,by rw[yEe],hc,.inl ⟨b,rfl,hb,by rwa [yBv]at hs'⟩⟩
  obtain⟨bd,cp,hcs,hcp,hdr⟩:=hdr
  have hop:∀{v w'},(Builtin.append_ #[T,T] y0 #[a.eval s,a.eval x]).run P w= .ok v w'->(execOp a.eval ⟨d0,.call ⟨.builtin .append, #[s,x], #[T,T]⟩,y0,p0,f0,g0⟩).run P w= .ok (.value v) w':=λhv=>by
    simp[execOp,resolve,invoke,builtin,hv]
  rw[hlen];by_cases hnil:ys=[]
  ·
    subst hnil;rw[hop (by rw[hcs,hc];exact jM hP hT hd he w y0 bd ad xs.length cp cap hcp)]
    have G:=xN.step (w':=w) HH k (.arr sz (xs++[]) ⟨st',ne⟩) (β k) (yAg _) (λ_ _ _=>rfl) Z Z Z (λb n hm=> .inl ⟨n,hm⟩) (λ_ _ _=>rfl) (λe he=>by rw[hk']at he;cases he;exact .inr ⟨⟨_,_,rfl,by simp⟩,λ_ n hm=>⟨n,yAg _,hm⟩⟩)
      (λE=>⟨g1,by simpa using g2,λh=>by rw[zW];exact g3 TJ,λi y hy=>g4 i y (by simpa using hy),λb n r hr=>by
        rw[zW]at hr;obtain⟨q1,_,q3⟩:=g5 b n r hr
        exact⟨by simpa using q1,λh b' n' hm=>by have:=q3 b' n' hm;rw[hst h]at this;simp at this,by simpa using q3⟩,fs,λi y j v hy hv=>⟨(g6.toV i y j v (by simpa using hy) hv).evo E,λhn=>(g6.toF (hsl hn) i y j v (by simpa using hy) hv).evo E.size E.fz⟩,λi j hi hj=>g7 i j DT hj,λb n hm=>by rw[zW]at hm;exact g8 b n hm⟩)
    exact⟨_,G,(hcs▸h1:zY w (xP X β) h β (.ref k 0 xs.length) (.slice bd xs.length cp)).evo G.evo⟩
  · obtain ⟨b2, q,f,rfl,hS⟩:=hsrc hnil
    have hpos:0<ys.length:=by cases ys with|nil=>exact absurd Z hnil|cons _ _=>simp
    obtain⟨hf1,hf2⟩:=hS.flat g1
    have hbk:β k=[]∨∃b0 rr,β k=(b0,xs.length)::rr:=by
      cases hbk:β k with
      |nil=>exact .inl Z
      |cons q rr=>obtain⟨b0,n0⟩:=q;obtain⟨q1,_⟩:=g5 b0 n0 rr hbk;exact .inr ⟨b0,rr,by rw[q1]⟩
    let f':Nat->Nat->Value:=λi j=>if i<xs.length then fs i j else f (i-xs.length) j
    have hat:∀(i:Nat) y,(xs++ys)[i]? =some y->(i<xs.length/\xs[i]? =some y)∨(¬i<xs.length/\ys[i-xs.length]? =some y):=λi y hy=>by
      by_cases hi:i<xs.length
      · rw[yA9 hi]at hy;exact .inl ⟨hi,hy⟩
      · rw[yA4 (by omega)]at hy;exact .inr ⟨hi,hy⟩
    have hwide:∀(i:Nat) (y:AV),(xs++ys)[i]? =some y->y.cells.length=sz:=λi y hy=>by
      rcases hat i y hy with⟨_,h⟩|⟨_,h⟩
      · exact g4 i y h
      · exact hS.wide _ y h
    have hone:∀i j,i<(xs++ys).length->j<sz->(f' i j).oneCell'=true:=λi j hi hj=>by
      simp only[f'];split
      · exact g7 i j ‹_› hj
      · exact hS.one _ _ (by rw[hlen]at hi;omega) hj
    have hrep:∀{w':World} {D':Nat->Prop} {h':yG} {β':uG},FK w (xP X β) h β w' D' h' β'->jP w' D' h' β' ne (xs++ys) f':=λE i y j v hy hv=>by
      simp only[f']
      rcases hat i y hy with⟨hi,h⟩|⟨hi,h⟩
      · rw[yAd hi];exact⟨(g6.toV i y j v h hv).evo E,λhn=>(g6.toF (hsl hn) i y j v h hv).evo E.size E.fz⟩
      · rw[yAc hi];exact⟨(hS.rep.toV _ y j v h hv).evo E,λhn=>(hS.rep.toF hn _ y j v h hv).evo E.size E.fz⟩
    by_cases hroom:xs.length+ys.length<=cp
    ·
      rcases hdr with⟨b,rfl,hm,hbs⟩|⟨hx0,hc0⟩
      case inr=>omega
      obtain⟨cur,el,c1,c2,c3,c4⟩:=g8 b _ hm
      have hcb:cp*sz<=cur.size:=by
        have:wH w b=cur.size:=by unfold wH World.shape?;rw[c1];rfl
        omega
      have hfit:(xs.length+ys.length)*sz<=cur.size:=yBn (yA0 _ hroom) hcb
      have hrun:=cV hP hT hd he w y0 b 0 xs.length cp cur el c1 ⟨b2,q,none⟩ ys.length cap (flat f ys.length sz) (by rw[zP,hss]) hf1 hf2 hroom (by
        rw[zP,<-hss,yBv,<-yBi];exact hfit)
      rw[hop (by rw[hcs,hc];exact hrun)];generalize hcur':(cur.toList.take (0+xs.length*te.size)++flat f ys.length sz++cur.toList.drop (0+xs.length*te.size+(flat f ys.length sz).length)).toArray=cur'
      have hsz':cur'.size=cur.size:=by
        rw[<-hcur'];simp only[yDf,yAf,yAw,yA7,yDc,zP,yBv,<-hss];rw[yBi]at hfit;omega
      have hone2:∀q,q<cur'.size->(cur'.getD q undef).oneCell'=true:=by
        rw[<-hcur'];refine qD.get (qD.arr λv hv=>?_);have hc4:=qD.of c4
        rcases yAz.1 hv with hv|hv
        · rcases yAz.1 hv with hv|hv
          · exact hc4 v (yBy hv)
          · exact hf2 v hv
        · exact hc4 v (yBc hv)
      have hcell:∀i j,i<xs.length+ys.length->j<sz->cur'[i*sz+j]? =some (f' i j):=λi j hi hj=>by
        rw[<-hcur'];simp only[f',yDb,yBv,<-hss];rw[yBi]at hfit;by_cases hix:i<xs.length
        · have hlt:i*sz+j<xs.length*sz:=by
            have:=yA0 sz (show i+1<=xs.length by omega);rw[yBi,yCe]at this;omega
          rw[yAd hix,yA9 wF,yA9 wF,yBr,yAd hlt];simpa using c3 i j hix hj
        · have hge:xs.length*sz<=i*sz:=yA0 _ (by omega);have e4:i*sz+j-xs.length*sz=(i-xs.length)*sz+j:=by rw[yFj];omega
          have hlt:(i-xs.length)*sz+j<ys.length*sz:=by
            have:=yA0 sz (show(i-xs.length)+1<=ys.length by omega);rw[yBi,yCe]at this;omega
          rw[yAc hix,yA9 (by simp[zP];omega),yA4 wF];have e5:(List.take (xs.length*sz) cur.toList).length=xs.length*sz:=by simp;omega
          rw[e5,e4];exact qM f (by omega) hj
      obtain⟨b0,rr,hbk⟩:=hbk.resolve_left (λh0=>by rw[h0]at hm;simp at hm)
      have hb0:b0=b:=by
        rw[hbk]at hm;simp at hm
        rcases hm with rfl|hm
        · rfl
        · have:=(g5 b0 _ rr hbk).2.2 b _ hm;omega
      subst hb0
      have G := xN.step (w' := w.setRow b0 cur') HH k (.arr sz (xs++ys) ⟨st',ne⟩) ((b0,xs.length+ys.length)::rr) zS (λj hj hn=>setRow_other w b0 j cur' (λe=>hn xs.length DY)) Z Z Z
        (λb n hm=>by
          simp at hm
          rcases hm with⟨rfl,_⟩|hm
          · exact .inl ⟨xs.length,by rw[hbk];simp⟩
          · exact .inl ⟨n,by rw[hbk];simp[hm]⟩) (λb n _=>uZ c1 hsz' b)
        (λe he=>by
          rw[hk']at he;cases he;refine .inr ⟨⟨_,_,rfl,by rw[hlen];omega⟩,λb n hm=>?_⟩;rw[hbk]at hm;simp at hm
          rcases hm with⟨rfl,rfl⟩|hm
          · exact⟨xs.length+ys.length,by omega,by simp⟩
          · exact⟨n,yAg _,by simp[hm]⟩)
        (λE=>⟨g1,by rw[hlen];unfold cA;omega,λ_=>by rw[zW];simp,hwide,λb n r hr=>by
          rw[zW]at hr;simp at hr;obtain⟨⟨rfl,rfl⟩,rfl⟩:=hr
          exact⟨hlen.symm,λh b' n' hm=>by have:=(g5 b0 _ rr hbk).2.2 b' n' hm;rw[hst h]at this;simp at this,λb' n' hm=>by have:=(g5 b0 _ rr hbk).2.2 b' n' hm;rw[hlen];omega⟩,f',hrep E,hone,λb n hm=>by
          rw[zW]at hm;simp at hm;by_cases hbb:b=b0
          · subst hbb
            have hnn:n<=xs.length+ys.length:=by
              rcases hm with⟨_,rfl⟩|hm
              · omega
              · have:=(g5 b _ rr hbk).2.2 b n hm;omega
            exact⟨cur',el,setRow_heap w _ _ _ _ _ c1,by rw[hsz'];exact yBn (yA0 _ hnn) hfit,λi j hi hj=>hcell i j (by omega) hj,hone2⟩
          · have hm : (b, n) ∈ rr := by rcases hm with⟨h,_⟩|hm;· exact absurd h hbb
                                        · exact hm
            obtain⟨c',el',d1,d2,d3,d4⟩:=g8 b n (by rw[hbk];simp[hm]);have hnn:=(g5 b0 _ rr hbk).2.2 b n hm
            exact⟨c',el',(setRow_other w b0 b cur' hbb).trans d1,d2,λi j hi hj=>by simp only[f'];rw[yAd (by omega)];exact d3 i j hi hj,d4⟩⟩)
      refine⟨_,G,?_⟩
      have:=zY.ref (w:=w.setRow b0 cur') (D:=xP X (cN β k ((b0,xs.length+ys.length)::rr))) (h:=over [(k,.arr sz (xs++ys) ⟨st',ne⟩)] h) (β:=cN β k ((b0,xs.length+ys.length)::rr)) k 0 (xs.length+ys.length) sz (xs++ys) ⟨st',ne⟩ b0 (xs.length+ys.length) cp (qL _ _ _)
        (by rw[zW];simp) (by omega) hroom (by rw[uZ c1 hsz',yBv];exact hbs)
      rwa [yEe]at this
    ·
      have hbytes:(xs.length+ys.length)*i.bytes<=140737488355328:=by
        have:=yDn hn (show i.bytes<=65536 by omega);omega
      have hge:=grownCap_ge w (xs.length+ys.length) cp e;have hzs:z.cells.size=te.zero.length:=by rw[<-e3];simp
      have hgrow:∃olds:List Value,(∀u∈olds,u.oneCell'=true)/\olds.length=xs.length*sz/\(∀i j,i<xs.length->j<sz->olds[i*sz+j]? =some (fs i j))/\
          (Builtin.append_ #[T,T] y0 #[.slice bd xs.length cp,.slice (some ⟨b2,q,none⟩) ys.length cap]).run P w= .ok (.slice (some ⟨w.heap.size,0,none⟩) (xs.length+ys.length) (grownCap w (xs.length+ys.length) cp e))
            (w.drew.alloc (.cells (olds.toArray++(flat f ys.length sz).toArray++Builtin.zeroCells z.cells (grownCap w (xs.length+ys.length) cp e-(xs.length+ys.length))) e)):=by
        rcases hdr with⟨b,rfl,hm,_⟩|⟨rfl,rfl⟩
        · obtain⟨cur,el,c1,c2,c3,_⟩:=g8 b _ hm;have hS0:Src w (xP X β) h β ne xs sz b 0 fs:=⟨g4,λi j hi hj=>by rw[uH c1,yBv];exact c3 i j hi hj,g7,λi x j v hx hv=>⟨g6.toV i x j v hx hv,λhn=>g6.toF (hsl hn) i x j v hx hv⟩⟩;obtain⟨q1,q2⟩:=hS0.flat g1;exact⟨flat fs xs.length sz,q2,zP _ _ _,λi j hi hj=>qM fs hi hj,run_append_grow (P:=P) w T y0 e i z hu hi hzz ⟨b,0,none⟩ xs.length cp (flat fs xs.length sz) (by rw[zP,hss,e1]) q1 ⟨b2,q,none⟩ ys.length cap (flat f ys.length sz) (by rw[zP,hss,e1]) hf1 (by omega) (by omega) (growslice_fits (by omega) hbytes)⟩
        · refine⟨[],(λu hu=>by simp at hu),by simp,λi j hi _=>by simp at hi,?_⟩
          cases bd with
          | none=>
            have:=run_append_nil (P:=P) w T y0 e i z hu hi hzz ⟨b2,q,none⟩ ys.length cap (flat f ys.length sz) (by rw[zP,hss,e1]) hf1 hpos (by omega) (by simp only[yBk,yBv]at hbytes;omega);simpa using this
          | some ad=>
            have:=run_append_grow (P:=P) w T y0 e i z hu hi hzz ad 0 0 [] zS zS ⟨b2,q,none⟩ ys.length cap (flat f ys.length sz) (by rw[zP,hss,e1]) hf1 (by omega) (by omega) (growslice_fits (by omega) (by simpa using hbytes));simpa using this
      obtain⟨olds,ho0,ho1,ho2,hrun⟩:=hgrow;rw[hop (by rw[hcs,hc];exact hrun)];generalize hgc:grownCap w (xs.length+ys.length) cp e=gc at *;generalize hcur':olds.toArray++(flat f ys.length sz).toArray++Builtin.zeroCells z.cells (gc-(xs.length+ys.length))=cur'
      have hone2:∀q,q<cur'.size->(cur'.getD q undef).oneCell'=true:=by
        rw[<-hcur'];exact qD.get (((qD.arr ho0).app (qD.arr hf2)).app (qD.zero (λv hv=>yAu.1 hz1 v NU) _))
      have hsz':cur'.size=gc*sz:=by
        rw[<-hcur'];simp only[yFh,yDf,zP,size_zeroCells,hzs,hz,<-hss,ho1,<-yBi]
        congr 1
        omega
      have hcell:∀i j,i<xs.length+ys.length->j<sz->cur'[i*sz+j]? =some (f' i j):=λi j hi hj=>by
        have hlt:i*sz+j<(xs.length+ys.length)*sz:=by
          have:=yA0 sz (show i+1<=xs.length+ys.length by omega);rw[yBi,yCe]at this;omega
        rw[yBi]at hlt;rw[<-hcur',yCi (by simp[zP,ho1];omega)];simp only[f'];by_cases hix:i<xs.length
        · have hlt:i*sz+j<xs.length*sz:=by
            have:=yA0 sz (show i+1<=xs.length by omega);rw[yBi,yCe]at this;omega
          rw[yAd hix,yCi (by simp[ho1];omega)];simpa using ho2 i j hix hj
        · have hge:xs.length*sz<=i*sz:=yA0 _ (by omega);have e4:i*sz+j-xs.length*sz=(i-xs.length)*sz+j:=by rw[yFj];omega
          rw[yAc hix,yEd (by simp[ho1];omega)];simp only[yDf,ho1,e4,yDb];exact qM f (by omega) hj
      have HD:=HH.drew (w.drawn+1);have dr:∀{w':World} {D':Nat->Prop} {h':yG} {β':uG},FK w.drew (xP X β) h β w' D' h' β'->FK w (xP X β) h β w' D' h' β':=λE=>⟨E.size,E.fz,E.bs,E.key⟩
      have hgt:=grownCap_ge w (xs.length+ys.length) cp e;have hone':=hone
      have G := xN.step (w:=w.drew) (w':=w.drew.alloc (.cells cur' e)) HD k (.arr sz (xs++ys) ⟨st',ne⟩) ((w.heap.size,xs.length+ys.length)::β k) zS (λj hj _=>heap_alloc_old w.drew _ j hj) Z Z Z
        (λb n hm=>by
          simp at hm
          rcases hm with⟨rfl,_⟩|hm
          · exact .inr zS
          · exact .inl ⟨n,hm⟩) (λb n hm=>by
          unfold wH World.shape?
          rw[heap_alloc_old w.drew _ b (HH.lt b (.inr ⟨k,n,hm⟩))])
        (λe he=>by
          rw[hk']at he;cases he
          exact .inr ⟨⟨_,_,rfl,by rw[hlen];omega⟩,λb n hm=>⟨n,yAg _,by simp[hm]⟩⟩)
        (λE=>⟨g1,by rw[hlen];unfold cA;omega,λ_=>by rw[zW];simp,hwide,λb n r hr=>by
          rw[zW]at hr;simp at hr;obtain⟨⟨rfl,rfl⟩,rfl⟩:=hr;refine⟨hlen.symm,λh b' n' hm=>?_,λb' n' hm=>?_⟩
          · have hx0:xs.length=0:=by rw[hst h];rfl
            rcases hbk with h0|⟨b0,rr,h0⟩
            · rw[h0]at hm;simp at hm
            · rw[h0]at hm;simp at hm
              rcases hm with⟨_,rfl⟩|hm
              · exact hx0
              · have:=(g5 b0 _ rr h0).2.2 b' n' hm;omega
          rw[hlen]
          rcases hbk with h0|⟨b0,rr,h0⟩
          · rw[h0]at hm;simp at hm
          · rw[h0]at hm;simp at hm
            rcases hm with⟨_,rfl⟩|hm
            · omega
            · have:=(g5 b0 _ rr h0).2.2 b' n' hm;omega,f',hrep (w':=w.drew.alloc (.cells cur' e)) (dr E),hone',λb n hm=>by
          rw[zW]at hm;simp at hm
          rcases hm with⟨rfl,rfl⟩|hm
          · exact⟨cur',e,heap_alloc_new w.drew _,by rw[hsz'];exact yA0 _ (by omega),λi j hi hj=>hcell i j hi hj,hone2⟩
          · obtain⟨c',el',d1,d2,d3,d4⟩:=g8 b n hm
            have hnn:n<=xs.length:=by
              rcases hbk with h0|⟨b0,rr,h0⟩
              · rw[h0]at hm;simp at hm
              · rw[h0]at hm;simp at hm
                rcases hm with⟨_,rfl⟩|hm
                · omega
                · exact yFe ((g5 b0 _ rr h0).2.2 b n hm)
            exact⟨c',el',(heap_alloc_old w.drew _ b (HH.lt b (.inr ⟨k,n,hm⟩))).trans d1,d2,λi j hi hj=>by simp only[f'];rw[yAd (by omega)];exact d3 i j hi hj,d4⟩⟩)
      refine⟨_,xN.trans HH (xN.drew HH (w.drawn+1)) G,?_⟩
      have:=zY.ref (w:=w.drew.alloc (.cells cur' e)) (D:=xP X (cN β k ((w.heap.size,xs.length+ys.length)::β k))) (h:=over [(k,.arr sz (xs++ys) ⟨st',ne⟩)] h) (β:=cN β k ((w.heap.size,xs.length+ys.length)::β k)) k 0 (xs.length+ys.length) sz (xs++ys) ⟨st',ne⟩ w.heap.size (xs.length+ys.length) gc (qL _ _ _)
        (by rw[zW];simp) (by omega) (by omega) (by
          have:wH (w.drew.alloc (.cells cur' e)) w.heap.size=cur'.size:=by
            unfold wH World.shape?;rw[show(w.drew.alloc (.cells cur' e)).heap[w.heap.size]? =_ from heap_alloc_new w.drew _];rfl
          rw[this,hsz',yBv])
      rwa [yEe]at this
def NW (hP:uJ P TT) {T e:Nat} {s x:Operand} {ti te:TI} {k sz:Nat} {xs:List AV} {sb:Bool} {xv:AV} {ys:List AV} (hs:yO (zG st.tm) s= .ref k 0 xs.length) (hk:zD st.h k=some (.arr sz xs ⟨sb,false⟩)) (hx:yO (zG st.tm) x=xv) (hT:TT[T]? =some ti) (hd:ti.d= .slice e) (he:TT[e]? =some te)
  (hys:CI (zD st.h) xv=some ys) (hsz:∀y,ys[0]? =some y->y.cells.length=sz) (hss:Nat.beq sz te.size=true) (hb:Nat.ble te.bytes 65536=true) (hz:Nat.beq te.zero.length te.size=true) (hz1:te.zero.all (·.oneCell')=true) (hn:xs.length+ys.length<=1073741824):
  wS P st (.call ⟨.builtin .append, #[s,x], #[T,T]⟩) (.ref k 0 (xs++ys).length) [(k,.arr sz (xs++ys) true)] (k::OD xv) []:=
 uE true false hP hs hk hx hT hd he (λ_=>rfl) hys hsz hss hb hz hz1 hn (λh=>by cases h)
def PA (hP:uJ P TT) {T e:Nat} {s x:Operand} {ti te:TI} {k sz:Nat} {xs:List AV} {sl:Fl} {xv:AV} {ys:List AV} (hs:yO (zG st.tm) s= .ref k 0 xs.length) (hk:zD st.h k=some (.arr sz xs sl)) (hx:yO (zG st.tm) x=xv) (hT:TT[T]? =some ti) (hd:ti.d= .slice e) (he:TT[e]? =some te)
  (hys:TP true (zD st.h) xv=some ys) (hsz:∀y,ys[0]? =some y->y.cells.length=sz) (hss:Nat.beq sz te.size=true) (hb:Nat.ble te.bytes 65536=true) (hz:Nat.beq te.zero.length te.size=true) (hz1:te.zero.all (·.oneCell')=true) (hn:xs.length+ys.length<=1073741824):
  wS P st (.call ⟨.builtin .append, #[s,x], #[T,T]⟩) (.ref k 0 (xs++ys).length) [(k,.arr sz (xs++ys) ⟨true,true⟩)] (k::OD xv) []:=
 uE true true hP hs hk hx hT hd he (λh=>by cases h) hys hsz hss hb hz hz1 hn (λh=>by cases h)
end ops
end
section
def NX (places:Nat->Option (Nat×Nat)):List AV->List (Nat×AV)->Option (List AV)
 |cells,[]=>some cells
 |cells,(i,v)::rest=>match places i with
  |none=>none
  |some (off,size)=>bif Nat.beq v.cells.length size&&(Nat.ble (off+size) cells.length&&v.ok)then NX places (TM cells off v.cells) rest else none
theorem NY {w:World} {D:Nat->Prop} {h:yG} {β:uG} (places:Nat->Option (Nat×Nat)):∀(parts:List (Nat×AV)) (parts':List (Nat×Value)) (cs:List AV) (c:Array Value) (cs':List AV),NX places cs parts=some cs'->
  parts'.length=parts.length->(∀(j:Nat) p p',parts[j]? =some p->parts'[j]? =some p'->p'.1=p.1/\zY w D h β p.2 p'.2)->
  c.size=cs.length->(∀i,i<c.size->(c.getD i undef).oneCell'=true)->(∀(i:Nat) u,cs[i]? =some u->zY w D h β u (c.getD i undef))->
  ∃c',Instr.fill places c parts'=some c'/\c'.size=cs'.length/\(∀i,i<c'.size->(c'.getD i undef).oneCell'=true)/\∀(i:Nat) u,cs'[i]? =some u->zY w D h β u (c'.getD i undef)
 | [],parts',cs,c,cs',hf,hl,_,h1,h2,h3=>by
  obtain rfl:parts'=[]:=yBb DV;cases hf;exact⟨c,rfl,h1,h2,h3⟩
 | (i, v)::rest,parts',cs,c,cs',hf,hl,hp,h1,h2,h3=>by
  cases parts' with
  |nil=>simp at hl
  | cons p' rest'=>
   obtain⟨e1,e2⟩:=hp 0 (i,v) p' Z Z;obtain⟨i',v'⟩:=p';dsimp only at e1 e2;subst e1;unfold NX at hf
   cases hpl:places i' with
   |none=>simp[hpl]at hf
   | some q=>
    obtain⟨off,size⟩:=q;simp only[hpl]at hf
    cases hc:Nat.beq v.cells.length size&&(Nat.ble (off+size) cs.length&&v.ok)with
    |false=>simp[hc]at hf
    | true=>
     simp only[hc,yBx]at hf;simp only[yAs]at hc;have q1:=yBd hc.1;have q2:=yAv hc.2.1;obtain⟨r1,r2,r3⟩:=e2.cells hc.2.2;obtain⟨s1,s2⟩:=Great.foldl_set off v'.cells.toList 0 c
     have hfold:v'.cells.zipIdx.foldl (λcs (x:Value×Nat)=>cs.setIfInBounds (off+x.2) x.1) c=(v'.cells.toList.zipIdx 0).foldl (λcs (x:Value×Nat)=>cs.setIfInBounds (off+x.2) x.1) c:=by
      rw[<-Array.foldl_toList,Array.toList_zipIdx]
     generalize hc2:(v'.cells.toList.zipIdx 0).foldl (λcs (x:Value×Nat)=>cs.setIfInBounds (off+x.2) x.1) c=c2 at*
     have hat:∀k,c2.getD k undef=if off<=k/\k<off+size then v'.cells.getD (k-off) undef else c.getD k undef:=λk=>by
      have hk:=s2 k;simp only[yDm,yDc]at hk;by_cases hin:off<=k/\k<off+size
      ·rw[yAd hin];rw[yAd (by omega)]at hk;apply gB;rw[hk];have:=kH v'.cells (k-off) (by omega);simpa using this
      ·rw[yAc hin];rw[yAc (by omega)]at hk;simp[yBh,hk]
     obtain⟨c',t1,t2,t3,t4⟩:=NY places rest rest' (TM cs off v.cells) c2 cs' hf DV (λj p p' hj hj'=>hp (j+1) p p' (by simpa using hj) (by simpa using hj'))
      (by rw[s1,cO];exact h1) (λk hk=>by
       rw[hat];split
       ·exact r2 _ (by omega)
       ·exact h2 k (by omega)) (λk u hu=>by
       rw[XH _ _ _ _ (by omega),q1]at hu;rw[hat];split
       ·rename_i hin;rw[yAd hin]at hu;exact r3 _ u hu
       ·rename_i hin;rw[yAc hin]at hu
        exact h3 k u hu)
     refine⟨c',?_,t2,t3,t4⟩;unfold Instr.fill;simp only[hpl];rw[yAc wF,hfold];exact t1
def zBh (TT:List TI):List (Nat×Nat)->Option (List (Nat×Nat))
 | []=>some []
 |(o,t)::r=>match TT[t]?,zBh TT r with
  |some ti,some l=>some ((o,ti.size)::l)
  |_,_=>none
theorem CJ {P:Program} {TT:List TI} (hP:uJ P TT):∀(fs:List Field) (l:List (Nat×Nat)),zBh TT (fs.map λf=>(f.offset,f.type))=some l->fs.mapM (λf=>(P.info? f.type).map λi=>(f.offset,i.size))=some l
 | [],l,h=>by simp[zBh]at h;simp[h]
 | f::fs,l,h=>by
  simp only[yBs,zBh]at h
  cases ht:TT[f.type]? with
  |none=>simp[ht]at h
  | some ti=>
   cases hr:zBh TT (fs.map λf=>(f.offset,f.type))with
   |none=>simp[ht,hr]at h
   |some l'=>
    simp[ht,hr]at h;subst h;obtain⟨i,_,_,hi,_,_,_,hs,_⟩:=uC (hP _ _ ht);simp[yGe,hi,CJ hP fs l' hr,hs]
section ops
variable {P:Program} {TT:List TI} {st:St}
def aS (st:St) (ps:Array (Nat×Operand)):List (Nat×AV):=ps.toList.map λp=>(p.1,yO (zG st.tm) p.2)
def CK {w:World} {D:Nat->Prop} {h:yG} {β:uG} {op:Op} {tm:Nat->AV} {a:Act} (H:∀t,zY w D h β (tm t) (a.eval (.tmp t))) (hg:∀t,t∈fV op->tm t=zG st.tm t) {ps:Array (Nat×Operand)} (hps:∀p∈ps.toList,p.2∈op.operands)
  (j:Nat) (p:Nat×AV) (p':Nat×Value) (h1:(aS st ps)[j]? =some p) (h2:(ps.map λx=>(x.1,a.eval x.2)).toList[j]? =some p'):p'.1=p.1/\zY w D h β p.2 p'.2:=by
 simp only[aS,yAi,yAq]at h1;obtain⟨q,hq,rfl⟩:=h1;simp only[yFl,yAi,hq,Option.map_some,yBu]at h2;subst h2;exact⟨rfl,gA H hg (hps q (yBp hq)) Z⟩
def CM {w:World} {D:Nat->Prop} {h:yG} {β:uG} (z:Value) (zs:List Value) (hz:z.cells.toList=zs) (h1:zs.all (·.oneCell')=true):
  z.cells.size=(zs.map AV.s).length/\(∀i,i<z.cells.size->(z.cells.getD i undef).oneCell'=true)/\∀(i:Nat) u,(zs.map AV.s)[i]? =some u->zY w D h β u (z.cells.getD i undef):=by
 subst hz;refine⟨by simp,λi hi=>yAu.1 h1 _ (yBp (by simpa using kH _ i hi)),λi u hu=>?_⟩;simp only[yAi,yAq]at hu;obtain⟨v,hv,rfl⟩:=hu;rw[gB DU];exact .fz _ _ (.s _)
def zFw (hP:uJ P TT) {T:Nat} {ps:Array (Nat×Operand)} {ti:TI} {fs pl:List (Nat×Nat)} {cs:List AV} (hT:TT[T]? =some ti) (hd:ti.d= .str fs) (h1:ti.zero.all (·.oneCell')=true) (hpl:zBh TT fs=some pl)
  (hf:NX (pl[·]?) (ti.zero.map .s) (aS st ps)=some cs):wS P st (.build T ps) (.agg cs) [] [] []:=
 yR λoo X tm h w β a ho hg hr HH Ht=>by
  obtain⟨d0,o0,y0,p0,f0,g0⟩:=oo;dsimp only at ho;subst ho;obtain⟨i,u,z,hi,hu,hz,hd',_,_,hzz⟩:=uC (hP _ _ hT);obtain⟨fields,rfl,hm⟩:=zJ3 (hd'.symm.trans hd);have hpl':=CJ hP fields.toList pl (by rw[hm];exact hpl);obtain⟨z1,z2,z3⟩:=CM (w:=w) (D:=xP X β) (h:=h) (β:=β) z ti.zero hzz.symm h1
  obtain⟨c',f1,f2,f3,f4⟩:=NY (w:=w) (D:=xP X β) (h:=h) (β:=β) (pl[·]?) (aS st ps) (ps.map λx=>(x.1,a.eval x.2)).toList _ _ cs hf (by simp[aS]) (CK (op:= .build T ps) Ht hg λp hp=>by
   simp only[Op.operands,yF5]
   exact yBl.2 ⟨p,hp,rfl⟩) z1 z2 z3
  have hb:P.built T (ps.map λx=>(x.1,a.eval x.2)).toList=some c':=by
   simp only[Program.built,hi,hu,hz,hpl'];simpa using f1
  exact⟨_,by simp only[execOp,Sem.run_bind,run_build w T _ c' hb,Result.andThen_ok,Sem.run_pure],.agg _ _ f2 f3 f4⟩
def LU (hP:uJ P TT) {T n e:Nat} {ps:Array (Nat×Operand)} {ti te:TI} {cs:List AV} (hT:TT[T]? =some ti) (hd:ti.d= .arr n e) (he:TT[e]? =some te) (h1:ti.zero.all (·.oneCell')=true)
  (hf:NX (λi=>some (i*te.size,te.size)) (ti.zero.map .s) (aS st ps)=some cs):wS P st (.build T ps) (.agg cs) [] [] []:=
 yR λoo X tm h w β a ho hg hr HH Ht=>by
  obtain⟨d0,o0,y0,p0,f0,g0⟩:=oo;dsimp only at ho;subst ho;obtain⟨i,u,z,hi,hu,hz,hd',_,_,hzz⟩:=uC (hP _ _ hT);obtain rfl:=zBc (hd'.symm.trans hd);obtain⟨ie,_,_,hie,_,_,_,hse,_,_⟩:=uC (hP _ _ he);obtain⟨z1,z2,z3⟩:=CM (w:=w) (D:=xP X β) (h:=h) (β:=β) z ti.zero hzz.symm h1
  obtain⟨c',f1,f2,f3,f4⟩:=NY (w:=w) (D:=xP X β) (h:=h) (β:=β) (λi=>some (i*te.size,te.size)) (aS st ps) (ps.map λx=>(x.1,a.eval x.2)).toList _ _ cs hf (by simp[aS]) (CK (op:= .build T ps) Ht hg λp hp=>by
   simp only[Op.operands,yF5]
   exact yBl.2 ⟨p,hp,rfl⟩) z1 z2 z3
  have hb:P.built T (ps.map λx=>(x.1,a.eval x.2)).toList=some c':=by
   simp only[Program.built,hi,hu,hz,hie,<-hse];exact f1
  exact⟨_,by simp only[execOp,Sem.run_bind,run_build w T _ c' hb,Result.andThen_ok,Sem.run_pure],.agg _ _ f2 f3 f4⟩
theorem NZ (ne:Bool) (hP:uJ P TT) {T e len:Nat} {ps:Array (Nat×Operand)} {ti te:TI} {xs:List AV} (hT:TT[T]? =some ti) (hd:ti.d= .slice e) (he:TT[e]? =some te) (hp:Nat.ble 1 te.size=true) (hps:aS st ps=(xs.zipIdx 0).map λx=>(x.2,x.1)) (hl:Nat.beq xs.length len=true)
  (hw:xs.all (λx=>Nat.beq x.cells.length te.size&&(x.ok&&(ne||x.nokey)))=true) (hb:Nat.ble (len*te.size) 65536=true) (hzl:Nat.beq te.zero.length te.size=true):
  ∀ (o:Oper) (X:Nat->Prop) (tm:Nat->AV) (h:yG) (w:World) (β:uG) (a:Act),o.op= .buildSlice T len ps->(∀t,t∈fV (.buildSlice T len ps)->tm t=zG st.tm t)->(∀t,zY w (xP X β) h β (tm t) (a.eval (.tmp t)))->
   ∃(C:Array Value) (f:Nat->Nat->Value),(execOp a.eval o).run P w= .ok (.value (.slice (some ⟨w.heap.size,0,none⟩) xs.length xs.length)) (w.alloc (.cells C e))/\C.size=xs.length*te.size/\xs.length<=cA/\xs.length=len/\
    (∀(i:Nat) (x:AV),xs[i]? =some x->x.cells.length=te.size)/\(∀i j,i<xs.length->j<te.size->C[i*te.size+j]? =some (f i j))/\(∀i j,i<xs.length->j<te.size->(f i j).oneCell'=true)/\
    jP w (xP X β) h β ne xs f:=by
 intro o X tm h w β a ho hg Ht;obtain⟨d0,o0,y0,p0,f0,g0⟩:=o;dsimp only at ho;subst ho;have hp:=yAv hp;have hl:=yBd hl;have hb:=yAv hb;have hzl:=yBd hzl;subst hl;obtain⟨i,z,hu,hi,hz,e1,e2,e3⟩:=wU hP hT hd he
 have hxs:∀(j:Nat) (x:AV),xs[j]? =some x->x.cells.length=te.size/\x.ok=true/\(ne||x.nokey)=true:=λj x hx=>by
  have:=yAu.1 hw x (yBp hx);simp only[yAs]at this;exact⟨yBd this.1,this.2⟩
 have hlen:ps.toList.length=xs.length:=by
  have:=yBa List.length hps;simpa [aS]using this
 let vs:List Value:=ps.toList.map λp=>a.eval p.2
 have hvl:vs.length=xs.length:=by simp[vs];simpa using hlen
 have hpx:∀(j:Nat) (x:AV),xs[j]? =some x->∃p,ps.toList[j]? =some p/\p.1=j/\yO (zG st.tm) p.2=x:=λj x hx=>by
  have hj:=yBa (·[j]?) hps;simp only[aS,yAi,yE1,hx,Option.map_some,yBv]at hj
  cases hpj:ps.toList[j]? with
  |none=>simp[hpj]at hj
  |some p=>
   simp only[hpj,Option.map_some,yBu,yCd]at hj;exact⟨p,rfl,hj.1,hj.2⟩
 have hvs:∀(j:Nat) (x:AV),xs[j]? =some x->∃v,vs[j]? =some v/\zY w (xP X β) h β x v:=λj x hx=>by
  obtain⟨p,hp1,_,hp3⟩:=hpx j x hx;refine⟨a.eval p.2,by simp only[vs,yAi,hp1,Option.map_some],gA (op:= .buildSlice T xs.length ps) Ht hg ?_ hp3⟩;simp only[Op.operands,yF5];exact yBl.2 ⟨p,yBp hp1,rfl⟩
 have hpe:(ps.map λx=>(x.1,a.eval x.2)).toList=(vs.zipIdx 0).map λx=>(x.2,x.1):=by
  apply yBj;intro j;simp only[yFl,yAi,yE1,vs,yBv];by_cases hj:j<xs.length
  ·obtain⟨p,hp1,hp2,_⟩:=hpx j xs[j] (by simp[hj]);simp[hp1,hp2]
  ·have:ps.toList[j]? =none:=yA1 (by omega);simp[this]
 have hvc:∀v∈vs,v.cells.size=te.size:=λv hv=>by
  obtain⟨j,hj⟩:=yD9 hv;have hjx:j<xs.length:=by rw[<-hvl];exact(yA5.1 hj).1
  obtain⟨v',h1,h2⟩:=hvs j xs[j] (by simp[hjx]);rw[hj]at h1;cases h1;obtain⟨q1,q2,_⟩:=hxs j xs[j] (by simp[hjx]);rw[(h2.cells q2).1,q1]
 have hzs:z.cells.size=te.size:=by rw[<-hzl,<-e3];simp
 have hfill:=Great.fill_whole (s:=te.size) (by omega) vs ((Array.range (xs.length*te.size)).map (z.cells[· % z.cells.size]!)) hvc (by simp[hvl]);have hflat:=Great.flat_get (s:=te.size) (by omega) vs hvc;generalize hC:(vs.flatMap λv=>v.cells.toList).toArray=C at hfill
 have hCs:C.size=xs.length*te.size:=by
  rw[<-hC]
  have:∀l:List Value,(∀v∈l,v.cells.size=te.size)->(l.flatMap λv=>v.cells.toList).length=l.length*te.size:=by
   intro l
   induction l with
   |nil=>simp
   |cons v l ih=>
    intro hv;rw[List.flatMap_cons,yAf,ih λu hu=>hv u (by simp[hu])];have:=hv v zS;simp only[yDc,this,yAp,yBi,yCe];omega
  simpa [hvl]using this vs hvc
 have hrun:(execOp a.eval ⟨d0,.buildSlice T xs.length ps,y0,p0,f0,g0⟩).run P w= .ok (.value (.slice (some ⟨w.heap.size,0,none⟩) xs.length xs.length)) (w.alloc (.cells C e)):=by
  have h24:¬xs.length*te.size>2 ^ 24:=by omega
  have hs:=uK (hP _ _ he) w;simp only[execOp,Instr.buildSlice,Sem.run_bind,CA w hu,Result.andThen_ok,hs];by_cases h0:xs.length*te.size=0
  ·have hx0:xs=[]:=by
    rcases Nat.mul_eq_zero.1 h0 with h|h
    ·exact yBb h
    ·omega
   subst hx0
   have hps0:ps= #[]:=by
    have:ps.toList.length=0:=by simpa using hlen
    exact Array.eq_empty_of_size_eq_zero zDt
   subst hps0;have hC0:C= #[]:=by simpa using hCs
   subst hC0;simp[Instr.fill,newRow,Array.range_zero']
  ·have hpe':(ps.map λx=>(x.1,a.eval x.2)).toList=(vs.zipIdx 0).map λx=>(x.2,x.1):=hpe
   simp only[yAc h24,Sem.run_pure,Result.andThen_ok,yAc h0,Sem.run_bind,zeroValue,typeInfo,run_program,hi,hz,hpe'];rw[hfill];simp[newRow]
 have hcells:∀(j:Nat) (x:AV),xs[j]? =some x->∃v,vs[j]? =some v/\v.cells.size=te.size/\(∀q,q<te.size->C[j*te.size+q]? =some (v.cells.getD q undef))/\(∀q,q<te.size->(v.cells.getD q undef).oneCell'=true)/\
   ∀(q:Nat) u,x.cells[q]? =some u->zY w (xP X β) h β u (v.cells.getD q undef)/\(ne=false->xH w (xP X β) u (v.cells.getD q undef)):=λj x hx=>by
  obtain⟨v,h1,h2⟩:=hvs j x hx;obtain⟨q1,q2,q3⟩:=hxs j x hx;obtain⟨r1,r2,r3⟩:=h2.cells q2;refine⟨v,h1,by omega,λq hq=>?_,λq hq=>r2 q (by omega),λq u hu=>⟨r3 q u hu,λhn=>(r3 q u hu).toF ?_⟩⟩
  ·have hd':(j*te.size+q)/te.size=j:=Nat.div_eq_of_lt_le (by omega) (by rw[yBi,yCe];omega);have hm':(j*te.size+q) % te.size=q:=by rw[yE0,yE8];exact yC6 hq
   have:=hflat (j*te.size+q);rw[hd',hm',h1]at this;rw[<-hC];simp only[yDb,this,Option.bind_some];exact kH _ _ (by omega)
  ·rw[hn,yC9]at q3
   cases x<;>first
    |(simp[AV.cells]at hu;cases q<;>simp at hu;subst hu;exact q3)
    |(exact jB (by simpa [AV.nokey,AV.cells]using q3) hu)
 refine⟨C,λj q=>(vs.getD j undef).cells.getD q undef,hrun,hCs,?_,rfl,λj x hx=>(hxs j x hx).1,?_,?_,?_⟩
 ·have:xs.length*1<=xs.length*te.size:=Nat.mul_le_mul_left _ hp;unfold cA;omega
 ·intro j q hj hq;obtain⟨v,h1,_,h3,_⟩:=hcells j xs[j] (by simp[hj]);have:vs.getD j undef=v:=by simp[List.getD,h1]
  dsimp only;rw[this];exact h3 q hq
 ·intro j q hj hq;obtain⟨v,h1,_,_,h4,_⟩:=hcells j xs[j] (by simp[hj]);have:vs.getD j undef=v:=by simp[List.getD,h1]
  dsimp only;rw[this];exact h4 q hq
 ·intro j x q u hx hu;obtain⟨v,h1,_,_,_,h5⟩:=hcells j x hx;have:vs.getD j undef=v:=by simp[List.getD,h1]
  dsimp only;rw[this];exact h5 q u hu
def yI (hP:uJ P TT) {T e len:Nat} {ps:Array (Nat×Operand)} {ti te:TI} {xs:List AV} (k:Nat) (hT:TT[T]? =some ti) (hd:ti.d= .slice e) (he:TT[e]? =some te) (hp:Nat.ble 1 te.size=true) (hps:aS st ps=(xs.zipIdx 0).map λx=>(x.2,x.1)) (hl:Nat.beq xs.length len=true)
  (hw:xs.all (λx=>Nat.beq x.cells.length te.size&&(x.ok&&x.nokey))=true) (hb:Nat.ble (len*te.size) 65536=true) (hzl:Nat.beq te.zero.length te.size=true):
  wS P st (.buildSlice T len ps) (.ref k 0 len) [(k,.arr te.size xs false)] [] [k]:=by
 refine⟨?_⟩;intro X tm h hg _ hn o a w β ho HH Ht;obtain⟨C,f,hrun,hCs,hmx,hl',q1,q2,q3,q4⟩:=NZ false hP hT hd he hp hps hl hw hb hzl o X tm h w β a ho hg Ht;rw[hrun];subst hl';obtain⟨β',G,hv⟩:=xN.newArr HH (hn k zS) C e te.size xs xs.length f (yAv hp) hmx (yAg _) (by rw[hCs]) (CE hCs (yAv hp) q2 q3) q1 q2 q3 (q4.toF Z);exact⟨β',G,hv⟩
def PB (hP:uJ P TT) {T e len:Nat} {ps:Array (Nat×Operand)} {ti te:TI} {xs:List AV} (k:Nat) (hT:TT[T]? =some ti) (hd:ti.d= .slice e) (he:TT[e]? =some te) (hp:Nat.ble 1 te.size=true) (hps:aS st ps=(xs.zipIdx 0).map λx=>(x.2,x.1)) (hl:Nat.beq xs.length len=true)
  (hw:xs.all (λx=>Nat.beq x.cells.length te.size&&x.ok)=true) (hb:Nat.ble (len*te.size) 65536=true) (hzl:Nat.beq te.zero.length te.size=true):
  wS P st (.buildSlice T len ps) (.ref k 0 len) [(k,.arr te.size xs ⟨false,true⟩)] [] [k]:=by
 refine⟨?_⟩;intro X tm h hg _ hn o a w β ho HH Ht;obtain⟨C,f,hrun,hCs,hmx,hl',q1,q2,q3,q4⟩:=NZ true hP hT hd he hp hps hl (by simpa using hw) hb hzl o X tm h w β a ho hg Ht;rw[hrun];subst hl';obtain⟨β',G,hv⟩:=xN.newArrN HH (hn k zS) C e te.size xs xs.length f (yAv hp) hmx (yAg _) (by rw[hCs]) (CE hCs (yAv hp) q2 q3) q1 q2 q3 (q4.toV);exact⟨β',G,hv⟩
def PC (hP:uJ P TT) {T e len:Nat} {ps:Array (Nat×Operand)} {ti te:TI} {xs:List AV} (hT:TT[T]? =some ti) (hd:ti.d= .slice e) (he:TT[e]? =some te) (hp:Nat.ble 1 te.size=true) (hps:aS st ps=(xs.zipIdx 0).map λx=>(x.2,x.1)) (hl:Nat.beq xs.length len=true)
  (hw:xs.all (λx=>Nat.beq x.cells.length te.size&&(x.ok&&x.nokey))=true) (hb:Nat.ble (len*te.size) 65536=true) (hzl:Nat.beq te.zero.length te.size=true):
  wS P st (.buildSlice T len ps) (.sl true xs) [] [] []:=by
 refine⟨?_⟩;intro X tm h hg _ hn o a w β ho HH Ht;obtain⟨C,f,hrun,hCs,hmx,hl',q1,q2,q3,q4⟩:=NZ false hP hT hd he hp hps hl hw hb hzl o X tm h w β a ho hg Ht;rw[hrun];rw[dP];exact⟨β,xN.newFz HH C e,.fz _ _ (xH.newArr HH C e te.size xs xs.length f (yAv hp) hmx (yAg _) q1 q2 q3 (q4.toF Z))⟩
def uD (ti:TI):AV:=bif ti.d.agg then .agg (ti.zero.map .s)else match ti.zero with
 | [v]=> .s v
 |_=> .bot
theorem WE (hP:uJ P TT) {T e n:Nat} {x y:Operand} {ti te:TI} {kx ky:IntKind} {nx ny:Int} (k:Nat) (hx:yO (zG st.tm) x= .s (.int kx nx)) (hy:yO (zG st.tm) y= .s (.int ky ny)) (hT:TT[T]? =some ti) (hd:ti.d= .slice e) (he:TT[e]? =some te)
  (hnx:nx=(n:Int)) (hny:nx<=ny) (hmax:ny<=1073741824) (hb:Nat.ble te.bytes 65536=true) (hp:Nat.ble 1 te.size=true) (hzl:Nat.beq te.zero.length te.size=true) (hz1:te.zero.all (·.oneCell')=true) (hzc:Nat.beq (uD te).cells.length te.size=true) (hzc2:(uD te).cells=te.zero.map .s):
  wS P st (.makeSlice T x y) (.ref k 0 n) [(k,.arr te.size (List.replicate n (uD te)) false)] [] [k]:=by
 refine⟨?_⟩;intro X tm h hg _ hn o a w β ho HH Ht;obtain⟨d0,o0,y0,p0,f0,g0⟩:=o;dsimp only at ho;subst ho;have h1:=vO Ht hg (x:=x) uF hx;have h2:=vO Ht hg (x:=y) uF hy;have hp:=yAv hp;have hb:=yAv hb;have hzl:=yBd hzl;have hzc:=yBd hzc;subst hnx;obtain⟨i,z,hu,hi,hz,e1,e2,e3⟩:=wU hP hT hd he
 have hbytes:(i.bytes:Int)*ny<=281474976710656:=by
  obtain⟨m,rfl⟩:=yCa (show 0<=ny by omega);have:i.bytes*m<=65536*1073741824:=yDn (by omega) (by omega);have h3:(i.bytes:Int)*(m:Int)=((i.bytes*m:Nat):Int):=by simp
  rw[h3];omega
 have hrun:=run_make (P:=P) w T e i z hu hi hz kx ky (n:Int) ny (by omega) hny hbytes (by omega)
 have hex:(execOp a.eval ⟨d0,.makeSlice T x y,y0,p0,f0,g0⟩).run P w= .ok (.value (.slice (some ⟨w.heap.size,0,none⟩) n ny.toNat)) (w.alloc (.cells (madeCells z.cells (ny.toNat*i.size)) e)):=by
  simp only[execOp,h1,h2,Sem.run_bind,hrun,Result.andThen_ok,Sem.run_pure];rfl
 rw[hex];have hzs:z.cells.size=te.size:=by rw[<-hzl,<-e3];simp
 have hrl:(List.replicate n (uD te)).length=n:=by simp
 have hat:∀(j:Nat) v,(List.replicate n (uD te))[j]? =some v->v=uD te:=λj v hv=>by
  rw[yCb]at hv;split at hv
  ·exact(yCr hv).symm
  ·cases hv
 have hzat:∀j,j<te.size->∃v,te.zero[j]? =some v/\z.cells.getD j undef=v:=λj hj=>by
  have:=kH z.cells j (by omega);refine⟨_,?_,rfl⟩;rw[<-e3];simpa using this
 have:=xN.newArr HH (hn k zS) (madeCells z.cells (ny.toNat*i.size)) e te.size (List.replicate n (uD te)) ny.toNat (λ_ j=>z.cells.getD j undef) hp (by rw[hrl];unfold cA;omega) (by rw[hrl];omega) (by rw[size_madeCells,e1]) (qD.get (qD.made (λv hv=>yAu.1 hz1 v NU) (by omega) _))
  (λj v hv=>by rw[hat j v hv];exact hzc) (λi' j hi' hj=>by
   rw[hrl]at hi'
   have hlt:i'*te.size+j<ny.toNat*te.size:=by
    have:=yA0 te.size (show i'+1<=ny.toNat by omega);rw[yBi,yCe]at this;omega
   have hm':(i'*te.size+j) % te.size=j:=by rw[yE0,yE8];exact yC6 hj
   simp only[madeCells,e1,yFw,yFp,hlt,yF4,Option.map_some,hzs,hm']
   congr 1
   have hj':j<z.cells.size:=by omega
   simp[yBh,hj']) (λi' j _ hj=>by
   obtain⟨v,hv,hv'⟩:=hzat j hj;rw[hv']
   exact yAu.1 hz1 v (yBp hv)) (λi' v j u hv hu=>by
   rw[hat i' v hv,hzc2]at hu;simp only[yAi,yAq]at hu;obtain⟨q,hq,rfl⟩:=hu;have hj:j<te.size:=by rw[<-hzl];exact(yA5.1 hq).1
   obtain⟨v',hv1,hv2⟩:=hzat j hj;rw[hv2];rw[hq]at hv1;cases hv1
   exact .s _)
 obtain⟨β',G,hv⟩:=this;rw[hrl]at hv;exact⟨β',G,hv⟩
def zP8 {T1 T2:Nat} {x y:Operand} {k:IntKind} {m n:Int} (hx:yO (zG st.tm) x= .s (.int k m)) (hy:yO (zG st.tm) y= .s (.int k n)):wS P st (.call ⟨.builtin .max, #[x,y], #[T1,T2]⟩) (.s (.int k (max m n))) [] [] []:=
 yR λoo X tm h w β a ho hg hr HH Ht=>by
  obtain⟨d0,o0,y0,p0,f0,g0⟩:=oo;dsimp only at ho;subst ho;have h1:=vO Ht hg (x:=x) qX hx;have h2:=vO Ht hg (x:=y) qX hy;refine⟨.int k (max m n),?_,.fz _ _ (.s _)⟩;have:(if n>m then n else m)=max m n:=by omega
  simp[execOp,resolve,invoke,builtin,Builtin.max_,Builtin.max2,h1,h2,this]
def zP9 {T1 T2:Nat} {x y:Operand} {k:IntKind} {m n:Int} (hx:yO (zG st.tm) x= .s (.int k m)) (hy:yO (zG st.tm) y= .s (.int k n)):wS P st (.call ⟨.builtin .min, #[x,y], #[T1,T2]⟩) (.s (.int k (min m n))) [] [] []:=
 yR λoo X tm h w β a ho hg hr HH Ht=>by
  obtain⟨d0,o0,y0,p0,f0,g0⟩:=oo;dsimp only at ho;subst ho;have h1:=vO Ht hg (x:=x) qX hx;have h2:=vO Ht hg (x:=y) qX hy;refine⟨.int k (min m n),?_,.fz _ _ (.s _)⟩;have:(if n<m then n else m)=min m n:=by omega
  simp[execOp,resolve,invoke,builtin,Builtin.min_,Builtin.min2,h1,h2,this]
def VN (h:yG):AV->Bool
 | .sl true _=>true
 | .sl false (_::_)=>true
 | .ref k _ (_+1)=>match h k with
  |some (.arr _ _ _)=>true
  |_=>false
 |_=>false
def QN (hP:uJ P TT) {T e:Nat} {ti:TI} (hT:TT[T]? =some ti) (hd:ti.d= .slice e) (w:World) (b:Option Addr) (n c:Nat):(Op.equal T (.slice b n c) (.slice none 0 0)).run P w= .ok b.isNone w:=by
 obtain⟨_,u,_,_,hu,_,hd',_⟩:=uC (hP _ _ hT);obtain rfl:=vP (hd'.symm.trans hd)
 show(Op.equalIn (9999+1) T _ _).run P w=_
 unfold Op.equalIn
 cases b<;>simp[CA w hu]
def yS (hP:uJ P TT) {T ty e:Nat} {x:Operand} {ti:TI} {xv:AV} {op:BinOp} {v:Bool} (hop:op= .eql/\v=false∨op= .neq/\v=true) (hx:yO (zG st.tm) x=xv) (hT:TT[T]? =some ti) (hd:ti.d= .slice e) (hn:VN (zD st.h) xv=true):
  wS P st (.binOp op T x (.const (.slice none 0 0)) ty) (.s (.bool v)) [] (OD xv) []:=
 yR λoo X tm h w β a ho hg hr HH Ht=>by
  obtain⟨d0,o0,y0,p0,f0,g0⟩:=oo;dsimp only at ho;subst ho;have h1:=gA Ht hg (x:=x) uF hx
  obtain⟨b,n,c,hc⟩:∃b n c,a.eval x= .slice (some b) n c:=by
   generalize a.eval x=cx at h1
   cases h1 with
   |fz _ _ hf=>
    cases hf with
    |nil a cap=>simp[VN]at hn
    |nil1 a cap=>exact⟨_,_,_,rfl⟩
    |sl _ _ b o sz cap f hne hL hc hh=>exact⟨_,_,_,rfl⟩
    |_=>simp[VN]at hn
   |ref _ _ _ _ _ _ _ _ _ _ _ _ _ _=>exact⟨_,_,_,rfl⟩
   |ref0 _ _ _ _ _ _ _ _=>simp[VN]at hn
   |dref k off len _ hk _=>
    have:=hr k (by simp[OD])
    cases len with
    |zero=>simp[VN]at hn
    |succ m=>simp[VN,<-this,hk]at hn
   |_=>simp[VN]at hn
  have he:=QN hP hT hd w (some b) n c;refine⟨.bool v,?_,.fz _ _ (.s _)⟩
  rcases hop with⟨rfl,rfl⟩|⟨rfl,rfl⟩<;>simp[execOp,hc,show a.eval (.const (.slice none 0 0))= .slice none 0 0 from Z,eqGuard,binOp,he]
def aT (hP:uJ P TT) {T ty e:Nat} {x:Operand} {ti:TI} {op:BinOp} {v:Bool} {n c:Nat} (hop:op= .eql/\v=true∨op= .neq/\v=false) (hx:yO (zG st.tm) x= .s (.slice none n c)) (hT:TT[T]? =some ti) (hd:ti.d= .slice e):
  wS P st (.binOp op T x (.const (.slice none 0 0)) ty) (.s (.bool v)) [] [] []:=
 yR λoo X tm h w β a ho hg hr HH Ht=>by
  obtain⟨d0,o0,y0,p0,f0,g0⟩:=oo;dsimp only at ho;subst ho;have hc:=vO Ht hg (x:=x) uF hx;have he:=QN hP hT hd w none n c;refine⟨.bool v,?_,.fz _ _ (.s _)⟩
  rcases hop with⟨rfl,rfl⟩|⟨rfl,rfl⟩<;>simp[execOp,hc,show a.eval (.const (.slice none 0 0))= .slice none 0 0 from Z,eqGuard,binOp,he]
def QO {op:BinOp} {tx ty:Nat} {x y:Operand} {p q:ByteArray} {v:Bool} (hx:yO (zG st.tm) x= .s (.string p)) (hy:yO (zG st.tm) y= .s (.string q))
  (hop:op= .eql/\v=(p.toList==q.toList)∨op= .neq/\v= !(p.toList==q.toList)):wS P st (.binOp op tx x y ty) (.s (.bool v)) [] [] []:=
 yR λo X tm h w β a ho hg _ _ Ht=>by
  obtain⟨d0,o0,y0,p0,f0,g0⟩:=o;dsimp only at ho;subst ho;have h1:=vO Ht hg (x:=x) uF hx;have h2:=vO Ht hg (x:=y) uF hy;refine⟨.bool v,?_,.fz _ _ (.s _)⟩
  rcases hop with⟨rfl,rfl⟩|⟨rfl,rfl⟩<;>simp[execOp,h1,h2,eqGuard,binOp,Op.stringOp]
end ops
end
end Av
end Go.Proofs.YteajjdidebfcjaaGreat
