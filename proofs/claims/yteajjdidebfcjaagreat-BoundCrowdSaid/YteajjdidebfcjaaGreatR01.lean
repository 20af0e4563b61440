/- Part 1. -/
import Derived.Below
import Derived.Orders
import Derived.LoopN
import Derived.Laws.Sem
import Derived.KernelRfl
import Derived.Laws.AppendOwn
import Derived.Laws.CopyRow
import Derived.IntWalk
import Derived.Laws.MakeOwn
namespace Go.Proofs.YteajjdidebfcjaaGreat
namespace Av
theorem Z{α:Sort _}{a:α}:a=a:=rfl
set_option linter.all false
def zZ7:=@if_neg
def zZ8:=@if_pos
def zZ9:=@List.length_map
def yAa:=@List.getElem?_map
def yAb:=@Nat.le_refl
def yAc:=@decide_eq_true_eq
def yAd:=@List.length_append
def yAe:=@decide_eq_true
def yAf:=@List.take_length
def yAg:=@List.getD_eq_getElem?_getD
def yAh:=@decide_eq_false
def yAi:=@List.map_append
def yAj:=@List.take_of_length_le
def yAk:=@Bool.and_eq_true
def yAl:=@List.length_cons
def yAm:=@List.all_eq_true
def yAn:=@List.getElem?_eq_getElem
def yAo:=@Option.map_eq_some_iff
def yAp:=@Nat.zero_le
def yAq:=@Nat.le_of_ble_eq_true
def yAr:=@decide_eq_false_iff_not
def yAs:=@Bool.false_ne_true
def yAt:=@List.mem_range
def yAu:=@List.getElem?_eq_some_iff
def yAv:=@Bool.true_and
def yAw:=@List.mem_append
def yAx:=@Int.toNat_natCast
def yAy:=@Array.getD_eq_getD_getElem?
def yAz:=@List.getElem?_eq_none
def yA0:=@Nat.mul_le_mul_right
def yA1:=@List.getElem?_append_right
def yA2:=@Nat.eq_of_beq_eq_true
def yA3:=@List.length_take
def yA4:=@List.getElem?_range
def yA5:=@List.mem_map
def yA6:=@congrArg
def yA7:=@List.append_assoc
def yA8:=@List.mem_singleton
def yA9:=@List.drop_zero
def yBa:=@List.eq_nil_of_length_eq_zero
def yBb:=@List.map_cons
def yBc:=@List.append_nil
def yBd:=@List.mem_cons
def yBe:=@List.getElem?_append_left
def yBf:=@beq_iff_eq
def yBg:=@beq_eq_false_iff_ne
def yBh:=@List.length_drop
def yBi:=@List.ext_getElem?
def yBj:=@Option.some.injEq
def yBk:=@Nat.add_mul
def yBl:=@Nat.lt_of_lt_of_le
def yBm:=@Nat.le_trans
def yBn:=@cond_true
def yBo:=@List.any_eq_true
def yBp:=@List.length_range
def yBq:=@List.getElem?_set_self
def yBr:=@List.length_nil
def yBs:=@List.mem_of_mem_drop
def yBt:=@bne_eq_false_iff_eq
def yBu:=@Nat.zero_add
def yBv:=@List.length_set
def yBw:=@Int.tmod_eq_emod_of_nonneg
def yBx:=@List.mem_of_getElem?
def yBy:=@Bool.false_and
def yBz:=@List.getElem?_take
def yB0:=@List.length_replicate
def yB1:=@Prod.mk.injEq
def yB2:=@List.getElem?_replicate
def yB3:=@Int.tdiv_eq_ediv_of_nonneg
def yB4:=@List.map_set
def yB5:=@cond_false
def yB6:=@Int.le_refl
def yB7:=@Nat.le_of_eq
def yB8:=@List.getElem?_set
def yB9:=@Nat.sub_self
def yCa:=@Nat.one_mul
def yCb:=@Array.getElem?_append_left
def yCc:=@List.mem_of_mem_take
def yCd:=@Option.getD_some
def yCe:=@Bool.not_eq_true'
def yCf:=@List.getElem?_drop
def yCg:=@bne_iff_ne
def yCh:=@List.getElem_of_mem
def yCi:=@Bool.or_eq_true
def yCj:=@Nat.not_lt_zero
def yCk:=@Array.getElem?_eq_some_iff
def yCl:=@List.length_filter_le
def yCm:=@List.range_succ
def yCn:=@List.mem_flatten
def yCo:=@List.nil_append
def yCp:=@List.flatten_cons
def yCq:=@List.take_append_of_le_length
def yCr:=@List.drop_eq_getElem_cons
def yCs:=@Option.some.inj
def yCt:=@Bool.not_eq_true
def yCu:=@List.cons_append
def yCv:=@List.getElem_mem
def yCw:=@List.contains_iff_mem
def yCx:=@Bool.eq_false_iff
def yCy:=@List.any_eq_false
def yCz:=@List.map_nil
def yC0:=@Nat.mod_eq_of_lt
def yC1:=@List.all_eq_false
def yC2:=@List.take_add_one
def yC3:=@List.length_singleton
def yC4:=@List.set_append_right
def yC5:=@List.mem_filter
def yC6:=@Option.map_none
def yC7:=@ne_eq
def yC8:=@List.take_zero
def yC9:=@Nat.mul_le_mul
def yDa:=@List.getElem?_toArray
def yDb:=@Bool.or_true
def yDc:=@List.filter_append
def yDd:=@Nat.add_zero
def yDe:=@List.mem_iff_getElem
def yDf:=@Int.eq_ofNat_of_zero_le
def yDg:=@List.size_toArray
def yDh:=@Array.length_toList
def yDi:=@List.drop_succ_cons
def yDj:=@List.filter_eq_self
def yDk:=@List.map_congr_left
def yDl:=@List.zipWith_cons_cons
def yDm:=@Bool.false_or
def yDn:=@Int.fdiv_eq_ediv_of_nonneg
def yDo:=@List.not_mem_nil
def yDp:=@Bool.and_false
def yDq:=@List.take_append_drop
def yDr:=@Nat.ble_eq_true_of_le
def yDs:=@Array.getElem?_eq_getElem
def yDt:=@List.mem_or_eq_of_mem_set
def yDu:=@Bool.true_or
def yDv:=@Int.mul_le_mul_of_nonneg_right
def yDw:=@List.getElem?_of_mem
def yDx:=@Nat.lt_irrefl
def yDy:=@List.replicate_succ
def yDz:=@List.drop_eq_nil_of_le
def yD0:=@Array.getElem?_append_right
def yD1:=@BitVec.toNat_ofNat
def yD2:=@Int.emod_lt_of_pos
def yD3:=@List.nodup_cons
def yD4:=@Decidable.not_not
def yD5:=@of_decide_eq_true
def yD6:=@BitVec.ofInt_natCast
def yD7:=@Classical.byContradiction
def yD8:=@List.getElem?_set_ne
def yD9:=@List.mem_cons_of_mem
def yEa:=@List.pairwise_append
def yEb:=@Nat.pow_le_pow_right
def yEc:=@Int.mul_nonneg
def yEd:=@List.drop_length
def yEe:=@List.set_set
def yEf:=@List.take_append_getElem
def yEg:=@List.take_succ_eq_append_getElem
def yEh:=@Int.toNat_of_nonneg
def yEi:=@List.length_zipWith
def yEj:=@Bool.and_true
def yEk:=@Bool.eq_iff_iff
def yEl:=@Int.emod_nonneg
def yEm:=@List.pairwise_cons
def yEn:=@List.set_cons_zero
def yEo:=@List.drop_of_length_le
def yEp:=@List.drop_append_of_le_length
def yEq:=@List.foldl_append
def yEr:=@not_false_eq_true
def yEs:=@not_true_eq_false
def yEt:=@Bool.not_false
def yEu:=@Int.mul_le_mul
def yEv:=@Nat.mul_comm
def yEw:=@List.filter_cons
def yEx:=@List.getElem?_zipIdx
def yEy:=@or_false
def yEz:=@List.map_drop
def yE0:=@List.map_take
def yE1:=@Nat.le_of_mul_le_mul_right
def yE2:=@if_true
def yE3:=@List.take_succ_cons
def yE4:=@List.mem_of_find?_eq_some
def yE5:=@Nat.mul_add_mod
def yE6:=@Bool.false_eq_true
def yE7:=@List.append_of_mem
def yE8:=@List.find?_eq_none
def yE9:=@List.map_map
def yFa:=@List.map_replicate
def yFb:=@Nat.le_of_lt
def yFc:=@Nat.sub_zero
def yFd:=@Nat.zero_mul
def yFe:=@Array.size_append
def yFf:=@Bool.not_true
def yFg:=@Nat.add_assoc
def yFh:=@Array.toList_map
def yFi:=@if_false
def yFj:=@List.set_getElem_self
def yFk:=@List.singleton_append
def yFl:=@Array.getElem?_range
def yFm:=@Int.not_le
def yFn:=@Int.not_lt
def yFo:=@Array.getElem?_push
def yFp:=@List.flatten_append
def yFq:=@List.replicate_zero
def yFr:=@List.nodup_nil
def yFs:=@Nat.sub_mul
def yFt:=@Array.getElem?_map
def yFu:=@List.mem_replicate
def yFv:=@Option.toList_some
def yFw:=@Bool.or_false
def yFx:=@List.all_cons
def yFy:=@Array.all_eq_true
def yFz:=@Array.toList_push
def yF0:=@List.find?_append
def yF1:=@Int.pow_succ
def yF2:=@List.mem_toArray
def yF3:=@Nat.lt_succ_self
def yF4:=@beq_self_eq_true
def yF5:=@Int.natCast_mul
def yF6:=@List.cons.injEq
def yF7:=@List.find?_cons
def yF8:=@List.find?_some
def yF9:=@and_false
def yGa:=@Int.add_mul
def yGb:=@Int.one_mul
def yGc:=@List.mapM_cons
def yGd:=@Nat.testBit_or
def yGe:=@eq_comm
def yGf:=@Nat.mod_lt
def yGg:=@List.any_cons
def yGh:=@Int.min_self
def yGi:=@decide_false
def yGj:=@false_and
def zU {p:Prop} (h:p:=by simp):p:=h
def xG {p:Prop} (h:p:=by decide):p:=h
def vA {p:Prop} (h:p:=by(simp;omega)):p:=h
def vY {p:Prop} (h:p:=by simp[Op.operands]):p:=h
def kH {p:Prop} (h:p:=by simp[Op.operands,Call.operands]):p:=h
def bE {p:Prop} (h:p:=by simp[List.getD,hi']):p:=h
def SU {p:Prop} (h:p:=by kernel_rfl):p:=h
def MD {p:Prop} (h:p:=by simp[hx]):p:=h
def ME {p:Prop} (h:p:=by(have:=H.vl;omega)):p:=h
def IY {p:Prop} (h:p:=by simpa using h):p:=h
def VO {p:Prop} (h:p:=by(first|rfl|assumption)):p:=h
def VP {p:Prop} (h:p:=by simp[hi]):p:=h
def OA {p:Prop} (h:p:=by simpa using hn):p:=h
def OB {p:Prop} (h:p:=by simpa using hi):p:=h
def OC {p:Prop} (h:p:=by simpa using h2):p:=h
def OD {p:Prop} (h:p:=by(rw[<-e3];exact hv)):p:=h
def OE {p:Prop} (h:p:=by(rw[hh j hj];exact hk')):p:=h
def LK {p:Prop} (h:p:=by simpa using hv):p:=h
def LL {p:Prop} (h:p:=by(rw[yBh];omega)):p:=h
def LM {p:Prop} (h:p:=by(have:=J.n;omega)):p:=h
def LN {p:Prop} (h:p:=by simpa using h1):p:=h
def LO {p:Prop} (h:p:=by simpa using this):p:=h
def LP {p:Prop} (h:p:=by(rw[hk];rfl)):p:=h
def LQ {p:Prop} (h:p:=by(rw[hk];exact q1)):p:=h
def CF {p:Prop} (h:p:=by(rw[yA3];omega)):p:=h
def CG {p:Prop} (h:p:=by simpa using hl):p:=h
def zDl {p:Prop} (h:p:=by(rw[yAc];exact hs)):p:=h
def zDm {p:Prop} (h:p:=by(rw[hk];decide)):p:=h
def zDn {p:Prop} (h:p:=by(rw[hl]at hi;omega)):p:=h
def zDo {p:Prop} (h:p:=by(rw[hbk,e];simp)):p:=h
def zDp {p:Prop} (h:p:=by(rw[hβ j hj];exact hb)):p:=h
def zL2 {p:Prop} (h:p:=by(rw[yB0];exact hi)):p:=h
def zL3 {p:Prop} (h:p:=by(rw[yBv,zZ9];exact yAb _)):p:=h
def zL4 {p:Prop} (h:p:=by(rw[hh j hk];exact hk')):p:=h
def zSq {p:Prop} (h:p:=by(rcases yAw.1 hx with h|h<;>simp[h])):p:=h
def zSr {p:Prop} (h:p:=by(rw[yBo];exact⟨x,hx,by simp[e]⟩)):p:=h
def zSs {p:Prop} (h:p:=by(rw[yA3,yBh];omega)):p:=h
def zSt {p:Prop} (h:p:=by(simp[List.getD];rw[yAn zB];simp)):p:=h
def zSu {p:Prop} (h:p:=by rw[<-yCr hi,yDq]):p:=h
def zSv {p:Prop} (h:p:=by(rcases hk with hk|hk|hk|hk<;>rw[hk]<;>rfl)):p:=h
def zSw {p:Prop} (h:p:=by rw[hN,yA9,<-hz3l,yAf]):p:=h
inductive AV where
 |bot
 |gh (n:Nat)
 |s (v:Value)
 |agg (cs:List AV)
 |sl (nn:Bool) (xs:List AV)
 |slc (cap:Nat) (xs:List AV)
 |ref (k off len:Nat)
 |ptr (k i off:Nat)
 |fp (xs:List AV) (i off:Nat)
 |fn (f:Nat) (caps:List AV)
 |tup (vs:List AV)
 |fm (ob:Option Nat) (p:Obj->Prop)
 deriving Inhabited
def AV.cells:AV->List AV
 | .agg cs=>cs
 |v=>[v]
def AV.isAgg:AV->Bool
 | .agg _=>true
 |_=>false
def cQ:Nat:=9223372036854775807
structure Lay (w:World) (D:Nat->Prop) (xs:List AV) (b o sz:Nat) (f:Nat->Nat->Value):Prop where
 lt:b<w.heap.size
 nd:¬D b
 pos:1<=sz
 max:xs.length<=cQ
 wide:∀(i:Nat) (x:AV),xs[i]? =some x->x.cells.length=sz
 cell:∀i j,i<xs.length->j<sz->w.cell? ⟨b,o+i*sz+j,none⟩=some (f i j)
 one:∀i j,i<xs.length->j<sz->(f i j).oneCell'=true
inductive xH (w:World) (D:Nat->Prop):AV->Value->Prop
 |bot (c:Value):xH w D .bot c
 |gh (n:Nat) (c:Value):xH w D (.gh n) c
 |s (v:Value):xH w D (.s v) v
 |agg (cs:List AV) (c:Array Value) (hl:c.size=cs.length) (h1:∀i,i<c.size->(c.getD i undef).oneCell'=true) (h:∀(i:Nat) v,cs[i]? =some v->xH w D v (c.getD i undef)):xH w D (.agg cs) (.agg c)
 |nil (a:Option Addr) (cap:Nat):xH w D (.sl false []) (.slice a 0 cap)
 |nil1 (a:Addr) (cap:Nat):xH w D (.sl true []) (.slice (some a) 0 cap)
 |sl (nn:Bool) (xs:List AV) (b o sz cap:Nat) (f:Nat->Nat->Value) (hx:xs≠[]) (hL:Lay w D xs b o sz f) (hc:xs.length<=cap)
  (h:∀(i:Nat) (x:AV) (j:Nat) v,xs[i]? =some x->x.cells[j]? =some v->xH w D v (f i j)):xH w D (.sl nn xs) (.slice (some ⟨b,o,none⟩) xs.length cap)
 |slc (cap:Nat) (xs:List AV) (b o sz:Nat) (f:Nat->Nat->Value) (hL:Lay w D xs b o sz f) (hc:xs.length<=cap)
  (h:∀(i:Nat) (x:AV) (j:Nat) v,xs[i]? =some x->x.cells[j]? =some v->xH w D v (f i j)):xH w D (.slc cap xs) (.slice (some ⟨b,o,none⟩) xs.length cap)
 |fp (xs:List AV) (b o sz i off:Nat) (f:Nat->Nat->Value) (hL:Lay w D xs b o sz f) (hi:i<xs.length) (ho:off<sz)
  (h:∀(i:Nat) (x:AV) (j:Nat) v,xs[i]? =some x->x.cells[j]? =some v->xH w D v (f i j)):xH w D (.fp xs i off) (.pointer (some ⟨b,o+i*sz+off,none⟩))
 |fm (ob:Option Nat) (p:Obj->Prop) (b:Nat) (x:Obj) (ho:∀n,ob=some n->n=b) (hl:b<w.heap.size) (hd:¬D b) (hx:w.heap[b]? =some x) (hp:p x):xH w D (.fm ob p) (.map (some b))
structure Fl where
 stale:Bool
 nest:Bool
instance:Coe Bool Fl:=⟨λb=>⟨b,false⟩⟩
inductive xN where
 |box (cs:List AV)
 |arr (sz:Nat) (xs:List AV) (fl:Fl)
 |dead
 |obj (o:Nat×(Obj->Prop))
abbrev yC:=Nat->Option xN
abbrev vP:=Nat->List (Nat×Nat)
def wB (w:World) (b:Nat):Nat:=((w.shape? b).map (·.2)).getD 0
inductive zQ (w:World) (D:Nat->Prop) (h:yC) (β:vP):AV->Value->Prop
 |fz (v:AV) (c:Value) (hf:xH w D v c):zQ w D h β v c
 |agg (cs:List AV) (c:Array Value) (hl:c.size=cs.length) (h1:∀i,i<c.size->(c.getD i undef).oneCell'=true) (hh:∀(i:Nat) v,cs[i]? =some v->zQ w D h β v (c.getD i undef)):zQ w D h β (.agg cs) (.agg c)
 |fn (f:Nat) (caps:List AV) (c:Array Value) (hl:c.size=caps.length) (hh:∀(i:Nat) v,caps[i]? =some v->zQ w D h β v (c.getD i undef)):zQ w D h β (.fn f caps) (.func (.func f) #[] c)
 |tup (vs:List AV) (c:Array Value) (hl:c.size=vs.length) (hh:∀(i:Nat) v,vs[i]? =some v->zQ w D h β v (c.getD i undef)):zQ w D h β (.tup vs) (.tuple c)
 |dref (k off len:Nat) (c:Value) (hk:h k=some .dead) (h1:c.oneCell'=true):zQ w D h β (.ref k off len) c
 |dptr (k i off:Nat) (c:Value) (hk:h k=some .dead) (h1:c.oneCell'=true):zQ w D h β (.ptr k i off) c
 |ref (k off len sz:Nat) (xs:List AV) (st:Fl) (b n cap:Nat) (hk:h k=some (.arr sz xs st)) (hb:(b,n)∈β k) (hn:off+len<=n) (hc:len<=cap) (hs:(off+cap)*sz=wB w b):
  zQ w D h β (.ref k off len) (.slice (some ⟨b,off*sz,none⟩) len cap)
 |ref0 (k off sz:Nat) (xs:List AV) (st:Fl) (a:Option Addr) (hk:h k=some (.arr sz xs st)) (hn:off<=xs.length):zQ w D h β (.ref k off 0) (.slice a 0 0)
 |pbox (k off:Nat) (cs:List AV) (b n:Nat) (hk:h k=some (.box cs)) (hb:(b,n)∈β k):zQ w D h β (.ptr k 0 off) (.pointer (some ⟨b,off,none⟩))
 |parr (k i off sz:Nat) (xs:List AV) (st:Fl) (b n:Nat) (hk:h k=some (.arr sz xs st)) (hb:(b,n)∈β k) (hi:i<n) (ho:off<sz):
  zQ w D h β (.ptr k i off) (.pointer (some ⟨b,i*sz+off,none⟩))
def xK (X:Nat->Prop) (β:vP) (b:Nat):Prop:=X b∨∃k n,(b,n)∈β k
def jN (w:World) (D:Nat->Prop) (h:yC) (β:vP) (nest:Bool) (xs:List AV) (f:Nat->Nat->Value):Prop:=
 ∀(i:Nat) (x:AV) (j:Nat) v,xs[i]? =some x->x.cells[j]? =some v->zQ w D h β v (f i j)/\(nest=false->xH w D v (f i j))
theorem jN.ofF {w:World} {D:Nat->Prop} {h:yC} {β:vP} {nest:Bool} {xs:List AV} {f:Nat->Nat->Value} (H:∀(i:Nat) (x:AV) (j:Nat) v,xs[i]? =some x->x.cells[j]? =some v->xH w D v (f i j)):jN w D h β nest xs f:=
 λi x j v hx hv=>⟨.fz _ _ (H i x j v hx hv),λ_=>H i x j v hx hv⟩
theorem jN.toF {w:World} {D:Nat->Prop} {h:yC} {β:vP} {nest:Bool} {xs:List AV} {f:Nat->Nat->Value} (H:jN w D h β nest xs f) (hn:nest=false) (i:Nat) (x:AV) (j:Nat) (v:AV) (hx:xs[i]? =some x) (hv:x.cells[j]? =some v):xH w D v (f i j):=
 (H i x j v hx hv).2 hn
theorem jN.toV {w:World} {D:Nat->Prop} {h:yC} {β:vP} {nest:Bool} {xs:List AV} {f:Nat->Nat->Value} (H:jN w D h β nest xs f) (i:Nat) (x:AV) (j:Nat) (v:AV) (hx:xs[i]? =some x) (hv:x.cells[j]? =some v):zQ w D h β v (f i j):=
 (H i x j v hx hv).1
def VQ (w:World) (D:Nat->Prop) (h:yC) (β:vP) (k:Nat):xN->Prop
 | .box cs=>∃b c el,β k=[(b,0)]/\w.heap[b]? =some (.cells c el (0,0))/\c.size=cs.length/\(∀i,i<c.size->(c.getD i undef).oneCell'=true)/\∀(i:Nat) v,cs[i]? =some v->zQ w D h β v (c.getD i undef)
 | .obj o=>β k=[(o.1,0)]/\∃x,w.heap[o.1]? =some x/\o.2 x
 | .arr sz xs st=>1<=sz/\xs.length<=cQ/\(xs≠[]->β k≠[])/\(∀(i:Nat) (x:AV),xs[i]? =some x->x.cells.length=sz)/\
  (∀b n r,β k=(b,n)::r->n=xs.length/\(st.stale=false->∀b' n',(b',n')∈r->n'=0)/\∀b' n',(b',n')∈r->n'<xs.length)/\
  ∃f:Nat->Nat->Value,jN w D h β st.nest xs f/\(∀i j,i<xs.length->j<sz->(f i j).oneCell'=true)/\
   ∀b n,(b,n)∈β k->∃c el,w.heap[b]? =some (.cells c el (0,0))/\n*sz<=c.size/\(∀i j,i<n->j<sz->c[i*sz+j]? =some (f i j))/\∀i,i<c.size->(c.getD i undef).oneCell'=true
 | .dead=>β k=[]
structure qV (X:Nat->Prop) (h:yC) (β:vP) (w:World):Prop where
 ent:∀k e,h k=some e->VQ w (xK X β) h β k e
 off:∀k,h k=none->β k=[]
 disj:∀k k' b n n',(b,n)∈β k->(b,n')∈β k'->k=k'
 free:∀k b n,(b,n)∈β k->¬X b
 lt:∀b,xK X β b->b<w.heap.size
structure GO (w:World) (D:Nat->Prop) (h:yC) (β:vP) (w':World) (D':Nat->Prop) (h':yC) (β':vP):Prop where
 size:w.heap.size<=w'.heap.size
 fz:∀b,b<w.heap.size->¬D b->w'.heap[b]? =w.heap[b]? /\¬D' b
 bs:∀k b n,(b,n)∈β k->wB w' b=wB w b
 key:∀k e,h k=some e->h' k=some .dead∨match e with
  | .dead=>False
  | .box _=>(∃cs',h' k=some (.box cs'))/\∀b n,(b,n)∈β k->(b,n)∈β' k
  | .obj _=>(∃cs',h' k=some (.obj cs'))/\∀b n,(b,n)∈β k->(b,n)∈β' k
  | .arr sz xs _=>(∃xs' st',h' k=some (.arr sz xs' st')/\xs.length<=xs'.length)/\∀b n,(b,n)∈β k->∃n',n<=n'/\(b,n')∈β' k
theorem Lay.evo {w w':World} {D D':Nat->Prop} {xs:List AV} {b o sz:Nat} {f:Nat->Nat->Value} (hL:Lay w D xs b o sz f) (hs:w.heap.size<=w'.heap.size)
  (hf:∀b,b<w.heap.size->¬D b->w'.heap[b]? =w.heap[b]? /\¬D' b):Lay w' D' xs b o sz f:=
 ⟨yBl hL.lt hs,(hf b hL.lt hL.nd).2,hL.pos,hL.max,hL.wide,λi j hi hj=>(World.cell?_of_block (a:=⟨b,o+i*sz+j,none⟩) (hf b hL.lt hL.nd).1).trans (hL.cell i j hi hj),hL.one⟩
theorem xH.evo {w w':World} {D D':Nat->Prop} (hs:w.heap.size<=w'.heap.size) (hf:∀b,b<w.heap.size->¬D b->w'.heap[b]? =w.heap[b]? /\¬D' b)
  {v:AV} {c:Value} (h:xH w D v c):xH w' D' v c:=by
 induction h with
 |bot c=>exact .bot c
 |gh n c=>exact .gh n c
 |s v=>exact .s v
 |agg cs c hl h1 _ ih=>exact .agg cs c hl h1 ih
 |nil a cap=>exact .nil a cap
 |nil1 a cap=>exact .nil1 a cap
 |sl nn xs b o sz cap f hx hL hc _ ih=>exact .sl nn xs b o sz cap f hx (hL.evo hs hf) hc ih
 |slc cap xs b o sz f hL hc _ ih=>exact .slc cap xs b o sz f (hL.evo hs hf) hc ih
 |fp xs b o sz i off f hL hi ho _ ih=>exact .fp xs b o sz i off f (hL.evo hs hf) hi ho ih
 |fm ob p b x ho hl hd hx hp=>exact .fm ob p b x ho (yBl hl hs) (hf b hl hd).2 ((hf b hl hd).1.trans hx) hp
theorem zQ.evo {w w':World} {D D':Nat->Prop} {h h':yC} {β β':vP} (E:GO w D h β w' D' h' β') {v:AV} {c:Value} (hv:zQ w D h β v c):zQ w' D' h' β' v c:=by
 induction hv with
 |fz v c hf=>exact .fz v c (hf.evo E.size E.fz)
 |agg cs c hl h1 _ ih=>exact .agg cs c hl h1 ih
 |fn f caps c hl _ ih=>exact .fn f caps c hl ih
 |tup vs c hl _ ih=>exact .tup vs c hl ih
 |dref k off len c hk h1=>exact .dref _ _ _ _ ((E.key k _ hk).resolve_right (λf=>f)) h1
 |dptr k i off c hk h1=>exact .dptr _ _ _ _ ((E.key k _ hk).resolve_right (λf=>f)) h1
 |ref k off len sz xs st b n cap hk hb hn hc hs=>
  rcases E.key k _ hk with hd|⟨⟨xs',st',hk',_⟩,hm⟩
  ·exact .dref _ _ _ _ hd Z
  ·obtain⟨n',hn',hb'⟩:=hm b n hb;exact .ref k off len sz xs' st' b n' cap hk' hb' (yBm hn hn') hc (by rw[E.bs k b n hb];exact hs)
 |ref0 k off sz xs st a hk hn=>
  rcases E.key k _ hk with hd|⟨⟨xs',st',hk',hl⟩,hm⟩
  ·exact .dref _ _ _ _ hd Z
  ·exact .ref0 k off sz xs' st' a hk' (yBm hn hl)
 |pbox k off cs b n hk hb=>
  rcases E.key k _ hk with hd|⟨⟨cs',hk'⟩,hm⟩
  ·exact .dptr _ _ _ _ hd Z
  ·exact .pbox k off cs' b n hk' (hm b n hb)
 |parr k i off sz xs st b n hk hb hi ho=>
  rcases E.key k _ hk with hd|⟨⟨xs',st',hk',hl⟩,hm⟩
  ·exact .dptr _ _ _ _ hd Z
  ·obtain⟨n',hn',hb'⟩:=hm b n hb;exact .parr k i off sz xs' st' b n' hk' hb' (yBl hi hn') ho
theorem jN.evo {w w':World} {D D':Nat->Prop} {h h':yC} {β β':vP} (E:GO w D h β w' D' h' β') {nest:Bool} {xs:List AV} {f:Nat->Nat->Value} (H:jN w D h β nest xs f):jN w' D' h' β' nest xs f:=
 λi x j v hx hv=>⟨(H i x j v hx hv).1.evo E,λhn=>((H i x j v hx hv).2 hn).evo E.size E.fz⟩
structure yX (X:Nat->Prop) (w:World) (h:yC) (β:vP) (w':World) (h':yC) (β':vP):Prop where
 size:w.heap.size<=w'.heap.size
 keep:∀b,b<w.heap.size->(∀k n,(b,n)∉β k)->w'.heap[b]? =w.heap[b]?
 own:∀k b n,(b,n)∈β' k->(∃k' n',(b,n')∈β k')∨w.heap.size<=b
 bs:∀k b n,(b,n)∈β k->wB w' b=wB w b
 key:∀k e,h k=some e->h' k=some .dead∨match e with
  | .dead=>False
  | .box _=>(∃cs',h' k=some (.box cs'))/\∀b n,(b,n)∈β k->(b,n)∈β' k
  | .obj _=>(∃cs',h' k=some (.obj cs'))/\∀b n,(b,n)∈β k->(b,n)∈β' k
  | .arr sz xs _=>(∃xs' st',h' k=some (.arr sz xs' st')/\xs.length<=xs'.length)/\∀b n,(b,n)∈β k->∃n',n<=n'/\(b,n')∈β' k
 hok:qV X h' β' w'
 os:w'.os=w.os
 tape:w'.tape=w.tape
 output:w'.output=w.output
theorem yX.evo {X:Nat->Prop} {w w':World} {h h':yC} {β β':vP} (G:yX X w h β w' h' β'):GO w (xK X β) h β w' (xK X β') h' β' where
 size:=G.size
 fz b hb hd:=by
  have h1:∀k n,(b,n)∉β k:=λk n hm=>hd (.inr ⟨k,n,hm⟩)
  refine⟨G.keep b hb h1,?_⟩;rintro(hx|⟨k,n,hm⟩)
  ·exact hd (.inl hx)
  ·rcases G.own k b n hm with⟨k',n',h2⟩|h2
   ·exact h1 _ _ h2
   ·omega
 bs:=G.bs
 key:=G.key
def qO (h:yC) (β:vP):∀k e,h k=some e->h k=some .dead∨match e with
  | .dead=>False
  | .box _=>(∃cs',h k=some (.box cs'))/\∀b n,(b,n)∈β k->(b,n)∈β k
  | .obj _=>(∃cs',h k=some (.obj cs'))/\∀b n,(b,n)∈β k->(b,n)∈β k
  | .arr sz xs _=>(∃xs' st',h k=some (.arr sz xs' st')/\xs.length<=xs'.length)/\∀b n,(b,n)∈β k->∃n',n<=n'/\(b,n')∈β k:=by
 intro k e he
 cases e with
 |dead=>exact .inl he
 |box cs=>exact .inr ⟨⟨cs,he⟩,λ_ _ h=>h⟩
 |obj cs=>exact .inr ⟨⟨cs,he⟩,λ_ _ h=>h⟩
 |arr sz xs st=>exact .inr ⟨⟨xs,st,he,yAb _⟩,λ_ n h=>⟨n,yAb _,h⟩⟩
theorem yX.refl {X:Nat->Prop} {h:yC} {β:vP} {w:World} (H:qV X h β w):yX X w h β w h β:=
 ⟨yAb _,λ_ _ _=>rfl,λk _ n hm=> .inl ⟨k,n,hm⟩,λ_ _ _ _=>rfl,qO h β,H,rfl,rfl,rfl⟩
theorem qV.drew {X:Nat->Prop} {h:yC} {β:vP} {w:World} (H:qV X h β w) (n:Nat):qV X h β {w with drawn:=n}:=by
 have ev:∀{v c},zQ w (xK X β) h β v c->zQ {w with drawn:=n} (xK X β) h β v c:=λhv=>
  zQ.evo (w:=w) (w':={w with drawn:=n}) (D':=xK X β) (h':=h) (β':=β) ⟨yAb _,λ_ _ hd=>⟨rfl,hd⟩,λ_ _ _ _=>rfl,qO h β⟩ hv
 have ef:∀{v c},xH w (xK X β) v c->xH {w with drawn:=n} (xK X β) v c:=λhv=>xH.evo (w:=w) (w':={w with drawn:=n}) (D':=xK X β) (yAb _) (λ_ _ hd=>⟨rfl,hd⟩) hv
 refine⟨λk e he=>?_,H.off,H.disj,H.free,H.lt⟩;have:=H.ent k e he
 cases e with
 |dead=>exact this
 |box cs=>
  obtain⟨b,c,el,h1,h2,h3,h4,h5⟩:=this;exact⟨b,c,el,h1,h2,h3,h4,λi v hv=>ev (h5 i v hv)⟩
 |obj cs=>
  exact this
 |arr sz xs st=>
  obtain⟨h1,h2,h3,h4,h5,f,h6,h7⟩:=this;exact⟨h1,h2,h3,h4,h5,f,λi x j v hx hv=>⟨ev (h6 i x j v hx hv).1,λhn=>ef ((h6 i x j v hx hv).2 hn)⟩,h7⟩
theorem yX.drew {X:Nat->Prop} {h:yC} {β:vP} {w:World} (H:qV X h β w) (n:Nat):yX X w h β {w with drawn:=n} h β:=
 ⟨yAb _,λ_ _ _=>rfl,λk _ n hm=> .inl ⟨k,n,hm⟩,λ_ _ _ _=>rfl,qO h β,H.drew n,rfl,rfl,rfl⟩
theorem yX.trans {X:Nat->Prop} {w w' w'':World} {h h' h'':yC} {β β' β'':vP} (H:qV X h β w) (G:yX X w h β w' h' β') (K:yX X w' h' β' w'' h'' β''):yX X w h β w'' h'' β'' where
 size:=yBm G.size K.size
 keep b hb hn:=by
  rw[K.keep b (yBl hb G.size),G.keep b hb hn];intro k n hm
  rcases G.own k b n hm with⟨k',n',h2⟩|h2
  ·exact hn _ _ h2
  ·omega
 own k b n hm:=by
  rcases K.own k b n hm with⟨k',n',h2⟩|h2
  ·exact G.own k' b n' h2
  ·exact .inr (yBm G.size h2)
 bs k b n hm:=by
  have hb:=H.lt b (.inr ⟨k,n,hm⟩);by_cases hd:∃k n,(b,n)∈β' k
  ·obtain⟨k',n',hm'⟩:=hd;rw[K.bs k' b n' hm',G.bs k b n hm]
  ·rw[<-G.bs k b n hm];unfold wB World.shape?;rw[K.keep b (yBl hb G.size) λk n hm=>hd ⟨k,n,hm⟩]
 key k e he:=by
  rcases G.key k e he with h1|h1
  ·rcases K.key k _ h1 with h2|h2
   ·exact .inl h2
   ·exact h2.elim
  ·cases e with
   |dead=>exact h1.elim
   |box cs=>
    obtain⟨⟨cs',h2⟩,h3⟩:=h1
    rcases K.key k _ h2 with h4|⟨h4,h5⟩
    ·exact .inl h4
    ·exact .inr ⟨h4,λb n hm=>h5 b n (h3 b n hm)⟩
   |obj cs=>
    obtain⟨⟨cs',h2⟩,h3⟩:=h1
    rcases K.key k _ h2 with h4|⟨h4,h5⟩
    ·exact .inl h4
    ·exact .inr ⟨h4,λb n hm=>h5 b n (h3 b n hm)⟩
   |arr sz xs st=>
    obtain⟨⟨xs',st',h2,hl⟩,h3⟩:=h1
    rcases K.key k _ h2 with h4|⟨⟨xs'',st'',h4,hl'⟩,h5⟩
    ·exact .inl h4
    ·refine .inr ⟨⟨xs'',st'',h4,yBm hl hl'⟩,λb n hm=>?_⟩;obtain⟨n',hn',hm'⟩:=h3 b n hm;obtain⟨n'',hn'',hm''⟩:=h5 b n' hm';exact⟨n'',yBm hn' hn'',hm''⟩
 hok:=K.hok
 os:=K.os.trans G.os
 tape:=K.tape.trans G.tape
 output:=K.output.trans G.output
section
inductive TD where
 |str (fs:List (Nat×Nat))
 |slice (e:Nat)
 |arr (n e:Nat)
 |int (k:IntKind)
 |bool
 |string
 |ptr (e:Nat)
 |func
 |other
structure TI where
 d:TD
 size:Nat
 bytes:Nat
 zero:List Value
def TD.agg:TD->Bool
 | .str _| .arr _ _=>true
 |_=>false
def ZL:TypeDesc->TD
 | .struct fs=> .str (fs.toList.map λf=>(f.offset,f.type))
 | .slice e=> .slice e
 | .array n e=> .arr n e
 | .int k=> .int k
 | .bool=> .bool
 | .string=> .string
 | .pointer e=> .ptr e
 | .func .. => .func
 |_=> .other
def zL5 (P:Program) (t:Nat):Option TI:=
 match P.info? t,P.underlying t with
 |some i,some u=>i.zero.map λz=>⟨ZL u,i.size,i.bytes,z.cells.toList⟩
 |_,_=>none
def uI (P:Program) (TT:List TI):Prop:=∀(t:Nat) ti,TT[t]? =some ti->zL5 P t=some ti
def wN {P:Program} {t:Nat} {ti:TI} (h:zL5 P t=some ti):∃i u z,P.info? t=some i/\P.underlying t=some u/\i.zero=some z/\ti.d=ZL u/\ti.size=i.size/\ti.bytes=i.bytes/\ti.zero=z.cells.toList:=by
 unfold zL5 at h;split at h
 ·rename_i i u hi hu
  cases hz:i.zero with
  |none=>simp[hz]at h
  |some z=>
   simp[hz]at h;exact⟨i,u,z,hi,hu,hz,by rw[<-h],by rw[<-h],by rw[<-h],by rw[<-h]⟩
 ·cases h
section runs
variable {P:Program} {t:Nat} {ti:TI} (h:zL5 P t=some ti) (w:World)
include h
def CH:∃i z,(typeInfo t).run P w= .ok i w/\i.size=ti.size/\i.bytes=ti.bytes/\i.zero=some z/\z.cells.toList=ti.zero:=by
 obtain⟨i,u,z,hi,_,hz,_,hs,hb,hzz⟩:=wN h;exact⟨i,z,by simp[typeInfo,hi],hs.symm,hb.symm,hz,hzz.symm⟩
def uQ:(sizeOf t).run P w= .ok ti.size w:=by
 obtain⟨i,z,hr,hs,_⟩:=CH h w;simp[sizeOf,hr,hs]
def zL6:∃z,(zeroValue t).run P w= .ok z w/\z.cells.toList=ti.zero:=by
 obtain⟨i,z,hr,_,_,hz,hzz⟩:=CH h w;exact⟨z,by simp[zeroValue,hr,hz],hzz⟩
def xW:∃u,(underlying t).run P w= .ok u w/\ZL u=ti.d:=by
 obtain⟨i,u,z,_,hu,_,hd,_⟩:=wN h;exact⟨u,by simp[underlying,hu],hd.symm⟩
def IZ:(isAgg t).run P w= .ok ti.d.agg w:=by
 obtain⟨u,hr,hd⟩:=xW h w;rw[<-hd];simp only[isAgg,Sem.run_bind,hr,Result.andThen_ok]
 cases u<;>rfl
end runs
def dU {P:Program} {t:Nat} (w:World) {u:TypeDesc} (hu:P.underlying t=some u):(underlying t).run P w= .ok u w:=by simp[underlying,hu]
def vN {u:TypeDesc} {e:Nat} (h:ZL u= .slice e):u= .slice e:=by cases u<;>simp[ZL]at h;rw[h]
def zL7 {u:TypeDesc} {n e:Nat} (h:ZL u= .arr n e):u= .array n e:=by cases u<;>simp[ZL]at h;rw[h.1,h.2]
def UX {u:TypeDesc} {k:IntKind} (h:ZL u= .int k):u= .int k:=by cases u<;>simp[ZL]at h;rw[h]
def zQi {u:TypeDesc} (h:ZL u= .bool):u= .bool:=by cases u<;>simp[ZL]at h;rfl
def zFb {u:TypeDesc} (h:ZL u= .string):u= .string:=by cases u<;>simp[ZL]at h;rfl
def HA {u:TypeDesc} {fs:List (Nat×Nat)} (h:ZL u= .str fs):∃f,u= .struct f/\f.toList.map (λf=>(f.offset,f.type))=fs:=by
 cases u with
 |struct f=>exact⟨f,rfl,by simpa [ZL]using h⟩
 |_=>simp[ZL]at h
structure St where
 tm:List (Nat×AV)
 h:List (Nat×xN)
def zG:List (Nat×AV)->Nat->AV
 | [],_=> .bot
 |(k,v)::r,t=>bif Nat.beq t k then v else zG r t
def zC:List (Nat×xN)->Nat->Option xN
 | [],_=>none
 |(k,e)::r,t=>bif Nat.beq t k then some e else zC r t
def over (d:List (Nat×xN)) (h:yC):yC:=λk=>match zC d k with
 |some e=>some e
 |none=>h k
def yJ (tm:Nat->AV):Operand->AV
 | .tmp t=>tm t
 | .const v=> .s v
 | .func f=> .fn f []
 | .global _=> .bot
def fA (op:Op):List Nat:=op.operands.toList.filterMap λ| .tmp t=>some t|_=>none
def dH (P:Program) (N:Value->World->Prop):Result Next->Prop
 | .ok (.value c) w'=>N c w'
 | .ok .skip w'=>N undef w'
 | .ok (.enter f args) w'=>Calls P f args w' λe w''=>∃c,e= .returned c/\N c w''
 |_=>False
def zYq (P:Program) (X:Nat->Prop) (tm:Nat->AV) (h:yC) (op:Op) (v:AV) (h':yC):Prop:=
 ∀(o:Oper) (a:Act) (w:World) (β:vP),o.op=op->qV X h β w->(∀t,zQ w (xK X β) h β (tm t) (a.eval (.tmp t)))->
  dH P (λc w'=>∃β',yX X w h β w' h' β'/\zQ w' (xK X β') h' β' v c) ((execOp a.eval o).run P w)
structure wM (P:Program) (st:St) (op:Op) (v:AV) (d:List (Nat×xN)) (r nw:List Nat):Prop where
 run:∀(X:Nat->Prop) (tm:Nat->AV) (h:yC),(∀t,t∈fA op->tm t=zG st.tm t)->(∀k,k∈r->h k=zC st.h k)->(∀k,k∈nw->h k=none)->zYq P X tm h op v (over d h)
section
variable {w:World} {D:Nat->Prop} {h:yC} {β:vP}
def gJ {tm:Nat->AV} {a:Act} (H:∀t,zQ w D h β (tm t) (a.eval (.tmp t))) (x:Operand):zQ w D h β (yJ tm x) (a.eval x):=by
 cases x with
 |tmp t=>exact H t
 |const v=>exact .fz _ _ (.s v)
 |global g=>exact .fz _ _ (.bot _)
 |func f=>exact .fn f [] #[] Z (λi v hv=>by simp at hv)
def zFc {op:Op} {tm tm':Nat->AV} (H:∀t,t∈fA op->tm t=tm' t) {x:Operand} (hx:x∈op.operands):yJ tm x=yJ tm' x:=by
 cases x with
 |tmp t=>exact H t (by simp only[fA,List.mem_filterMap];exact⟨.tmp t,by simpa using hx,rfl⟩)
 |_=>rfl
theorem zQ.s_inv {x c:Value} (hv:zQ w D h β (.s x) c):c=x:=by
 cases hv with
 |fz _ _ hf=>cases hf;rfl
def hH {op:Op} {tm:Nat->AV} {st:St} {a:Act} (H:∀t,zQ w D h β (tm t) (a.eval (.tmp t))) (hg:∀t,t∈fA op->tm t=zG st.tm t) {x:Operand} (hx:x∈op.operands) {v:AV}
  (hv:yJ (zG st.tm) x=v):zQ w D h β v (a.eval x):=by
 rw[<-hv,<-zFc hg hx];exact gJ H x
def vF {op:Op} {tm:Nat->AV} {st:St} {a:Act} (H:∀t,zQ w D h β (tm t) (a.eval (.tmp t))) (hg:∀t,t∈fA op->tm t=zG st.tm t) {x:Operand} (hx:x∈op.operands) {v:Value}
 (hv:yJ (zG st.tm) x= .s v):a.eval x=v:=(hH H hg hx hv).s_inv
end
def kU (h:yC):over [] h=h:=rfl
def yK {P:Program} {st:St} {op:Op} {v:AV} {r:List Nat}
  (H:∀(o:Oper) (X:Nat->Prop) (tm:Nat->AV) (h:yC) (w:World) (β:vP) (a:Act),o.op=op->(∀t,t∈fA op->tm t=zG st.tm t)->(∀k,k∈r->h k=zC st.h k)->qV X h β w->
   (∀t,zQ w (xK X β) h β (tm t) (a.eval (.tmp t)))->∃c,(execOp a.eval o).run P w= .ok (.value c) w/\zQ w (xK X β) h β v c):wM P st op v [] r []:=by
 refine⟨?_⟩;intro X tm h hg hr _ o a w β ho HH Ht;obtain⟨c,hc,hv⟩:=H o X tm h w β a ho hg hr HH Ht;rw[hc,kU];exact⟨β,yX.refl HH,hv⟩
section ops
variable {P:Program} {TT:List TI} {st:St}
def zL8 {x:Operand} {v:AV} (hv:yJ (zG st.tm) x=v):wM P st (.move x) v [] [] []:=
 yK λo X tm h w β a ho hg _ _ Ht=>by
  obtain⟨dst,op',type,pos,after,guard⟩:=o;dsimp only at ho;subst ho;exact⟨a.eval x,rfl,hH Ht hg vY hv⟩
def zA2 {x:Operand} {v:AV} (hv:yJ (zG st.tm) x=v):wM P st (.assign x) v [] [] []:=
 yK λo X tm h w β a ho hg _ _ Ht=>by
  obtain⟨dst,op',type,pos,after,guard⟩:=o;dsimp only at ho;subst ho;exact⟨a.eval x,rfl,hH Ht hg vY hv⟩
def zL9 {c x y:Operand} {t:Bool} {v:AV} (hc:yJ (zG st.tm) c= .s (.bool t)) (hv:(bif t then yJ (zG st.tm) x else yJ (zG st.tm) y)=v):wM P st (.pick c x y) v [] [] []:=
 yK λo X tm h w β a ho hg _ _ Ht=>by
  obtain⟨dst,op',type,pos,after,guard⟩:=o;dsimp only at ho;subst ho;have h1:=vF Ht hg (x:=c) vY hc;refine⟨if t then a.eval x else a.eval y,by simp[execOp,h1,asBool],?_⟩;cases t
  ·exact hH Ht hg vY hv
  ·exact hH Ht hg vY hv
def CI {x:Operand} {vs:List AV} {i:Nat} {v:AV} (hx:yJ (zG st.tm) x= .tup vs) (hv:vs[i]? =some v):wM P st (.extract x i) v [] [] []:=
 yK λo X tm h w β a ho hg _ _ Ht=>by
  obtain⟨dst,op',type,pos,after,guard⟩:=o;dsimp only at ho;subst ho;have h1:=hH Ht hg (x:=x) vY hx;have hi:=(yAu.1 hv).1;generalize he:a.eval x=cx at h1
  cases h1 with
  |fz _ _ hf=>cases hf
  |tup _ c hl hh=>
   obtain⟨u,hc⟩:∃u,c[i]? =some u:=⟨c[i],by simp[show i<c.size by omega]⟩;have hu:c.getD i undef=u:=by simp[yAy,hc]
   exact⟨u,by simp[execOp,Instr.extract,he,hc],hu▸hh i v hv⟩
def XN:IntKind->Int->Prop
 | .i64,n=> -9223372036854775808<=n/\n<=9223372036854775807
 | .u8,n=>0<=n/\n<=255
 | .i32,n=> -2147483648<=n/\n<=2147483647
 | .u32,n=>0<=n/\n<=4294967295
 | .u64,n=>0<=n/\n<=18446744073709551615
 | .i8,n=> -128<=n/\n<=127
 | .i16,n=> -32768<=n/\n<=32767
 | .u16,n=>0<=n/\n<=65535
def qP {k:IntKind} {n:Int} (h:XN k n):k.wrap n=n:=by
 cases k<;>first
  |exact IntWalk.i64_in n h
  |exact IntWalk.u8_in n h
  |exact IntWalk.i32_in n h
  |exact IntWalk.u32_in n h
  |exact IntWalk.u64_in n h
  |exact IntWalk.i8_in n h
  |exact IntWalk.i16_in n h
  |exact IntWalk.u16_in n h
def uJ {op:BinOp} {tx ty:Nat} {x y:Operand} {k:IntKind} {m n:Int} {v:Value} (hx:yJ (zG st.tm) x= .s (.int k m)) (hy:yJ (zG st.tm) y= .s (.int k n))
  (H:∀w,(binOp op tx (.int k m) (.int k n)).run P w= .ok v w):wM P st (.binOp op tx x y ty) (.s v) [] [] []:=
 yK λo X tm h w β a ho hg _ _ Ht=>by
  obtain⟨dst,op',type,pos,after,guard⟩:=o;dsimp only at ho;subst ho;have h1:=vF Ht hg (x:=x) vY hx;have h2:=vF Ht hg (x:=y) vY hy;refine⟨v,?_,.fz _ _ (.s v)⟩
  have hgd:(eqGuard op tx x y (.int k m) (.int k n)).run P w= .ok () w:=by
   unfold eqGuard;cases op<;>rfl
  simp only[execOp,h1,h2,Sem.run_bind,hgd,Result.andThen_ok,H,Sem.run_pure]
section
variable {tx ty:Nat} {x y:Operand} {k:IntKind} {m n:Int} (hx:yJ (zG st.tm) x= .s (.int k m)) (hy:yJ (zG st.tm) y= .s (.int k n))
include hx hy
def RS (hr:XN k (m+n)):wM P st (.binOp .add tx x y ty) (.s (.int k (m+n))) [] [] []:=uJ hx hy λw=>by simp[binOp,Op.intArith,qP hr]
def zQj (hr:XN k (m-n)):wM P st (.binOp .sub tx x y ty) (.s (.int k (m-n))) [] [] []:=uJ hx hy λw=>by simp[binOp,Op.intArith,qP hr]
def RT (hr:XN k (m*n)):wM P st (.binOp .mul tx x y ty) (.s (.int k (m*n))) [] [] []:=uJ hx hy λw=>by simp[binOp,Op.intArith,qP hr]
def zQk (hr:XN k (m.tdiv n)) (h0:n≠0):wM P st (.binOp .quo tx x y ty) (.s (.int k (m.tdiv n))) [] [] []:=uJ hx hy λw=>by simp[binOp,Op.intDiv,h0,qP hr]
def zQl (h0:n≠0):wM P st (.binOp .rem tx x y ty) (.s (.int k (m.tmod n))) [] [] []:=uJ hx hy λw=>by simp[binOp,Op.intDiv,h0]
def RU:wM P st (.binOp .and tx x y ty) (.s (.int k (k.wrap (BitVec.ofInt k.bits m &&& BitVec.ofInt k.bits n).toNat))) [] [] []:=uJ hx hy λw=>by simp only[binOp,Op.intBits];simp
def HB:wM P st (.binOp .or tx x y ty) (.s (.int k (k.wrap (BitVec.ofInt k.bits m ||| BitVec.ofInt k.bits n).toNat))) [] [] []:=uJ hx hy λw=>by simp only[binOp,Op.intBits];simp
def zQm:wM P st (.binOp .xor tx x y ty) (.s (.int k (k.wrap (BitVec.ofInt k.bits m ^^^ BitVec.ofInt k.bits n).toNat))) [] [] []:=uJ hx hy λw=>by simp only[binOp,Op.intBits];simp
def zA3:wM P st (.binOp .andNot tx x y ty) (.s (.int k (k.wrap (BitVec.ofInt k.bits m &&& ~~~BitVec.ofInt k.bits n).toNat))) [] [] []:=uJ hx hy λw=>by simp only[binOp,Op.intBits];simp
def HC:wM P st (.binOp .eql tx x y ty) (.s (.bool (m==n))) [] [] []:=uJ hx hy λw=>by simp[binOp,Op.intCmp]
def HE:wM P st (.binOp .neq tx x y ty) (.s (.bool (m != n))) [] [] []:=uJ hx hy λw=>by simp[binOp,Op.intCmp]
def HF:wM P st (.binOp .lss tx x y ty) (.s (.bool (decide (m<n)))) [] [] []:=uJ hx hy λw=>by simp[binOp,Op.intCmp]
def HG:wM P st (.binOp .leq tx x y ty) (.s (.bool (decide (m<=n)))) [] [] []:=uJ hx hy λw=>by simp[binOp,Op.intCmp]
def HI:wM P st (.binOp .gtr tx x y ty) (.s (.bool (decide (n<m)))) [] [] []:=uJ hx hy λw=>by simp[binOp,Op.intCmp]
def HJ:wM P st (.binOp .geq tx x y ty) (.s (.bool (decide (n<=m)))) [] [] []:=uJ hx hy λw=>by simp[binOp,Op.intCmp]
end
def ZC {op:BinOp} {tx ty:Nat} {x y:Operand} {k k':IntKind} {m n:Int} {v:Int} (hop:op= .shl/\v=k.wrap (m*2 ^ (min n.toNat k.bits))∨op= .shr/\v=m.fdiv (2 ^ (min n.toNat k.bits)))
  (hx:yJ (zG st.tm) x= .s (.int k m)) (hy:yJ (zG st.tm) y= .s (.int k' n)) (h0:0<=n):wM P st (.binOp op tx x y ty) (.s (.int k v)) [] [] []:=
 yK λo X tm h w β a ho hg _ _ Ht=>by
  obtain⟨dst,op',type,pos,after,guard⟩:=o;dsimp only at ho;subst ho;have h1:=vF Ht hg (x:=x) vY hx;have h2:=vF Ht hg (x:=y) vY hy;have h3:¬n<0:=by omega
  refine⟨.int k v,?_,.fz _ _ (.s _)⟩
  rcases hop with⟨rfl,rfl⟩|⟨rfl,rfl⟩<;>simp[execOp,h1,h2,eqGuard,binOp,Op.shift,h3]
def zQn {tx:Nat} {x:Operand} {b:Bool} (hx:yJ (zG st.tm) x= .s (.bool b)):wM P st (.unOp .not tx x) (.s (.bool !b)) [] [] []:=
 yK λo X tm h w β a ho hg _ _ Ht=>by
  obtain⟨dst,op',type,pos,after,guard⟩:=o;dsimp only at ho;subst ho;have h1:=vF Ht hg (x:=x) vY hx;exact⟨_,by simp[execOp,h1,Op.unary],.fz _ _ (.s _)⟩
def zQo {tx:Nat} {x:Operand} {k:IntKind} {n:Int} (hx:yJ (zG st.tm) x= .s (.int k n)) (hr:XN k (-n)):wM P st (.unOp .neg tx x) (.s (.int k (-n))) [] [] []:=
 yK λo X tm h w β a ho hg _ _ Ht=>by
  obtain⟨dst,op',type,pos,after,guard⟩:=o;dsimp only at ho;subst ho;have h1:=vF Ht hg (x:=x) vY hx;exact⟨.int k (-n),by simp[execOp,h1,Op.unary,Op.intArith,qP hr],.fz _ _ (.s _)⟩
def CJ {src dst:Nat} {x:Operand} {k k':IntKind} {n:Int} {ts td:TI} (hP:uI P TT) (hs:TT[src]? =some ts) (hd:TT[dst]? =some td) (hk:td.d= .int k') (hx:yJ (zG st.tm) x= .s (.int k n)):
  wM P st (.convert src dst x) (.s (.int k' (k'.wrap n))) [] [] []:=
 yK λo X tm h w β a ho hg _ _ Ht=>by
  obtain⟨dst',op',type,pos,after,guard⟩:=o;dsimp only at ho;subst ho;have h1:=vF Ht hg (x:=x) vY hx;obtain⟨u,hu,_⟩:=xW (hP _ _ hs) w;obtain⟨u',hu',hd'⟩:=xW (hP _ _ hd) w;obtain rfl:=UX (hd'.trans hk);exact⟨.int k' (k'.wrap n),by simp[execOp,convert,h1,hu,hu',Conv.intToInt],.fz _ _ (.s _)⟩
def LR {op:BinOp} {tx ty:Nat} {x y:Operand} {p q:Bool} {v:Bool} {ti:TI} (hP:uI P TT) (ht:TT[tx]? =some ti) (hd:ti.d= .bool) (hx:yJ (zG st.tm) x= .s (.bool p)) (hy:yJ (zG st.tm) y= .s (.bool q))
  (hop:op= .eql/\v=(p==q)∨op= .neq/\v=(p != q)):wM P st (.binOp op tx x y ty) (.s (.bool v)) [] [] []:=
 yK λo X tm h w β a ho hg _ _ Ht=>by
  obtain⟨dst,op',type,pos,after,guard⟩:=o;dsimp only at ho;subst ho;have h1:=vF Ht hg (x:=x) vY hx;have h2:=vF Ht hg (x:=y) vY hy;obtain⟨u,hu,hd'⟩:=xW (hP _ _ ht) w;obtain rfl:=zQi (hd'.trans hd)
  have he:(Op.equal tx (.bool p) (.bool q)).run P w= .ok (p==q) w:=by
   show(Op.equalIn (9999+1) tx (.bool p) (.bool q)).run P w=_
   unfold Op.equalIn;simp[hu]
  refine⟨.bool v,?_,.fz _ _ (.s _)⟩
  rcases hop with⟨rfl,rfl⟩|⟨rfl,rfl⟩<;>simp[execOp,h1,h2,eqGuard,binOp,he,bne]
def HL {f:Nat} {cap:Array Operand}:wM P st (.makeFunc (.func f) #[] cap) (.fn f (cap.toList.map (yJ (zG st.tm)))) [] [] []:=
 yK λo X tm h w β a ho hg _ _ Ht=>by
  obtain⟨dst,op',type,pos,after,guard⟩:=o;dsimp only at ho;subst ho;refine⟨.func (.func f) #[] (cap.map a.eval),by simp[execOp,Instr.makeFunc],.fn _ _ _ zU λi v hv=>?_⟩;simp only[yAa,yAo]at hv;obtain⟨x,hx,rfl⟩:=hv
  have:(cap.map a.eval).getD i undef=a.eval x:=by
   have:cap[i]? =some x:=by simpa using hx
   simp[yAy,this]
  rw[this];refine hH Ht hg ?_ Z
  have:x∈cap:=by
   have:=yBx hx;simpa using this
  simp[Op.operands,this]
end ops
end
def dI (β:vP) (k:Nat) (l:List (Nat×Nat)):vP:=λj=>if j=k then l else β j
def zZ (β:vP) (k:Nat) (l:List (Nat×Nat)):dI β k l k=l:=by simp[dI]
def qM (β:vP) {k j:Nat} (l:List (Nat×Nat)) (h:j≠k):dI β k l j=β j:=by simp[dI,h]
def zFd (k:Nat):Nat.beq k k=true:=by simp
def ZD {j k:Nat} (h:j≠k):Nat.beq j k=false:=by
 cases e:Nat.beq j k with
 |false=>rfl
 |true=>exact absurd (yA2 e) h
def qA (k:Nat) (e:xN) (h:yC):over [(k,e)] h k=some e:=by simp[over,zC]
def XG {k j:Nat} (e:xN) (h:yC) (hj:j≠k):over [(k,e)] h j=h j:=by simp[over,zC,ZD hj]
theorem VQ.evo {w w':World} {D D':Nat->Prop} {h h':yC} {β β':vP} (E:GO w D h β w' D' h' β') {k:Nat} {e:xN} (hb:β' k=β k) (hk:∀b n,(b,n)∈β k->w'.heap[b]? =w.heap[b]?)
  (H:VQ w D h β k e):VQ w' D' h' β' k e:=by
 cases e with
 |dead=>exact hb.trans H
 |box cs=>
  obtain⟨b,c,el,h1,h2,h3,h4,h5⟩:=H;exact⟨b,c,el,hb.trans h1,(hk b 0 (by rw[h1];simp)).trans h2,h3,h4,λi v hv=>(h5 i v hv).evo E⟩
 |obj cs=>
  obtain⟨h1,x,h2,h3⟩:=H;exact⟨hb.trans h1,x,(hk cs.1 0 (by rw[h1];simp)).trans h2,h3⟩
 |arr sz xs st=>
  obtain⟨h1,h2,h3,h4,h5,f,h6,h7,h8⟩:=H;refine⟨h1,h2,by rwa [hb],h4,by rwa [hb],f,h6.evo E,h7,λb n hm=>?_⟩;rw[hb]at hm;obtain⟨c,el,h9,h10⟩:=h8 b n hm;exact⟨c,el,(hk b n hm).trans h9,h10⟩
theorem yX.step {X:Nat->Prop} {h:yC} {β:vP} {w w':World} (H:qV X h β w) (k:Nat) (e':xN) (l:List (Nat×Nat)) (size:w.heap.size<=w'.heap.size)
  (keep:∀b,b<w.heap.size->(∀n,(b,n)∉β k)->w'.heap[b]? =w.heap[b]?) (os:w'.os=w.os) (tape:w'.tape=w.tape) (output:w'.output=w.output)
  (own:∀b n,(b,n)∈l->(∃n',(b,n')∈β k)∨(w.heap.size<=b/\b<w'.heap.size)) (bs:∀b n,(b,n)∈β k->wB w' b=wB w b)
  (key:∀e,h k=some e->e'= .dead∨match e with
   | .dead=>False
   | .box _=>(∃cs',e'= .box cs')/\∀b n,(b,n)∈β k->(b,n)∈l
   | .obj _=>(∃cs',e'= .obj cs')/\∀b n,(b,n)∈β k->(b,n)∈l
   | .arr sz xs _=>(∃xs' st',e'= .arr sz xs' st'/\xs.length<=xs'.length)/\∀b n,(b,n)∈β k->∃n',n<=n'/\(b,n')∈l)
  (ent:GO w (xK X β) h β w' (xK X (dI β k l)) (over [(k,e')] h) (dI β k l)->VQ w' (xK X (dI β k l)) (over [(k,e')] h) (dI β k l) k e'):
  yX X w h β w' (over [(k,e')] h) (dI β k l):=by
 have own':∀j b n,(b,n)∈dI β k l j->(∃k' n',(b,n')∈β k')∨w.heap.size<=b:=by
  intro j b n hm;by_cases hj:j=k
  ·subst hj;rw[zZ]at hm
   rcases own b n hm with⟨n',h1⟩|⟨h1,_⟩
   ·exact .inl ⟨_,_,h1⟩
   ·exact .inr h1
  ·rw[qM _ _ hj]at hm;exact .inl ⟨_,_,hm⟩
 have apart:∀j b n n',j≠k->(b,n)∈β j->(b,n')∉β k:=λj b n n' hj h1 h2=>hj (H.disj _ _ _ _ _ h1 h2)
 have keep':∀b,b<w.heap.size->(∀k n,(b,n)∉β k)->w'.heap[b]? =w.heap[b]? :=λb hb hn=>keep b hb (hn k)
 have bs':∀j b n,(b,n)∈β j->wB w' b=wB w b:=by
  intro j b n hm;by_cases hj:j=k
  ·subst hj;exact bs b n hm
  ·unfold wB World.shape?;rw[keep b (H.lt b (.inr ⟨j,n,hm⟩)) λn' h1=>apart j b n n' hj hm h1]
 have key':∀j e,h j=some e->over [(k,e')] h j=some .dead∨match e with
   | .dead=>False
   | .box _=>(∃cs',over [(k,e')] h j=some (.box cs'))/\∀b n,(b,n)∈β j->(b,n)∈dI β k l j
   | .obj _=>(∃cs',over [(k,e')] h j=some (.obj cs'))/\∀b n,(b,n)∈β j->(b,n)∈dI β k l j
   | .arr sz xs _=>(∃xs' st',over [(k,e')] h j=some (.arr sz xs' st')/\xs.length<=xs'.length)/\∀b n,(b,n)∈β j->∃n',n<=n'/\(b,n')∈dI β k l j:=by
  intro j e he;by_cases hj:j=k
  ·subst hj;rw[qA,zZ]
   rcases key e he with h1|h1
   ·exact .inl (by rw[h1])
   ·cases e with
    |dead=>exact h1.elim
    |box cs=>obtain⟨⟨cs',h2⟩,h3⟩:=h1;exact .inr ⟨⟨cs',by rw[h2]⟩,h3⟩
    |obj cs=>obtain⟨⟨cs',h2⟩,h3⟩:=h1;exact .inr ⟨⟨cs',by rw[h2]⟩,h3⟩
    |arr sz xs st=>obtain⟨⟨xs',st',h2,h2'⟩,h3⟩:=h1;exact .inr ⟨⟨xs',st',by rw[h2],h2'⟩,h3⟩
  ·rw[XG _ _ hj,qM _ _ hj];exact qO h β j e he
 have E:GO w (xK X β) h β w' (xK X (dI β k l)) (over [(k,e')] h) (dI β k l):=by
  refine⟨size,λb hb hd=>?_,bs',key'⟩;have h1:∀k n,(b,n)∉β k:=λk n hm=>hd (.inr ⟨k,n,hm⟩)
  refine⟨keep' b hb h1,?_⟩;rintro(hx|⟨j,n,hm⟩)
  ·exact hd (.inl hx)
  ·rcases own' j b n hm with⟨k',n',h2⟩|h2
   ·exact h1 _ _ h2
   ·omega
 refine⟨size,keep',own',bs',key',⟨λj e he=>?_,λj he=>?_,λj j' b n n' h1 h2=>?_,λj b n hm hx=>?_,λb hd=>?_⟩,os,tape,output⟩
 ·by_cases hj:j=k
  ·subst hj;rw[qA]at he;cases he;exact ent E
  ·rw[XG _ _ hj]at he;exact(H.ent j e he).evo E (qM _ _ hj) λb n hm=>keep b (H.lt b (.inr ⟨j,n,hm⟩)) λn' h1=>apart j b n n' hj hm h1
 ·by_cases hj:j=k
  ·subst hj;rw[qA]at he;cases he
  ·rw[XG _ _ hj]at he;rw[qM _ _ hj];exact H.off j he
 ·by_cases hj:j=k<;>by_cases hj':j'=k
  ·rw[hj,hj']
  ·subst hj;rw[zZ]at h1;rw[qM _ _ hj']at h2
   rcases own b n h1 with⟨m,h3⟩|⟨h3,_⟩
   ·exact absurd h3 (apart j' b n' m hj' h2)
   ·have:=H.lt b (.inr ⟨_,_,h2⟩);omega
  ·subst hj';rw[zZ]at h2;rw[qM _ _ hj]at h1
   rcases own b n' h2 with⟨m,h3⟩|⟨h3,_⟩
   ·exact absurd h3 (apart j b n m hj h1)
   ·have:=H.lt b (.inr ⟨_,_,h1⟩);omega
  ·rw[qM _ _ hj]at h1;rw[qM _ _ hj']at h2;exact H.disj _ _ _ _ _ h1 h2
 ·by_cases hj:j=k
  ·subst hj;rw[zZ]at hm
   rcases own b n hm with⟨m,h3⟩|⟨h3,_⟩
   ·exact H.free _ _ _ h3 hx
   ·have:=H.lt b (.inl hx);omega
  ·rw[qM _ _ hj]at hm;exact H.free _ _ _ hm hx
 ·rcases hd with hx|⟨j,n,hm⟩
  ·exact yBl (H.lt b (.inl hx)) size
  ·by_cases hj:j=k
   ·subst hj;rw[zZ]at hm
    rcases own b n hm with⟨m,h3⟩|⟨_,h3⟩
    ·exact yBl (H.lt b (.inr ⟨_,_,h3⟩)) size
    ·exact h3
   ·rw[qM _ _ hj]at hm;exact yBl (H.lt b (.inr ⟨_,_,hm⟩)) size
theorem yX.new {X:Nat->Prop} {h:yC} {β:vP} {w:World} (H:qV X h β w) {k:Nat} (hk:h k=none) (e':xN) (n:Nat) (c:Array Value) (el:Nat)
  (ent:GO w (xK X β) h β (w.alloc (.cells c el)) (xK X (dI β k [(w.heap.size,n)])) (over [(k,e')] h) (dI β k [(w.heap.size,n)])->
   VQ (w.alloc (.cells c el)) (xK X (dI β k [(w.heap.size,n)])) (over [(k,e')] h) (dI β k [(w.heap.size,n)]) k e'):
  yX X w h β (w.alloc (.cells c el)) (over [(k,e')] h) (dI β k [(w.heap.size,n)]):=by
 refine yX.step H k e' _ zU (λb hb _=>heap_alloc_old w _ b hb) Z Z Z (λb n hm=>?_) (λb n hm=>?_) (λe he=>?_) ent
 ·simp at hm;refine .inr ?_;simp[hm.1]
 ·rw[H.off k hk]at hm;simp at hm
 ·rw[hk]at he;cases he
theorem yX.newBox {X:Nat->Prop} {h:yC} {β:vP} {w:World} (H:qV X h β w) {k:Nat} (hk:h k=none) (c:Array Value) (el:Nat) (cs:List AV) (hl:c.size=cs.length) (h1:∀i,i<c.size->(c.getD i undef).oneCell'=true)
  (hv:∀(i:Nat) v,cs[i]? =some v->zQ w (xK X β) h β v (c.getD i undef)):
  ∃β',yX X w h β (w.alloc (.cells c el)) (over [(k,.box cs)] h) β'/\zQ (w.alloc (.cells c el)) (xK X β') (over [(k,.box cs)] h) β' (.ptr k 0 0) (.pointer (some ⟨w.heap.size,0,none⟩)):=
 ⟨_,yX.new H hk (.box cs) 0 c el λE=>⟨_,c,el,zZ _ _ _,heap_alloc_new w _,hl,h1,λi v hx=>(hv i v hx).evo E⟩,
  .pbox k 0 cs w.heap.size 0 (qA _ _ _) (by rw[zZ];simp)⟩
def qD (c:Array Value):Prop:=∀v,v∈c.toList->v.oneCell'=true
theorem qD.get {c:Array Value} (h:qD c):∀i,i<c.size->(c.getD i undef).oneCell'=true:=λi hi=>by
 have e:c.getD i undef=c[i]:=by simp[Array.getD,hi]
 rw[e];exact h _ zU
theorem qD.of {c:Array Value} (h:∀i,i<c.size->(c.getD i undef).oneCell'=true):qD c:=λv hv=>by
 obtain⟨i,hi,rfl⟩:=yCh hv;have hi':i<c.size:=by simpa using hi
 have:=h i hi';simpa [Array.getD,hi']using this
theorem qD.app {a b:Array Value} (ha:qD a) (hb:qD b):qD (a++b):=λv hv=>by
 rw[Array.toList_append,yAw]at hv;exact hv.elim (ha v) (hb v)
theorem qD.arr {l:List Value} (h:∀v∈l,v.oneCell'=true):qD l.toArray:=λv hv=>h v LK
def CK {z:Array Value} {i:Nat} (h:i<z.size):z[i]! ∈z.toList:=by
 rw[getElem!_pos z i h];simp
theorem qD.zero {z:Array Value} (h:∀v,v∈z.toList->v.oneCell'=true) (n:Nat):qD (Builtin.zeroCells z n):=λv hv=>by
 simp only[Builtin.zeroCells,yFh,Array.toList_range,yA5,yAt]at hv;obtain⟨i,hi,rfl⟩:=hv
 have hz:0<z.size:=by
  rcases Nat.eq_zero_or_pos z.size with h0|h0
  ·rw[h0,Nat.mul_zero]at hi;omega
  ·exact h0
 exact h _ (CK (yGf _ hz))
def CM {c:Array Value} {n sz:Nat} {f:Nat->Nat->Value} (hs:c.size=n*sz) (hp:1<=sz) (hf:∀i j,i<n->j<sz->c[i*sz+j]? =some (f i j)) (h1:∀i j,i<n->j<sz->(f i j).oneCell'=true):∀i,i<c.size->(c.getD i undef).oneCell'=true:=λi hi=>by
 have hm:i % sz<sz:=yGf _ (by omega);have hd:i/sz<n:=by rw[Nat.div_lt_iff_lt_mul (by omega)];omega
 have e:i/sz*sz+i % sz=i:=by rw[yEv];exact Nat.div_add_mod i sz
 have h2:=hf (i/sz) (i % sz) hd hm;rw[e]at h2;have e2:c.getD i undef=f (i/sz) (i % sz):=by simp[yAy,h2]
 rw[e2];exact h1 _ _ hd hm
theorem qD.made {z:Array Value} (h:∀v,v∈z.toList->v.oneCell'=true) (hz:0<z.size) (n:Nat):qD (madeCells z n):=λv hv=>by
 simp only[madeCells,yFh,Array.toList_range,yA5,yAt]at hv;obtain⟨i,hi,rfl⟩:=hv;exact h _ (CK (yGf _ hz))
theorem yX.newArr {X:Nat->Prop} {h:yC} {β:vP} {w:World} (H:qV X h β w) {k:Nat} (hk:h k=none) (c:Array Value) (el sz:Nat) (xs:List AV) (cap:Nat) (f:Nat->Nat->Value) (hp:1<=sz) (hm:xs.length<=cQ)
  (hcap:xs.length<=cap) (hc:cap*sz=c.size) (hall:∀i,i<c.size->(c.getD i undef).oneCell'=true) (hw:∀(i:Nat) (x:AV),xs[i]? =some x->x.cells.length=sz) (hf:∀i j,i<xs.length->j<sz->c[i*sz+j]? =some (f i j)) (h1:∀i j,i<xs.length->j<sz->(f i j).oneCell'=true)
  (hv:∀(i:Nat) (x:AV) (j:Nat) v,xs[i]? =some x->x.cells[j]? =some v->xH w (xK X β) v (f i j)):
  ∃β',yX X w h β (w.alloc (.cells c el)) (over [(k,.arr sz xs false)] h) β'/\zQ (w.alloc (.cells c el)) (xK X β') (over [(k,.arr sz xs false)] h) β' (.ref k 0 xs.length) (.slice (some ⟨w.heap.size,0,none⟩) xs.length cap):=by
 refine⟨_,yX.new H hk (.arr sz xs false) xs.length c el λE=>⟨hp,hm,λ_=>by rw[zZ];simp,hw,λb n r hr=>?_,f,.ofF λi x j v hx hy=>(hv i x j v hx hy).evo E.size E.fz,h1,λb n hb=>?_⟩,?_⟩
 ·rw[zZ]at hr;simp at hr;exact⟨hr.1.2.symm,λ_ b' n' hm=>by rw[hr.2]at hm;simp at hm,λb' n' hm=>by rw[hr.2]at hm;simp at hm⟩
 ·rw[zZ]at hb;simp at hb;obtain⟨rfl,rfl⟩:=hb;exact⟨c,el,heap_alloc_new w _,yBm (yA0 _ hcap) (yB7 hc),hf,hall⟩
 ·have:=zQ.ref (w:=w.alloc (.cells c el)) (D:=xK X (dI β k [(w.heap.size,xs.length)])) (h:=over [(k,.arr sz xs false)] h) (β:=dI β k [(w.heap.size,xs.length)]) k 0 xs.length sz xs false w.heap.size xs.length cap (qA _ _ _)
   (by rw[zZ];simp) (by omega) hcap (by
    have:wB (w.alloc (.cells c el)) w.heap.size=c.size:=by
     unfold wB World.shape?;rw[heap_alloc_new];rfl
    rw[this];simpa using hc)
  simpa using this
theorem yX.newArrN {X:Nat->Prop} {h:yC} {β:vP} {w:World} (H:qV X h β w) {k:Nat} (hk:h k=none) (c:Array Value) (el sz:Nat) (xs:List AV) (cap:Nat) (f:Nat->Nat->Value) (hp:1<=sz) (hm:xs.length<=cQ)
  (hcap:xs.length<=cap) (hc:cap*sz=c.size) (hall:∀i,i<c.size->(c.getD i undef).oneCell'=true) (hw:∀(i:Nat) (x:AV),xs[i]? =some x->x.cells.length=sz) (hf:∀i j,i<xs.length->j<sz->c[i*sz+j]? =some (f i j)) (h1:∀i j,i<xs.length->j<sz->(f i j).oneCell'=true)
  (hv:∀(i:Nat) (x:AV) (j:Nat) v,xs[i]? =some x->x.cells[j]? =some v->zQ w (xK X β) h β v (f i j)):
  ∃β',yX X w h β (w.alloc (.cells c el)) (over [(k,.arr sz xs ⟨false,true⟩)] h) β'/\zQ (w.alloc (.cells c el)) (xK X β') (over [(k,.arr sz xs ⟨false,true⟩)] h) β' (.ref k 0 xs.length) (.slice (some ⟨w.heap.size,0,none⟩) xs.length cap):=by
 refine⟨_,yX.new H hk (.arr sz xs ⟨false,true⟩) xs.length c el λE=>⟨hp,hm,λ_=>by rw[zZ];simp,hw,λb n r hr=>?_,f,λi x j v hx hy=>⟨(hv i x j v hx hy).evo E,λh=>by cases h⟩,h1,λb n hb=>?_⟩,?_⟩
 ·rw[zZ]at hr;simp at hr;exact⟨hr.1.2.symm,λ_ b' n' hm=>by rw[hr.2]at hm;simp at hm,λb' n' hm=>by rw[hr.2]at hm;simp at hm⟩
 ·rw[zZ]at hb;simp at hb;obtain⟨rfl,rfl⟩:=hb;exact⟨c,el,heap_alloc_new w _,yBm (yA0 _ hcap) (yB7 hc),hf,hall⟩
 ·have:=zQ.ref (w:=w.alloc (.cells c el)) (D:=xK X (dI β k [(w.heap.size,xs.length)])) (h:=over [(k,.arr sz xs ⟨false,true⟩)] h) (β:=dI β k [(w.heap.size,xs.length)]) k 0 xs.length sz xs ⟨false,true⟩ w.heap.size xs.length cap (qA _ _ _)
   (by rw[zZ];simp) (by omega) hcap (by
    have:wB (w.alloc (.cells c el)) w.heap.size=c.size:=by
     unfold wB World.shape?;rw[heap_alloc_new];rfl
    rw[this];simpa using hc)
  simpa using this
theorem yX.newFz {X:Nat->Prop} {h:yC} {β:vP} {w:World} (H:qV X h β w) (c:Array Value) (el:Nat):yX X w h β (w.alloc (.cells c el)) h β:=by
 have hold:∀b,b<w.heap.size->(w.alloc (.cells c el)).heap[b]? =w.heap[b]? :=λb hb=>heap_alloc_old w _ b hb
 have hbs:∀k b n,(b,n)∈β k->wB (w.alloc (.cells c el)) b=wB w b:=λk b n hm=>by
  unfold wB World.shape?;rw[hold b (H.lt b (.inr ⟨k,n,hm⟩))]
 have E:GO w (xK X β) h β (w.alloc (.cells c el)) (xK X β) h β:=⟨by simp,λb hb hd=>⟨hold b hb,hd⟩,hbs,qO h β⟩;refine⟨by simp,λb hb _=>hold b hb,λk _ n hm=> .inl ⟨k,n,hm⟩,hbs,qO h β,⟨λk e he=>(H.ent k e he).evo E Z λb n hm=>hold b (H.lt b (.inr ⟨k,n,hm⟩)),H.off,H.disj,H.free,λb hd=>?_⟩,rfl,rfl,rfl⟩;exact yBl (H.lt b hd) zU
theorem xH.newArr {X:Nat->Prop} {h:yC} {β:vP} {w:World} (H:qV X h β w) (c:Array Value) (el sz:Nat) (xs:List AV) (cap:Nat) (f:Nat->Nat->Value) (hp:1<=sz) (hm:xs.length<=cQ)
  (hcap:xs.length<=cap) (hw:∀(i:Nat) (x:AV),xs[i]? =some x->x.cells.length=sz) (hf:∀i j,i<xs.length->j<sz->c[i*sz+j]? =some (f i j)) (h1:∀i j,i<xs.length->j<sz->(f i j).oneCell'=true)
  (hv:∀(i:Nat) (x:AV) (j:Nat) v,xs[i]? =some x->x.cells[j]? =some v->xH w (xK X β) v (f i j)):
  xH (w.alloc (.cells c el)) (xK X β) (.sl true xs) (.slice (some ⟨w.heap.size,0,none⟩) xs.length cap):=by
 have E:=(yX.newFz H c el).evo;by_cases hx:xs=[]
 ·subst hx;exact .nil1 _ _
 ·refine .sl true xs w.heap.size 0 sz cap f hx ⟨by simp,λhd=>?_,hp,hm,hw,λi j hi hj=>?_,h1⟩ hcap λi x j v hx hy=>(hv i x j v hx hy).evo E.size E.fz
  ·have:=H.lt _ hd;omega
  ·rw[yBu];simp only[World.cell?,heap_alloc_new];exact hf i j hi hj
theorem xH.wkF {w:World} {D:Nat->Prop} {nn:Bool} {xs:List AV} {c:Value} (h:xH w D (.sl nn xs) c):xH w D (.sl false xs) c:=by
 cases h with
 |nil a cap=>exact .nil a cap
 |nil1 a cap=>exact .nil _ cap
 |sl nn xs b o sz cap f hx hL hc hh=>exact .sl false xs b o sz cap f hx hL hc hh
end Av
end Go.Proofs.YteajjdidebfcjaaGreat
