/- Part 1. -/
import Derived.Below
import Derived.Orders
import Derived.LoopN
import Derived.Laws.Sem
import Derived.KernelRfl
import Derived.Laws.AppendOwn
import Derived.Laws.CopyRow
import Derived.IntWalk
import Derived.Laws.MakeOwn
namespace Go.Proofs.YteajjdidebfcjaaGreat
namespace Av
theorem Z{α:Sort _}{a:α}:a=a:=rfl
set_option linter.all false
def yBc:=@if_neg
def yBd:=@if_pos
def yBe:=@List.length_map
def yBf:=@List.length_append
def yBg:=@Nat.le_refl
def yBh:=@List.getElem?_map
def yBi:=@decide_eq_true_eq
def yBj:=@List.take_length
def yBk:=@decide_eq_true
def yBl:=@List.getD_eq_getElem?_getD
def yBm:=@decide_eq_false
def yBn:=@List.map_append
def yBo:=@List.take_of_length_le
def yBp:=@List.length_cons
def yBq:=@Bool.and_eq_true
def yBr:=@List.all_eq_true
def yBs:=@Option.map_eq_some_iff
def yBt:=@Nat.zero_le
def yBu:=@List.getElem?_eq_getElem
def yBv:=@Nat.le_of_ble_eq_true
def yBw:=@Bool.false_ne_true
def yBx:=@decide_eq_false_iff_not
def yBy:=@List.mem_append
def yBz:=@List.mem_range
def yB0:=@List.getElem?_eq_some_iff
def yB1:=@Nat.mul_le_mul_right
def yB2:=@Bool.true_and
def yB3:=@Array.getD_eq_getD_getElem?
def yB4:=@List.length_take
def yB5:=@Int.toNat_natCast
def yB6:=@List.getElem?_eq_none
def yB7:=@Nat.eq_of_beq_eq_true
def yB8:=@congrArg
def yB9:=@List.getElem?_append_right
def yCa:=@List.append_assoc
def yCb:=@List.eq_nil_of_length_eq_zero
def yCc:=@List.mem_map
def yCd:=@List.append_nil
def yCe:=@List.getElem?_range
def yCf:=@List.mem_singleton
def yCg:=@List.drop_zero
def yCh:=@List.map_cons
def yCi:=@List.getElem?_append_left
def yCj:=@List.length_drop
def yCk:=@List.mem_cons
def yCl:=@beq_iff_eq
def yCm:=@beq_eq_false_iff_ne
def yCn:=@Nat.add_mul
def yCo:=@Nat.lt_of_lt_of_le
def yCp:=@Nat.le_trans
def yCq:=@Option.some.injEq
def yCr:=@List.length_nil
def yCs:=@List.ext_getElem?
def yCt:=@List.mem_of_mem_drop
def yCu:=@cond_true
def yCv:=@Nat.zero_add
def yCw:=@List.length_replicate
def yCx:=@List.any_eq_true
def yCy:=@List.length_range
def yCz:=@List.mem_of_getElem?
def yC0:=@List.getElem?_set_self
def yC1:=@bne_eq_false_iff_eq
def yC2:=@Int.tmod_eq_emod_of_nonneg
def yC3:=@List.length_set
def yC4:=@Bool.false_and
def yC5:=@Int.tdiv_eq_ediv_of_nonneg
def yC6:=@List.getElem?_take
def yC7:=@List.getElem?_replicate
def yC8:=@Int.le_refl
def yC9:=@Prod.mk.injEq
def yDa:=@List.map_set
def yDb:=@List.mem_of_mem_take
def yDc:=@cond_false
def yDd:=@Nat.le_of_eq
def yDe:=@List.getElem?_set
def yDf:=@Array.getElem?_append_left
def yDg:=@Nat.one_mul
def yDh:=@Nat.sub_self
def yDi:=@Option.getD_some
def yDj:=@Bool.not_eq_true'
def yDk:=@List.nil_append
def yDl:=@List.getElem?_drop
def yDm:=@bne_iff_ne
def yDn:=@List.getElem_of_mem
def yDo:=@Bool.or_eq_true
def yDp:=@Nat.not_lt_zero
def yDq:=@Array.getElem?_eq_some_iff
def yDr:=@List.length_filter_le
def yDs:=@List.range_succ
def yDt:=@List.mem_flatten
def yDu:=@List.length_singleton
def yDv:=@List.flatten_cons
def yDw:=@List.take_append_of_le_length
def yDx:=@List.drop_eq_getElem_cons
def yDy:=@Option.some.inj
def yDz:=@Bool.not_eq_true
def yD0:=@List.cons_append
def yD1:=@List.getElem_mem
def yD2:=@List.map_nil
def yD3:=@List.contains_iff_mem
def yD4:=@List.any_eq_false
def yD5:=@Nat.mod_eq_of_lt
def yD6:=@Classical.byContradiction
def yD7:=@List.all_eq_false
def yD8:=@List.take_add_one
def yD9:=@List.getElem?_toArray
def yEa:=@List.set_append_right
def yEb:=@List.take_zero
def yEc:=@Nat.mul_le_mul
def yEd:=@List.mem_filter
def yEe:=@Option.map_none
def yEf:=@Int.emod_lt_of_pos
def yEg:=@ne_eq
def yEh:=@Bool.eq_false_iff
def yEi:=@List.size_toArray
def yEj:=@Array.length_toList
def yEk:=@List.mem_or_eq_of_mem_set
def yEl:=@Bool.or_true
def yEm:=@List.filter_append
def yEn:=@Nat.add_zero
def yEo:=@List.mem_iff_getElem
def yEp:=@Int.eq_ofNat_of_zero_le
def yEq:=@Int.emod_nonneg
def yEr:=@List.drop_succ_cons
def yEs:=@List.filter_eq_self
def yEt:=@List.map_congr_left
def yEu:=@List.zipWith_cons_cons
def yEv:=@Bool.false_or
def yEw:=@Int.fdiv_eq_ediv_of_nonneg
def yEx:=@Bool.and_false
def yEy:=@List.map_replicate
def yEz:=@List.take_append_drop
def yE0:=@Nat.ble_eq_true_of_le
def yE1:=@Array.getElem?_eq_getElem
def yE2:=@Bool.true_or
def yE3:=@Int.mul_le_mul_of_nonneg_right
def yE4:=@List.getElem?_of_mem
def yE5:=@List.replicate_succ
def yE6:=@List.drop_length
def yE7:=@List.drop_eq_nil_of_le
def yE8:=@Array.getElem?_append_right
def yE9:=@BitVec.toNat_ofNat
def yFa:=@List.mem_replicate
def yFb:=@Nat.zero_mul
def yFc:=@List.nodup_cons
def yFd:=@List.map_drop
def yFe:=@List.map_take
def yFf:=@Nat.lt_irrefl
def yFg:=@Decidable.not_not
def yFh:=@of_decide_eq_true
def yFi:=@BitVec.ofInt_natCast
def yFj:=@List.getElem?_set_ne
def yFk:=@List.mem_cons_of_mem
def yFl:=@List.pairwise_append
def yFm:=@Nat.pow_le_pow_right
def yFn:=@Int.mul_nonneg
def yFo:=@List.not_mem_nil
def yFp:=@List.take_append_getElem
def yFq:=@List.take_succ_eq_append_getElem
def yFr:=@Int.toNat_of_nonneg
def yFs:=@List.length_zipWith
def yFt:=@List.replicate_zero
def yFu:=@Bool.and_true
def yFv:=@Bool.eq_iff_iff
def yFw:=@List.pairwise_cons
def yFx:=@List.set_cons_zero
def yFy:=@List.drop_of_length_le
def yFz:=@List.drop_append_of_le_length
def yF0:=@List.foldl_append
def yF1:=@not_false_eq_true
def yF2:=@not_true_eq_false
def yF3:=@Bool.not_false
def yF4:=@Int.mul_le_mul
def yF5:=@Nat.mul_comm
def yF6:=@Nat.sub_zero
def yF7:=@List.filter_cons
def yF8:=@List.getElem?_zipIdx
def yF9:=@List.replicate_succ'
def yGa:=@Nat.le_of_mul_le_mul_right
def yGb:=@if_true
def yGc:=@List.mem_of_find?_eq_some
def yGd:=@Nat.mul_add_mod
def yGe:=@Bool.false_eq_true
def yGf:=@List.append_of_mem
def yGg:=@List.find?_eq_none
def yGh:=@List.map_map
def yGi:=@List.set_set
def yGj:=@Nat.le_of_lt
def yGk:=@Array.size_append
def yGl:=@Bool.not_true
def yGm:=@Nat.add_assoc
def yGn:=@Array.toList_map
def yGo:=@if_false
def yGp:=@or_false
def yGq:=@List.set_getElem_self
def yGr:=@List.singleton_append
def yGs:=@Array.getElem?_range
def yGt:=@Int.not_le
def yGu:=@Int.not_lt
def yGv:=@Array.getElem?_push
def yGw:=@List.flatten_append
def yGx:=@List.take_succ_cons
def yGy:=@List.nodup_nil
def yGz:=@Nat.sub_mul
def yG0:=@Array.getElem?_map
def yG1:=@Int.tmod_lt_of_pos
def yG2:=@Option.toList_some
def yG3:=@Bool.or_false
def yG4:=@List.all_cons
def yG5:=@Array.all_eq_true
def yG6:=@Array.toList_push
def yG7:=@List.find?_append
def yG8:=@Int.pow_succ
def yG9:=@List.mem_toArray
def yHa:=@Nat.lt_succ_self
def yHb:=@beq_self_eq_true
def yHc:=@Int.natCast_mul
def yHd:=@Int.tmod_nonneg
def yHe:=@List.find?_cons
def yHf:=@List.find?_some
def yHg:=@and_false
def yHh:=@Int.add_mul
def yHi:=@Int.one_mul
def yHj:=@List.mapM_cons
def yHk:=@Nat.testBit_or
def yHl:=@dif_pos
def yHm:=@eq_comm
def yHn:=@Nat.mod_lt
def yHo:=@List.any_cons
def yHp:=@Int.min_self
def yHq:=@decide_false
def yHr:=@false_and
def zQ {p:Prop} (h:p:=by simp):p:=h
def xO {p:Prop} (h:p:=by decide):p:=h
def wU {p:Prop} (h:p:=by(simp;omega)):p:=h
def vX {p:Prop} (h:p:=by simp[Op.operands]):p:=h
def qT {p:Prop} (h:p:=by simp[Op.operands,Call.operands]):p:=h
def bS {p:Prop} (h:p:=by simp[List.getD,hi']):p:=h
def TM {p:Prop} (h:p:=by kernel_rfl):p:=h
def MT {p:Prop} (h:p:=by simp[hx]):p:=h
def MU {p:Prop} (h:p:=by(have:=H.vl;omega)):p:=h
def HO {p:Prop} (h:p:=by simpa using h):p:=h
def UC {p:Prop} (h:p:=by(first|rfl|assumption)):p:=h
def UD {p:Prop} (h:p:=by simp[hi]):p:=h
def SZ {p:Prop} (h:p:=by(rw[yCj];omega)):p:=h
def OM {p:Prop} (h:p:=by simpa using hn):p:=h
def ON {p:Prop} (h:p:=by simpa using hi):p:=h
def OO {p:Prop} (h:p:=by simpa using h2):p:=h
def OP {p:Prop} (h:p:=by(rw[<-e3];exact hv)):p:=h
def OQ {p:Prop} (h:p:=by(rw[hh j hj];exact hk')):p:=h
def KB {p:Prop} (h:p:=by simpa using hv):p:=h
def KD {p:Prop} (h:p:=by(have:=J.n;omega)):p:=h
def KE {p:Prop} (h:p:=by simpa using h1):p:=h
def KG {p:Prop} (h:p:=by(rw[hk];rfl)):p:=h
def KH {p:Prop} (h:p:=by(rw[hk];exact q1)):p:=h
def BK {p:Prop} (h:p:=by(rw[yB4];omega)):p:=h
def BL {p:Prop} (h:p:=by simpa using hl):p:=h
def zD7 {p:Prop} (h:p:=by(rw[yBi];exact hs)):p:=h
def zD8 {p:Prop} (h:p:=by(rw[hk];decide)):p:=h
def zD9 {p:Prop} (h:p:=by(rw[hl]at hi;omega)):p:=h
def zEa {p:Prop} (h:p:=by simpa using this):p:=h
def zEb {p:Prop} (h:p:=by(rw[hbk,e];simp)):p:=h
def zEc {p:Prop} (h:p:=by(rw[hβ j hj];exact hb)):p:=h
def zMe {p:Prop} (h:p:=by(rw[yCw];exact hi)):p:=h
def zMf {p:Prop} (h:p:=by(rw[yC3,yBe];exact yBg _)):p:=h
def zMg {p:Prop} (h:p:=by(rw[hh j hk];exact hk')):p:=h
def zTj {p:Prop} (h:p:=by(rcases yBy.1 hx with h|h<;>simp[h])):p:=h
def zTk {p:Prop} (h:p:=by(rw[yCx];exact⟨x,hx,by simp[e]⟩)):p:=h
def zTl {p:Prop} (h:p:=by(rw[yB4,yCj];omega)):p:=h
def zTm {p:Prop} (h:p:=by(simp[List.getD];rw[yBu zB];simp)):p:=h
def zTn {p:Prop} (h:p:=by rw[<-yDx hi,yEz]):p:=h
def zTo {p:Prop} (h:p:=by rw[hN,yCg,<-hz3l,yBj]):p:=h
def zTp {p:Prop} (h:p:=by(rcases hk with hk|hk|hk|hk<;>rw[hk]<;>rfl)):p:=h
inductive AV where
 |bot
 |gh (n:Nat)
 |s (v:Value)
 |agg (cs:List AV)
 |sl (nn:Bool) (xs:List AV)
 |slc (cap:Nat) (xs:List AV)
 |ref (k off len:Nat)
 |ptr (k i off:Nat)
 |fp (xs:List AV) (i off:Nat)
 |fn (f:Nat) (caps:List AV)
 |tup (vs:List AV)
 |fm (ob:Option Nat) (p:Obj->Prop)
 deriving Inhabited
def AV.cells:AV->List AV
 | .agg cs=>cs
 |v=>[v]
def AV.isAgg:AV->Bool
 | .agg _=>true
 |_=>false
def cB:Nat:=9223372036854775807
structure Lay (w:World) (D:Nat->Prop) (xs:List AV) (b o sz:Nat) (f:Nat->Nat->Value):Prop where
 lt:b<w.heap.size
 nd:¬D b
 pos:1<=sz
 max:xs.length<=cB
 wide:∀(i:Nat) (x:AV),xs[i]? =some x->x.cells.length=sz
 cell:∀i j,i<xs.length->j<sz->w.cell? ⟨b,o+i*sz+j,none⟩=some (f i j)
 one:∀i j,i<xs.length->j<sz->(f i j).oneCell'=true
inductive xG (w:World) (D:Nat->Prop):AV->Value->Prop
 |bot (c:Value):xG w D .bot c
 |gh (n:Nat) (c:Value):xG w D (.gh n) c
 |s (v:Value):xG w D (.s v) v
 |agg (cs:List AV) (c:Array Value) (hl:c.size=cs.length) (h1:∀i,i<c.size->(c.getD i undef).oneCell'=true) (h:∀(i:Nat) v,cs[i]? =some v->xG w D v (c.getD i undef)):xG w D (.agg cs) (.agg c)
 |nil (a:Option Addr) (cap:Nat):xG w D (.sl false []) (.slice a 0 cap)
 |nil1 (a:Addr) (cap:Nat):xG w D (.sl true []) (.slice (some a) 0 cap)
 |sl (nn:Bool) (xs:List AV) (b o sz cap:Nat) (f:Nat->Nat->Value) (hx:xs≠[]) (hL:Lay w D xs b o sz f) (hc:xs.length<=cap)
  (h:∀(i:Nat) (x:AV) (j:Nat) v,xs[i]? =some x->x.cells[j]? =some v->xG w D v (f i j)):xG w D (.sl nn xs) (.slice (some ⟨b,o,none⟩) xs.length cap)
 |slc (cap:Nat) (xs:List AV) (b o sz:Nat) (f:Nat->Nat->Value) (hL:Lay w D xs b o sz f) (hc:xs.length<=cap)
  (h:∀(i:Nat) (x:AV) (j:Nat) v,xs[i]? =some x->x.cells[j]? =some v->xG w D v (f i j)):xG w D (.slc cap xs) (.slice (some ⟨b,o,none⟩) xs.length cap)
 |fp (xs:List AV) (b o sz i off:Nat) (f:Nat->Nat->Value) (hL:Lay w D xs b o sz f) (hi:i<xs.length) (ho:off<sz)
  (h:∀(i:Nat) (x:AV) (j:Nat) v,xs[i]? =some x->x.cells[j]? =some v->xG w D v (f i j)):xG w D (.fp xs i off) (.pointer (some ⟨b,o+i*sz+off,none⟩))
 |fm (ob:Option Nat) (p:Obj->Prop) (b:Nat) (x:Obj) (ho:∀n,ob=some n->n=b) (hl:b<w.heap.size) (hd:¬D b) (hx:w.heap[b]? =some x) (hp:p x):xG w D (.fm ob p) (.map (some b))
structure Fl where
 stale:Bool
 nest:Bool
instance:Coe Bool Fl:=⟨λb=>⟨b,false⟩⟩
inductive xM where
 |box (cs:List AV)
 |arr (sz:Nat) (xs:List AV) (fl:Fl)
 |dead
 |obj (o:Nat×(Obj->Prop))
abbrev yD:=Nat->Option xM
abbrev vM:=Nat->List (Nat×Nat)
def wB (w:World) (b:Nat):Nat:=((w.shape? b).map (·.2)).getD 0
inductive zU (w:World) (D:Nat->Prop) (h:yD) (β:vM):AV->Value->Prop
 |fz (v:AV) (c:Value) (hf:xG w D v c):zU w D h β v c
 |agg (cs:List AV) (c:Array Value) (hl:c.size=cs.length) (h1:∀i,i<c.size->(c.getD i undef).oneCell'=true) (hh:∀(i:Nat) v,cs[i]? =some v->zU w D h β v (c.getD i undef)):zU w D h β (.agg cs) (.agg c)
 |fn (f:Nat) (caps:List AV) (c:Array Value) (hl:c.size=caps.length) (hh:∀(i:Nat) v,caps[i]? =some v->zU w D h β v (c.getD i undef)):zU w D h β (.fn f caps) (.func (.func f) #[] c)
 |tup (vs:List AV) (c:Array Value) (hl:c.size=vs.length) (hh:∀(i:Nat) v,vs[i]? =some v->zU w D h β v (c.getD i undef)):zU w D h β (.tup vs) (.tuple c)
 |dref (k off len:Nat) (c:Value) (hk:h k=some .dead) (h1:c.oneCell'=true):zU w D h β (.ref k off len) c
 |dptr (k i off:Nat) (c:Value) (hk:h k=some .dead) (h1:c.oneCell'=true):zU w D h β (.ptr k i off) c
 |ref (k off len sz:Nat) (xs:List AV) (st:Fl) (b n cap:Nat) (hk:h k=some (.arr sz xs st)) (hb:(b,n)∈β k) (hn:off+len<=n) (hc:len<=cap) (hs:(off+cap)*sz=wB w b):
  zU w D h β (.ref k off len) (.slice (some ⟨b,off*sz,none⟩) len cap)
 |ref0 (k off sz:Nat) (xs:List AV) (st:Fl) (a:Option Addr) (hk:h k=some (.arr sz xs st)) (hn:off<=xs.length):zU w D h β (.ref k off 0) (.slice a 0 0)
 |pbox (k off:Nat) (cs:List AV) (b n:Nat) (hk:h k=some (.box cs)) (hb:(b,n)∈β k):zU w D h β (.ptr k 0 off) (.pointer (some ⟨b,off,none⟩))
 |parr (k i off sz:Nat) (xs:List AV) (st:Fl) (b n:Nat) (hk:h k=some (.arr sz xs st)) (hb:(b,n)∈β k) (hi:i<n) (ho:off<sz):
  zU w D h β (.ptr k i off) (.pointer (some ⟨b,i*sz+off,none⟩))
def xP (X:Nat->Prop) (β:vM) (b:Nat):Prop:=X b∨∃k n,(b,n)∈β k
def jZ (w:World) (D:Nat->Prop) (h:yD) (β:vM) (nest:Bool) (xs:List AV) (f:Nat->Nat->Value):Prop:=
 ∀(i:Nat) (x:AV) (j:Nat) v,xs[i]? =some x->x.cells[j]? =some v->zU w D h β v (f i j)/\(nest=false->xG w D v (f i j))
theorem jZ.ofF {w:World} {D:Nat->Prop} {h:yD} {β:vM} {nest:Bool} {xs:List AV} {f:Nat->Nat->Value} (H:∀(i:Nat) (x:AV) (j:Nat) v,xs[i]? =some x->x.cells[j]? =some v->xG w D v (f i j)):jZ w D h β nest xs f:=
 λi x j v hx hv=>⟨.fz _ _ (H i x j v hx hv),λ_=>H i x j v hx hv⟩
theorem jZ.toF {w:World} {D:Nat->Prop} {h:yD} {β:vM} {nest:Bool} {xs:List AV} {f:Nat->Nat->Value} (H:jZ w D h β nest xs f) (hn:nest=false) (i:Nat) (x:AV) (j:Nat) (v:AV) (hx:xs[i]? =some x) (hv:x.cells[j]? =some v):xG w D v (f i j):=
 (H i x j v hx hv).2 hn
theorem jZ.toV {w:World} {D:Nat->Prop} {h:yD} {β:vM} {nest:Bool} {xs:List AV} {f:Nat->Nat->Value} (H:jZ w D h β nest xs f) (i:Nat) (x:AV) (j:Nat) (v:AV) (hx:xs[i]? =some x) (hv:x.cells[j]? =some v):zU w D h β v (f i j):=
 (H i x j v hx hv).1
def UE (w:World) (D:Nat->Prop) (h:yD) (β:vM) (k:Nat):xM->Prop
 | .box cs=>∃b c el,β k=[(b,0)]/\w.heap[b]? =some (.cells c el (0,0))/\c.size=cs.length/\(∀i,i<c.size->(c.getD i undef).oneCell'=true)/\∀(i:Nat) v,cs[i]? =some v->zU w D h β v (c.getD i undef)
 | .obj o=>β k=[(o.1,0)]/\∃x,w.heap[o.1]? =some x/\o.2 x
 | .arr sz xs st=>1<=sz/\xs.length<=cB/\(xs≠[]->β k≠[])/\(∀(i:Nat) (x:AV),xs[i]? =some x->x.cells.length=sz)/\
  (∀b n r,β k=(b,n)::r->n=xs.length/\(st.stale=false->∀b' n',(b',n')∈r->n'=0)/\∀b' n',(b',n')∈r->n'<xs.length)/\
  ∃f:Nat->Nat->Value,jZ w D h β st.nest xs f/\(∀i j,i<xs.length->j<sz->(f i j).oneCell'=true)/\
   ∀b n,(b,n)∈β k->∃c el,w.heap[b]? =some (.cells c el (0,0))/\n*sz<=c.size/\(∀i j,i<n->j<sz->c[i*sz+j]? =some (f i j))/\∀i,i<c.size->(c.getD i undef).oneCell'=true
 | .dead=>β k=[]
structure qX (X:Nat->Prop) (h:yD) (β:vM) (w:World):Prop where
 ent:∀k e,h k=some e->UE w (xP X β) h β k e
 off:∀k,h k=none->β k=[]
 disj:∀k k' b n n',(b,n)∈β k->(b,n')∈β k'->k=k'
 free:∀k b n,(b,n)∈β k->¬X b
 lt:∀b,xP X β b->b<w.heap.size
structure FL (w:World) (D:Nat->Prop) (h:yD) (β:vM) (w':World) (D':Nat->Prop) (h':yD) (β':vM):Prop where
 size:w.heap.size<=w'.heap.size
 fz:∀b,b<w.heap.size->¬D b->w'.heap[b]? =w.heap[b]? /\¬D' b
 bs:∀k b n,(b,n)∈β k->wB w' b=wB w b
 key:∀k e,h k=some e->h' k=some .dead∨match e with
  | .dead=>False
  | .box _=>(∃cs',h' k=some (.box cs'))/\∀b n,(b,n)∈β k->(b,n)∈β' k
  | .obj _=>(∃cs',h' k=some (.obj cs'))/\∀b n,(b,n)∈β k->(b,n)∈β' k
  | .arr sz xs _=>(∃xs' st',h' k=some (.arr sz xs' st')/\xs.length<=xs'.length)/\∀b n,(b,n)∈β k->∃n',n<=n'/\(b,n')∈β' k
theorem Lay.evo {w w':World} {D D':Nat->Prop} {xs:List AV} {b o sz:Nat} {f:Nat->Nat->Value} (hL:Lay w D xs b o sz f) (hs:w.heap.size<=w'.heap.size)
  (hf:∀b,b<w.heap.size->¬D b->w'.heap[b]? =w.heap[b]? /\¬D' b):Lay w' D' xs b o sz f:=
 ⟨yCo hL.lt hs,(hf b hL.lt hL.nd).2,hL.pos,hL.max,hL.wide,λi j hi hj=>(World.cell?_of_block (a:=⟨b,o+i*sz+j,none⟩) (hf b hL.lt hL.nd).1).trans (hL.cell i j hi hj),hL.one⟩
theorem xG.evo {w w':World} {D D':Nat->Prop} (hs:w.heap.size<=w'.heap.size) (hf:∀b,b<w.heap.size->¬D b->w'.heap[b]? =w.heap[b]? /\¬D' b)
  {v:AV} {c:Value} (h:xG w D v c):xG w' D' v c:=by
 induction h with
 |bot c=>exact .bot c
 |gh n c=>exact .gh n c
 |s v=>exact .s v
 |agg cs c hl h1 _ ih=>exact .agg cs c hl h1 ih
 |nil a cap=>exact .nil a cap
 |nil1 a cap=>exact .nil1 a cap
 |sl nn xs b o sz cap f hx hL hc _ ih=>exact .sl nn xs b o sz cap f hx (hL.evo hs hf) hc ih
 |slc cap xs b o sz f hL hc _ ih=>exact .slc cap xs b o sz f (hL.evo hs hf) hc ih
 |fp xs b o sz i off f hL hi ho _ ih=>exact .fp xs b o sz i off f (hL.evo hs hf) hi ho ih
 |fm ob p b x ho hl hd hx hp=>exact .fm ob p b x ho (yCo hl hs) (hf b hl hd).2 ((hf b hl hd).1.trans hx) hp
theorem zU.evo {w w':World} {D D':Nat->Prop} {h h':yD} {β β':vM} (E:FL w D h β w' D' h' β') {v:AV} {c:Value} (hv:zU w D h β v c):zU w' D' h' β' v c:=by
 induction hv with
 |fz v c hf=>exact .fz v c (hf.evo E.size E.fz)
 |agg cs c hl h1 _ ih=>exact .agg cs c hl h1 ih
 |fn f caps c hl _ ih=>exact .fn f caps c hl ih
 |tup vs c hl _ ih=>exact .tup vs c hl ih
 |dref k off len c hk h1=>exact .dref _ _ _ _ ((E.key k _ hk).resolve_right (λf=>f)) h1
 |dptr k i off c hk h1=>exact .dptr _ _ _ _ ((E.key k _ hk).resolve_right (λf=>f)) h1
 |ref k off len sz xs st b n cap hk hb hn hc hs=>
  rcases E.key k _ hk with hd|⟨⟨xs',st',hk',_⟩,hm⟩
  ·exact .dref _ _ _ _ hd Z
  ·obtain⟨n',hn',hb'⟩:=hm b n hb;exact .ref k off len sz xs' st' b n' cap hk' hb' (yCp hn hn') hc (by rw[E.bs k b n hb];exact hs)
 |ref0 k off sz xs st a hk hn=>
  rcases E.key k _ hk with hd|⟨⟨xs',st',hk',hl⟩,hm⟩
  ·exact .dref _ _ _ _ hd Z
  ·exact .ref0 k off sz xs' st' a hk' (yCp hn hl)
 |pbox k off cs b n hk hb=>
  rcases E.key k _ hk with hd|⟨⟨cs',hk'⟩,hm⟩
  ·exact .dptr _ _ _ _ hd Z
  ·exact .pbox k off cs' b n hk' (hm b n hb)
 |parr k i off sz xs st b n hk hb hi ho=>
  rcases E.key k _ hk with hd|⟨⟨xs',st',hk',hl⟩,hm⟩
  ·exact .dptr _ _ _ _ hd Z
  ·obtain⟨n',hn',hb'⟩:=hm b n hb;exact .parr k i off sz xs' st' b n' hk' hb' (yCo hi hn') ho
theorem jZ.evo {w w':World} {D D':Nat->Prop} {h h':yD} {β β':vM} (E:FL w D h β w' D' h' β') {nest:Bool} {xs:List AV} {f:Nat->Nat->Value} (H:jZ w D h β nest xs f):jZ w' D' h' β' nest xs f:=
 λi x j v hx hv=>⟨(H i x j v hx hv).1.evo E,λhn=>((H i x j v hx hv).2 hn).evo E.size E.fz⟩
structure yW (X:Nat->Prop) (w:World) (h:yD) (β:vM) (w':World) (h':yD) (β':vM):Prop where
 size:w.heap.size<=w'.heap.size
 keep:∀b,b<w.heap.size->(∀k n,(b,n)∉β k)->w'.heap[b]? =w.heap[b]?
 own:∀k b n,(b,n)∈β' k->(∃k' n',(b,n')∈β k')∨w.heap.size<=b
 bs:∀k b n,(b,n)∈β k->wB w' b=wB w b
 key:∀k e,h k=some e->h' k=some .dead∨match e with
  | .dead=>False
  | .box _=>(∃cs',h' k=some (.box cs'))/\∀b n,(b,n)∈β k->(b,n)∈β' k
  | .obj _=>(∃cs',h' k=some (.obj cs'))/\∀b n,(b,n)∈β k->(b,n)∈β' k
  | .arr sz xs _=>(∃xs' st',h' k=some (.arr sz xs' st')/\xs.length<=xs'.length)/\∀b n,(b,n)∈β k->∃n',n<=n'/\(b,n')∈β' k
 hok:qX X h' β' w'
 os:w'.os=w.os
 tape:w'.tape=w.tape
 output:w'.output=w.output
theorem yW.evo {X:Nat->Prop} {w w':World} {h h':yD} {β β':vM} (G:yW X w h β w' h' β'):FL w (xP X β) h β w' (xP X β') h' β' where
 size:=G.size
 fz b hb hd:=by
  have h1:∀k n,(b,n)∉β k:=λk n hm=>hd (.inr ⟨k,n,hm⟩)
  refine⟨G.keep b hb h1,?_⟩;rintro(hx|⟨k,n,hm⟩)
  ·exact hd (.inl hx)
  ·rcases G.own k b n hm with⟨k',n',h2⟩|h2
   ·exact h1 _ _ h2
   ·omega
 bs:=G.bs
 key:=G.key
def qV (h:yD) (β:vM):∀k e,h k=some e->h k=some .dead∨match e with
  | .dead=>False
  | .box _=>(∃cs',h k=some (.box cs'))/\∀b n,(b,n)∈β k->(b,n)∈β k
  | .obj _=>(∃cs',h k=some (.obj cs'))/\∀b n,(b,n)∈β k->(b,n)∈β k
  | .arr sz xs _=>(∃xs' st',h k=some (.arr sz xs' st')/\xs.length<=xs'.length)/\∀b n,(b,n)∈β k->∃n',n<=n'/\(b,n')∈β k:=by
 intro k e he
 cases e with
 |dead=>exact .inl he
 |box cs=>exact .inr ⟨⟨cs,he⟩,λ_ _ h=>h⟩
 |obj cs=>exact .inr ⟨⟨cs,he⟩,λ_ _ h=>h⟩
 |arr sz xs st=>exact .inr ⟨⟨xs,st,he,yBg _⟩,λ_ n h=>⟨n,yBg _,h⟩⟩
theorem yW.refl {X:Nat->Prop} {h:yD} {β:vM} {w:World} (H:qX X h β w):yW X w h β w h β:=
 ⟨yBg _,λ_ _ _=>rfl,λk _ n hm=> .inl ⟨k,n,hm⟩,λ_ _ _ _=>rfl,qV h β,H,rfl,rfl,rfl⟩
theorem qX.drew {X:Nat->Prop} {h:yD} {β:vM} {w:World} (H:qX X h β w) (n:Nat):qX X h β {w with drawn:=n}:=by
 have ev:∀{v c},zU w (xP X β) h β v c->zU {w with drawn:=n} (xP X β) h β v c:=λhv=>
  zU.evo (w:=w) (w':={w with drawn:=n}) (D':=xP X β) (h':=h) (β':=β) ⟨yBg _,λ_ _ hd=>⟨rfl,hd⟩,λ_ _ _ _=>rfl,qV h β⟩ hv
 have ef:∀{v c},xG w (xP X β) v c->xG {w with drawn:=n} (xP X β) v c:=λhv=>xG.evo (w:=w) (w':={w with drawn:=n}) (D':=xP X β) (yBg _) (λ_ _ hd=>⟨rfl,hd⟩) hv
 refine⟨λk e he=>?_,H.off,H.disj,H.free,H.lt⟩;have:=H.ent k e he
 cases e with
 |dead=>exact this
 |box cs=>
  obtain⟨b,c,el,h1,h2,h3,h4,h5⟩:=this;exact⟨b,c,el,h1,h2,h3,h4,λi v hv=>ev (h5 i v hv)⟩
 |obj cs=>
  exact this
 |arr sz xs st=>
  obtain⟨h1,h2,h3,h4,h5,f,h6,h7⟩:=this;exact⟨h1,h2,h3,h4,h5,f,λi x j v hx hv=>⟨ev (h6 i x j v hx hv).1,λhn=>ef ((h6 i x j v hx hv).2 hn)⟩,h7⟩
theorem yW.drew {X:Nat->Prop} {h:yD} {β:vM} {w:World} (H:qX X h β w) (n:Nat):yW X w h β {w with drawn:=n} h β:=
 ⟨yBg _,λ_ _ _=>rfl,λk _ n hm=> .inl ⟨k,n,hm⟩,λ_ _ _ _=>rfl,qV h β,H.drew n,rfl,rfl,rfl⟩
theorem yW.trans {X:Nat->Prop} {w w' w'':World} {h h' h'':yD} {β β' β'':vM} (H:qX X h β w) (G:yW X w h β w' h' β') (K:yW X w' h' β' w'' h'' β''):yW X w h β w'' h'' β'' where
 size:=yCp G.size K.size
 keep b hb hn:=by
  rw[K.keep b (yCo hb G.size),G.keep b hb hn];intro k n hm
  rcases G.own k b n hm with⟨k',n',h2⟩|h2
  ·exact hn _ _ h2
  ·omega
 own k b n hm:=by
  rcases K.own k b n hm with⟨k',n',h2⟩|h2
  ·exact G.own k' b n' h2
  ·exact .inr (yCp G.size h2)
 bs k b n hm:=by
  have hb:=H.lt b (.inr ⟨k,n,hm⟩);by_cases hd:∃k n,(b,n)∈β' k
  ·obtain⟨k',n',hm'⟩:=hd;rw[K.bs k' b n' hm',G.bs k b n hm]
  ·rw[<-G.bs k b n hm];unfold wB World.shape?;rw[K.keep b (yCo hb G.size) λk n hm=>hd ⟨k,n,hm⟩]
 key k e he:=by
  rcases G.key k e he with h1|h1
  ·rcases K.key k _ h1 with h2|h2
   ·exact .inl h2
   ·exact h2.elim
  ·cases e with
   |dead=>exact h1.elim
   |box cs=>
    obtain⟨⟨cs',h2⟩,h3⟩:=h1
    rcases K.key k _ h2 with h4|⟨h4,h5⟩
    ·exact .inl h4
    ·exact .inr ⟨h4,λb n hm=>h5 b n (h3 b n hm)⟩
   |obj cs=>
    obtain⟨⟨cs',h2⟩,h3⟩:=h1
    rcases K.key k _ h2 with h4|⟨h4,h5⟩
    ·exact .inl h4
    ·exact .inr ⟨h4,λb n hm=>h5 b n (h3 b n hm)⟩
   |arr sz xs st=>
    obtain⟨⟨xs',st',h2,hl⟩,h3⟩:=h1
    rcases K.key k _ h2 with h4|⟨⟨xs'',st'',h4,hl'⟩,h5⟩
    ·exact .inl h4
    ·refine .inr ⟨⟨xs'',st'',h4,yCp hl hl'⟩,λb n hm=>?_⟩;obtain⟨n',hn',hm'⟩:=h3 b n hm;obtain⟨n'',hn'',hm''⟩:=h5 b n' hm';exact⟨n'',yCp hn' hn'',hm''⟩
 hok:=K.hok
 os:=K.os.trans G.os
 tape:=K.tape.trans G.tape
 output:=K.output.trans G.output
section
inductive TD where
 |str (fs:List (Nat×Nat))
 |slice (e:Nat)
 |arr (n e:Nat)
 |int (k:IntKind)
 |bool
 |string
 |ptr (e:Nat)
 |func
 |other
structure TI where
 d:TD
 size:Nat
 bytes:Nat
 zero:List Value
def TD.agg:TD->Bool
 | .str _| .arr _ _=>true
 |_=>false
def YD:TypeDesc->TD
 | .struct fs=> .str (fs.toList.map λf=>(f.offset,f.type))
 | .slice e=> .slice e
 | .array n e=> .arr n e
 | .int k=> .int k
 | .bool=> .bool
 | .string=> .string
 | .pointer e=> .ptr e
 | .func .. => .func
 |_=> .other
def zMh (P:Program) (t:Nat):Option TI:=
 match P.info? t,P.underlying t with
 |some i,some u=>i.zero.map λz=>⟨YD u,i.size,i.bytes,z.cells.toList⟩
 |_,_=>none
def uG (P:Program) (TT:List TI):Prop:=∀(t:Nat) ti,TT[t]? =some ti->zMh P t=some ti
def wR {P:Program} {t:Nat} {ti:TI} (h:zMh P t=some ti):∃i u z,P.info? t=some i/\P.underlying t=some u/\i.zero=some z/\ti.d=YD u/\ti.size=i.size/\ti.bytes=i.bytes/\ti.zero=z.cells.toList:=by
 unfold zMh at h;split at h
 ·rename_i i u hi hu
  cases hz:i.zero with
  |none=>simp[hz]at h
  |some z=>
   simp[hz]at h;exact⟨i,u,z,hi,hu,hz,by rw[<-h],by rw[<-h],by rw[<-h],by rw[<-h]⟩
 ·cases h
section runs
variable {P:Program} {t:Nat} {ti:TI} (h:zMh P t=some ti) (w:World)
include h
def BM:∃i z,(typeInfo t).run P w= .ok i w/\i.size=ti.size/\i.bytes=ti.bytes/\i.zero=some z/\z.cells.toList=ti.zero:=by
 obtain⟨i,u,z,hi,_,hz,_,hs,hb,hzz⟩:=wR h;exact⟨i,z,by simp[typeInfo,hi],hs.symm,hb.symm,hz,hzz.symm⟩
def uT:(sizeOf t).run P w= .ok ti.size w:=by
 obtain⟨i,z,hr,hs,_⟩:=BM h w;simp[sizeOf,hr,hs]
def zMi:∃z,(zeroValue t).run P w= .ok z w/\z.cells.toList=ti.zero:=by
 obtain⟨i,z,hr,_,_,hz,hzz⟩:=BM h w;exact⟨z,by simp[zeroValue,hr,hz],hzz⟩
def xZ:∃u,(underlying t).run P w= .ok u w/\YD u=ti.d:=by
 obtain⟨i,u,z,_,hu,_,hd,_⟩:=wR h;exact⟨u,by simp[underlying,hu],hd.symm⟩
def HP:(isAgg t).run P w= .ok ti.d.agg w:=by
 obtain⟨u,hr,hd⟩:=xZ h w;rw[<-hd];simp only[isAgg,Sem.run_bind,hr,Result.andThen_ok]
 cases u<;>rfl
end runs
def cN {P:Program} {t:Nat} (w:World) {u:TypeDesc} (hu:P.underlying t=some u):(underlying t).run P w= .ok u w:=by simp[underlying,hu]
def vP {u:TypeDesc} {e:Nat} (h:YD u= .slice e):u= .slice e:=by cases u<;>simp[YD]at h;rw[h]
def zMj {u:TypeDesc} {n e:Nat} (h:YD u= .arr n e):u= .array n e:=by cases u<;>simp[YD]at h;rw[h.1,h.2]
def TN {u:TypeDesc} {k:IntKind} (h:YD u= .int k):u= .int k:=by cases u<;>simp[YD]at h;rw[h]
def zRd {u:TypeDesc} (h:YD u= .bool):u= .bool:=by cases u<;>simp[YD]at h;rfl
def zF5 {u:TypeDesc} (h:YD u= .string):u= .string:=by cases u<;>simp[YD]at h;rfl
def HQ {u:TypeDesc} {fs:List (Nat×Nat)} (h:YD u= .str fs):∃f,u= .struct f/\f.toList.map (λf=>(f.offset,f.type))=fs:=by
 cases u with
 |struct f=>exact⟨f,rfl,by simpa [YD]using h⟩
 |_=>simp[YD]at h
structure St where
 tm:List (Nat×AV)
 h:List (Nat×xM)
def zG:List (Nat×AV)->Nat->AV
 | [],_=> .bot
 |(k,v)::r,t=>bif Nat.beq t k then v else zG r t
def zC:List (Nat×xM)->Nat->Option xM
 | [],_=>none
 |(k,e)::r,t=>bif Nat.beq t k then some e else zC r t
def over (d:List (Nat×xM)) (h:yD):yD:=λk=>match zC d k with
 |some e=>some e
 |none=>h k
def yK (tm:Nat->AV):Operand->AV
 | .tmp t=>tm t
 | .const v=> .s v
 | .func f=> .fn f []
 | .global _=> .bot
def fP (op:Op):List Nat:=op.operands.toList.filterMap λ| .tmp t=>some t|_=>none
def dB (P:Program) (N:Value->World->Prop):Result Next->Prop
 | .ok (.value c) w'=>N c w'
 | .ok .skip w'=>N undef w'
 | .ok (.enter f args) w'=>Calls P f args w' λe w''=>∃c,e= .returned c/\N c w''
 |_=>False
def zZe (P:Program) (X:Nat->Prop) (tm:Nat->AV) (h:yD) (op:Op) (v:AV) (h':yD):Prop:=
 ∀(o:Oper) (a:Act) (w:World) (β:vM),o.op=op->qX X h β w->(∀t,zU w (xP X β) h β (tm t) (a.eval (.tmp t)))->
  dB P (λc w'=>∃β',yW X w h β w' h' β'/\zU w' (xP X β') h' β' v c) ((execOp a.eval o).run P w)
structure wP (P:Program) (st:St) (op:Op) (v:AV) (d:List (Nat×xM)) (r nw:List Nat):Prop where
 run:∀(X:Nat->Prop) (tm:Nat->AV) (h:yD),(∀t,t∈fP op->tm t=zG st.tm t)->(∀k,k∈r->h k=zC st.h k)->(∀k,k∈nw->h k=none)->zZe P X tm h op v (over d h)
section
variable {w:World} {D:Nat->Prop} {h:yD} {β:vM}
def fA {tm:Nat->AV} {a:Act} (H:∀t,zU w D h β (tm t) (a.eval (.tmp t))) (x:Operand):zU w D h β (yK tm x) (a.eval x):=by
 cases x with
 |tmp t=>exact H t
 |const v=>exact .fz _ _ (.s v)
 |global g=>exact .fz _ _ (.bot _)
 |func f=>exact .fn f [] #[] Z (λi v hv=>by simp at hv)
def zF6 {op:Op} {tm tm':Nat->AV} (H:∀t,t∈fP op->tm t=tm' t) {x:Operand} (hx:x∈op.operands):yK tm x=yK tm' x:=by
 cases x with
 |tmp t=>exact H t (by simp only[fP,List.mem_filterMap];exact⟨.tmp t,by simpa using hx,rfl⟩)
 |_=>rfl
theorem zU.s_inv {x c:Value} (hv:zU w D h β (.s x) c):c=x:=by
 cases hv with
 |fz _ _ hf=>cases hf;rfl
def hG {op:Op} {tm:Nat->AV} {st:St} {a:Act} (H:∀t,zU w D h β (tm t) (a.eval (.tmp t))) (hg:∀t,t∈fP op->tm t=zG st.tm t) {x:Operand} (hx:x∈op.operands) {v:AV}
  (hv:yK (zG st.tm) x=v):zU w D h β v (a.eval x):=by
 rw[<-hv,<-zF6 hg hx];exact fA H x
def vI {op:Op} {tm:Nat->AV} {st:St} {a:Act} (H:∀t,zU w D h β (tm t) (a.eval (.tmp t))) (hg:∀t,t∈fP op->tm t=zG st.tm t) {x:Operand} (hx:x∈op.operands) {v:Value}
 (hv:yK (zG st.tm) x= .s v):a.eval x=v:=(hG H hg hx hv).s_inv
end
def kE (h:yD):over [] h=h:=rfl
def yN {P:Program} {st:St} {op:Op} {v:AV} {r:List Nat}
  (H:∀(o:Oper) (X:Nat->Prop) (tm:Nat->AV) (h:yD) (w:World) (β:vM) (a:Act),o.op=op->(∀t,t∈fP op->tm t=zG st.tm t)->(∀k,k∈r->h k=zC st.h k)->qX X h β w->
   (∀t,zU w (xP X β) h β (tm t) (a.eval (.tmp t)))->∃c,(execOp a.eval o).run P w= .ok (.value c) w/\zU w (xP X β) h β v c):wP P st op v [] r []:=by
 refine⟨?_⟩;intro X tm h hg hr _ o a w β ho HH Ht;obtain⟨c,hc,hv⟩:=H o X tm h w β a ho hg hr HH Ht;rw[hc,kE];exact⟨β,yW.refl HH,hv⟩
section ops
variable {P:Program} {TT:List TI} {st:St}
def zMk {x:Operand} {v:AV} (hv:yK (zG st.tm) x=v):wP P st (.move x) v [] [] []:=
 yN λo X tm h w β a ho hg _ _ Ht=>by
  obtain⟨dst,op',type,pos,after,guard⟩:=o;dsimp only at ho;subst ho;exact⟨a.eval x,rfl,hG Ht hg vX hv⟩
def zBm {x:Operand} {v:AV} (hv:yK (zG st.tm) x=v):wP P st (.assign x) v [] [] []:=
 yN λo X tm h w β a ho hg _ _ Ht=>by
  obtain⟨dst,op',type,pos,after,guard⟩:=o;dsimp only at ho;subst ho;exact⟨a.eval x,rfl,hG Ht hg vX hv⟩
def zMl {c x y:Operand} {t:Bool} {v:AV} (hc:yK (zG st.tm) c= .s (.bool t)) (hv:(bif t then yK (zG st.tm) x else yK (zG st.tm) y)=v):wP P st (.pick c x y) v [] [] []:=
 yN λo X tm h w β a ho hg _ _ Ht=>by
  obtain⟨dst,op',type,pos,after,guard⟩:=o;dsimp only at ho;subst ho;have h1:=vI Ht hg (x:=c) vX hc;refine⟨if t then a.eval x else a.eval y,by simp[execOp,h1,asBool],?_⟩;cases t
  ·exact hG Ht hg vX hv
  ·exact hG Ht hg vX hv
def BN {x:Operand} {vs:List AV} {i:Nat} {v:AV} (hx:yK (zG st.tm) x= .tup vs) (hv:vs[i]? =some v):wP P st (.extract x i) v [] [] []:=
 yN λo X tm h w β a ho hg _ _ Ht=>by
  obtain⟨dst,op',type,pos,after,guard⟩:=o;dsimp only at ho;subst ho;have h1:=hG Ht hg (x:=x) vX hx;have hi:=(yB0.1 hv).1;generalize he:a.eval x=cx at h1
  cases h1 with
  |fz _ _ hf=>cases hf
  |tup _ c hl hh=>
   obtain⟨u,hc⟩:∃u,c[i]? =some u:=⟨c[i],by simp[show i<c.size by omega]⟩;have hu:c.getD i undef=u:=by simp[yB3,hc]
   exact⟨u,by simp[execOp,Instr.extract,he,hc],hu▸hh i v hv⟩
def aA:IntKind->Int->Prop
 | .i64,n=> -9223372036854775808<=n/\n<=9223372036854775807
 | .u8,n=>0<=n/\n<=255
 | .i32,n=> -2147483648<=n/\n<=2147483647
 | .u32,n=>0<=n/\n<=4294967295
 | .u64,n=>0<=n/\n<=18446744073709551615
 | .i8,n=> -128<=n/\n<=127
 | .i16,n=> -32768<=n/\n<=32767
 | .u16,n=>0<=n/\n<=65535
def qW {k:IntKind} {n:Int} (h:aA k n):k.wrap n=n:=by
 cases k<;>first
  |exact IntWalk.i64_in n h
  |exact IntWalk.u8_in n h
  |exact IntWalk.i32_in n h
  |exact IntWalk.u32_in n h
  |exact IntWalk.u64_in n h
  |exact IntWalk.i8_in n h
  |exact IntWalk.i16_in n h
  |exact IntWalk.u16_in n h
def uM {op:BinOp} {tx ty:Nat} {x y:Operand} {k:IntKind} {m n:Int} {v:Value} (hx:yK (zG st.tm) x= .s (.int k m)) (hy:yK (zG st.tm) y= .s (.int k n))
  (H:∀w,(binOp op tx (.int k m) (.int k n)).run P w= .ok v w):wP P st (.binOp op tx x y ty) (.s v) [] [] []:=
 yN λo X tm h w β a ho hg _ _ Ht=>by
  obtain⟨dst,op',type,pos,after,guard⟩:=o;dsimp only at ho;subst ho;have h1:=vI Ht hg (x:=x) vX hx;have h2:=vI Ht hg (x:=y) vX hy;refine⟨v,?_,.fz _ _ (.s v)⟩
  have hgd:(eqGuard op tx x y (.int k m) (.int k n)).run P w= .ok () w:=by
   unfold eqGuard;cases op<;>rfl
  simp only[execOp,h1,h2,Sem.run_bind,hgd,Result.andThen_ok,H,Sem.run_pure]
section
variable {tx ty:Nat} {x y:Operand} {k:IntKind} {m n:Int} (hx:yK (zG st.tm) x= .s (.int k m)) (hy:yK (zG st.tm) y= .s (.int k n))
include hx hy
def QJ (hr:aA k (m+n)):wP P st (.binOp .add tx x y ty) (.s (.int k (m+n))) [] [] []:=uM hx hy λw=>by simp[binOp,Op.intArith,qW hr]
def zRe (hr:aA k (m-n)):wP P st (.binOp .sub tx x y ty) (.s (.int k (m-n))) [] [] []:=uM hx hy λw=>by simp[binOp,Op.intArith,qW hr]
def QK (hr:aA k (m*n)):wP P st (.binOp .mul tx x y ty) (.s (.int k (m*n))) [] [] []:=uM hx hy λw=>by simp[binOp,Op.intArith,qW hr]
def zRf (hr:aA k (m.tdiv n)) (h0:n≠0):wP P st (.binOp .quo tx x y ty) (.s (.int k (m.tdiv n))) [] [] []:=uM hx hy λw=>by simp[binOp,Op.intDiv,h0,qW hr]
def zRg (h0:n≠0):wP P st (.binOp .rem tx x y ty) (.s (.int k (m.tmod n))) [] [] []:=uM hx hy λw=>by simp[binOp,Op.intDiv,h0]
def QL:wP P st (.binOp .and tx x y ty) (.s (.int k (k.wrap (BitVec.ofInt k.bits m &&& BitVec.ofInt k.bits n).toNat))) [] [] []:=uM hx hy λw=>by simp only[binOp,Op.intBits];simp
def HR:wP P st (.binOp .or tx x y ty) (.s (.int k (k.wrap (BitVec.ofInt k.bits m ||| BitVec.ofInt k.bits n).toNat))) [] [] []:=uM hx hy λw=>by simp only[binOp,Op.intBits];simp
def zRh:wP P st (.binOp .xor tx x y ty) (.s (.int k (k.wrap (BitVec.ofInt k.bits m ^^^ BitVec.ofInt k.bits n).toNat))) [] [] []:=uM hx hy λw=>by simp only[binOp,Op.intBits];simp
def zBn:wP P st (.binOp .andNot tx x y ty) (.s (.int k (k.wrap (BitVec.ofInt k.bits m &&& ~~~BitVec.ofInt k.bits n).toNat))) [] [] []:=uM hx hy λw=>by simp only[binOp,Op.intBits];simp
def HS:wP P st (.binOp .eql tx x y ty) (.s (.bool (m==n))) [] [] []:=uM hx hy λw=>by simp[binOp,Op.intCmp]
def HT:wP P st (.binOp .neq tx x y ty) (.s (.bool (m != n))) [] [] []:=uM hx hy λw=>by simp[binOp,Op.intCmp]
def HU:wP P st (.binOp .lss tx x y ty) (.s (.bool (decide (m<n)))) [] [] []:=uM hx hy λw=>by simp[binOp,Op.intCmp]
def HV:wP P st (.binOp .leq tx x y ty) (.s (.bool (decide (m<=n)))) [] [] []:=uM hx hy λw=>by simp[binOp,Op.intCmp]
def HW:wP P st (.binOp .gtr tx x y ty) (.s (.bool (decide (n<m)))) [] [] []:=uM hx hy λw=>by simp[binOp,Op.intCmp]
def HX:wP P st (.binOp .geq tx x y ty) (.s (.bool (decide (n<=m)))) [] [] []:=uM hx hy λw=>by simp[binOp,Op.intCmp]
end
def ZU {op:BinOp} {tx ty:Nat} {x y:Operand} {k k':IntKind} {m n:Int} {v:Int} (hop:op= .shl/\v=k.wrap (m*2 ^ (min n.toNat k.bits))∨op= .shr/\v=m.fdiv (2 ^ (min n.toNat k.bits)))
  (hx:yK (zG st.tm) x= .s (.int k m)) (hy:yK (zG st.tm) y= .s (.int k' n)) (h0:0<=n):wP P st (.binOp op tx x y ty) (.s (.int k v)) [] [] []:=
 yN λo X tm h w β a ho hg _ _ Ht=>by
  obtain⟨dst,op',type,pos,after,guard⟩:=o;dsimp only at ho;subst ho;have h1:=vI Ht hg (x:=x) vX hx;have h2:=vI Ht hg (x:=y) vX hy;have h3:¬n<0:=by omega
  refine⟨.int k v,?_,.fz _ _ (.s _)⟩
  rcases hop with⟨rfl,rfl⟩|⟨rfl,rfl⟩<;>simp[execOp,h1,h2,eqGuard,binOp,Op.shift,h3]
def zRi {tx:Nat} {x:Operand} {b:Bool} (hx:yK (zG st.tm) x= .s (.bool b)):wP P st (.unOp .not tx x) (.s (.bool !b)) [] [] []:=
 yN λo X tm h w β a ho hg _ _ Ht=>by
  obtain⟨dst,op',type,pos,after,guard⟩:=o;dsimp only at ho;subst ho;have h1:=vI Ht hg (x:=x) vX hx;exact⟨_,by simp[execOp,h1,Op.unary],.fz _ _ (.s _)⟩
def zRj {tx:Nat} {x:Operand} {k:IntKind} {n:Int} (hx:yK (zG st.tm) x= .s (.int k n)) (hr:aA k (-n)):wP P st (.unOp .neg tx x) (.s (.int k (-n))) [] [] []:=
 yN λo X tm h w β a ho hg _ _ Ht=>by
  obtain⟨dst,op',type,pos,after,guard⟩:=o;dsimp only at ho;subst ho;have h1:=vI Ht hg (x:=x) vX hx;exact⟨.int k (-n),by simp[execOp,h1,Op.unary,Op.intArith,qW hr],.fz _ _ (.s _)⟩
def BO {src dst:Nat} {x:Operand} {k k':IntKind} {n:Int} {ts td:TI} (hP:uG P TT) (hs:TT[src]? =some ts) (hd:TT[dst]? =some td) (hk:td.d= .int k') (hx:yK (zG st.tm) x= .s (.int k n)):
  wP P st (.convert src dst x) (.s (.int k' (k'.wrap n))) [] [] []:=
 yN λo X tm h w β a ho hg _ _ Ht=>by
  obtain⟨dst',op',type,pos,after,guard⟩:=o;dsimp only at ho;subst ho;have h1:=vI Ht hg (x:=x) vX hx;obtain⟨u,hu,_⟩:=xZ (hP _ _ hs) w;obtain⟨u',hu',hd'⟩:=xZ (hP _ _ hd) w;obtain rfl:=TN (hd'.trans hk);exact⟨.int k' (k'.wrap n),by simp[execOp,convert,h1,hu,hu',Conv.intToInt],.fz _ _ (.s _)⟩
def KI {op:BinOp} {tx ty:Nat} {x y:Operand} {p q:Bool} {v:Bool} {ti:TI} (hP:uG P TT) (ht:TT[tx]? =some ti) (hd:ti.d= .bool) (hx:yK (zG st.tm) x= .s (.bool p)) (hy:yK (zG st.tm) y= .s (.bool q))
  (hop:op= .eql/\v=(p==q)∨op= .neq/\v=(p != q)):wP P st (.binOp op tx x y ty) (.s (.bool v)) [] [] []:=
 yN λo X tm h w β a ho hg _ _ Ht=>by
  obtain⟨dst,op',type,pos,after,guard⟩:=o;dsimp only at ho;subst ho;have h1:=vI Ht hg (x:=x) vX hx;have h2:=vI Ht hg (x:=y) vX hy;obtain⟨u,hu,hd'⟩:=xZ (hP _ _ ht) w;obtain rfl:=zRd (hd'.trans hd)
  have he:(Op.equal tx (.bool p) (.bool q)).run P w= .ok (p==q) w:=by
   show(Op.equalIn (9999+1) tx (.bool p) (.bool q)).run P w=_
   unfold Op.equalIn;simp[hu]
  refine⟨.bool v,?_,.fz _ _ (.s _)⟩
  rcases hop with⟨rfl,rfl⟩|⟨rfl,rfl⟩<;>simp[execOp,h1,h2,eqGuard,binOp,he,bne]
def HY {f:Nat} {cap:Array Operand}:wP P st (.makeFunc (.func f) #[] cap) (.fn f (cap.toList.map (yK (zG st.tm)))) [] [] []:=
 yN λo X tm h w β a ho hg _ _ Ht=>by
  obtain⟨dst,op',type,pos,after,guard⟩:=o;dsimp only at ho;subst ho;refine⟨.func (.func f) #[] (cap.map a.eval),by simp[execOp,Instr.makeFunc],.fn _ _ _ zQ λi v hv=>?_⟩;simp only[yBh,yBs]at hv;obtain⟨x,hx,rfl⟩:=hv
  have:(cap.map a.eval).getD i undef=a.eval x:=by
   have:cap[i]? =some x:=by simpa using hx
   simp[yB3,this]
  rw[this];refine hG Ht hg ?_ Z
  have:x∈cap:=by
   have:=yCz hx;simpa using this
  simp[Op.operands,this]
end ops
end
def dL (β:vM) (k:Nat) (l:List (Nat×Nat)):vM:=λj=>if j=k then l else β j
def zY (β:vM) (k:Nat) (l:List (Nat×Nat)):dL β k l k=l:=by simp[dL]
def qD (β:vM) {k j:Nat} (l:List (Nat×Nat)) (h:j≠k):dL β k l j=β j:=by simp[dL,h]
def zF7 (k:Nat):Nat.beq k k=true:=by simp
def ZV {j k:Nat} (h:j≠k):Nat.beq j k=false:=by
 cases e:Nat.beq j k with
 |false=>rfl
 |true=>exact absurd (yB7 e) h
def qE (k:Nat) (e:xM) (h:yD):over [(k,e)] h k=some e:=by simp[over,zC]
def bF {k j:Nat} (e:xM) (h:yD) (hj:j≠k):over [(k,e)] h j=h j:=by simp[over,zC,ZV hj]
theorem UE.evo {w w':World} {D D':Nat->Prop} {h h':yD} {β β':vM} (E:FL w D h β w' D' h' β') {k:Nat} {e:xM} (hb:β' k=β k) (hk:∀b n,(b,n)∈β k->w'.heap[b]? =w.heap[b]?)
  (H:UE w D h β k e):UE w' D' h' β' k e:=by
 cases e with
 |dead=>exact hb.trans H
 |box cs=>
  obtain⟨b,c,el,h1,h2,h3,h4,h5⟩:=H;exact⟨b,c,el,hb.trans h1,(hk b 0 (by rw[h1];simp)).trans h2,h3,h4,λi v hv=>(h5 i v hv).evo E⟩
 |obj cs=>
  obtain⟨h1,x,h2,h3⟩:=H;exact⟨hb.trans h1,x,(hk cs.1 0 (by rw[h1];simp)).trans h2,h3⟩
 |arr sz xs st=>
  obtain⟨h1,h2,h3,h4,h5,f,h6,h7,h8⟩:=H;refine⟨h1,h2,by rwa [hb],h4,by rwa [hb],f,h6.evo E,h7,λb n hm=>?_⟩;rw[hb]at hm;obtain⟨c,el,h9,h10⟩:=h8 b n hm;exact⟨c,el,(hk b n hm).trans h9,h10⟩
theorem yW.step {X:Nat->Prop} {h:yD} {β:vM} {w w':World} (H:qX X h β w) (k:Nat) (e':xM) (l:List (Nat×Nat)) (size:w.heap.size<=w'.heap.size)
  (keep:∀b,b<w.heap.size->(∀n,(b,n)∉β k)->w'.heap[b]? =w.heap[b]?) (os:w'.os=w.os) (tape:w'.tape=w.tape) (output:w'.output=w.output)
  (own:∀b n,(b,n)∈l->(∃n',(b,n')∈β k)∨(w.heap.size<=b/\b<w'.heap.size)) (bs:∀b n,(b,n)∈β k->wB w' b=wB w b)
  (key:∀e,h k=some e->e'= .dead∨match e with
   | .dead=>False
   | .box _=>(∃cs',e'= .box cs')/\∀b n,(b,n)∈β k->(b,n)∈l
   | .obj _=>(∃cs',e'= .obj cs')/\∀b n,(b,n)∈β k->(b,n)∈l
   | .arr sz xs _=>(∃xs' st',e'= .arr sz xs' st'/\xs.length<=xs'.length)/\∀b n,(b,n)∈β k->∃n',n<=n'/\(b,n')∈l)
  (ent:FL w (xP X β) h β w' (xP X (dL β k l)) (over [(k,e')] h) (dL β k l)->UE w' (xP X (dL β k l)) (over [(k,e')] h) (dL β k l) k e'):
  yW X w h β w' (over [(k,e')] h) (dL β k l):=by
 have own':∀j b n,(b,n)∈dL β k l j->(∃k' n',(b,n')∈β k')∨w.heap.size<=b:=by
  intro j b n hm;by_cases hj:j=k
  ·subst hj;rw[zY]at hm
   rcases own b n hm with⟨n',h1⟩|⟨h1,_⟩
   ·exact .inl ⟨_,_,h1⟩
   ·exact .inr h1
  ·rw[qD _ _ hj]at hm;exact .inl ⟨_,_,hm⟩
 have apart:∀j b n n',j≠k->(b,n)∈β j->(b,n')∉β k:=λj b n n' hj h1 h2=>hj (H.disj _ _ _ _ _ h1 h2)
 have keep':∀b,b<w.heap.size->(∀k n,(b,n)∉β k)->w'.heap[b]? =w.heap[b]? :=λb hb hn=>keep b hb (hn k)
 have bs':∀j b n,(b,n)∈β j->wB w' b=wB w b:=by
  intro j b n hm;by_cases hj:j=k
  ·subst hj;exact bs b n hm
  ·unfold wB World.shape?;rw[keep b (H.lt b (.inr ⟨j,n,hm⟩)) λn' h1=>apart j b n n' hj hm h1]
 have key':∀j e,h j=some e->over [(k,e')] h j=some .dead∨match e with
   | .dead=>False
   | .box _=>(∃cs',over [(k,e')] h j=some (.box cs'))/\∀b n,(b,n)∈β j->(b,n)∈dL β k l j
   | .obj _=>(∃cs',over [(k,e')] h j=some (.obj cs'))/\∀b n,(b,n)∈β j->(b,n)∈dL β k l j
   | .arr sz xs _=>(∃xs' st',over [(k,e')] h j=some (.arr sz xs' st')/\xs.length<=xs'.length)/\∀b n,(b,n)∈β j->∃n',n<=n'/\(b,n')∈dL β k l j:=by
  intro j e he;by_cases hj:j=k
  ·subst hj;rw[qE,zY]
   rcases key e he with h1|h1
   ·exact .inl (by rw[h1])
   ·cases e with
    |dead=>exact h1.elim
    |box cs=>obtain⟨⟨cs',h2⟩,h3⟩:=h1;exact .inr ⟨⟨cs',by rw[h2]⟩,h3⟩
    |obj cs=>obtain⟨⟨cs',h2⟩,h3⟩:=h1;exact .inr ⟨⟨cs',by rw[h2]⟩,h3⟩
    |arr sz xs st=>obtain⟨⟨xs',st',h2,h2'⟩,h3⟩:=h1;exact .inr ⟨⟨xs',st',by rw[h2],h2'⟩,h3⟩
  ·rw[bF _ _ hj,qD _ _ hj];exact qV h β j e he
 have E:FL w (xP X β) h β w' (xP X (dL β k l)) (over [(k,e')] h) (dL β k l):=by
  refine⟨size,λb hb hd=>?_,bs',key'⟩;have h1:∀k n,(b,n)∉β k:=λk n hm=>hd (.inr ⟨k,n,hm⟩)
  refine⟨keep' b hb h1,?_⟩;rintro(hx|⟨j,n,hm⟩)
  ·exact hd (.inl hx)
  ·rcases own' j b n hm with⟨k',n',h2⟩|h2
   ·exact h1 _ _ h2
   ·omega
 refine⟨size,keep',own',bs',key',⟨λj e he=>?_,λj he=>?_,λj j' b n n' h1 h2=>?_,λj b n hm hx=>?_,λb hd=>?_⟩,os,tape,output⟩
 ·by_cases hj:j=k
  ·subst hj;rw[qE]at he;cases he;exact ent E
  ·rw[bF _ _ hj]at he;exact(H.ent j e he).evo E (qD _ _ hj) λb n hm=>keep b (H.lt b (.inr ⟨j,n,hm⟩)) λn' h1=>apart j b n n' hj hm h1
 ·by_cases hj:j=k
  ·subst hj;rw[qE]at he;cases he
  ·rw[bF _ _ hj]at he;rw[qD _ _ hj];exact H.off j he
 ·by_cases hj:j=k<;>by_cases hj':j'=k
  ·rw[hj,hj']
  ·subst hj;rw[zY]at h1;rw[qD _ _ hj']at h2
   rcases own b n h1 with⟨m,h3⟩|⟨h3,_⟩
   ·exact absurd h3 (apart j' b n' m hj' h2)
   ·have:=H.lt b (.inr ⟨_,_,h2⟩);omega
  ·subst hj';rw[zY]at h2;rw[qD _ _ hj]at h1
   rcases own b n' h2 with⟨m,h3⟩|⟨h3,_⟩
   ·exact absurd h3 (apart j b n m hj h1)
   ·have:=H.lt b (.inr ⟨_,_,h1⟩);omega
  ·rw[qD _ _ hj]at h1;rw[qD _ _ hj']at h2;exact H.disj _ _ _ _ _ h1 h2
 ·by_cases hj:j=k
  ·subst hj;rw[zY]at hm
   rcases own b n hm with⟨m,h3⟩|⟨h3,_⟩
   ·exact H.free _ _ _ h3 hx
   ·have:=H.lt b (.inl hx);omega
  ·rw[qD _ _ hj]at hm;exact H.free _ _ _ hm hx
 ·rcases hd with hx|⟨j,n,hm⟩
  ·exact yCo (H.lt b (.inl hx)) size
  ·by_cases hj:j=k
   ·subst hj;rw[zY]at hm
    rcases own b n hm with⟨m,h3⟩|⟨_,h3⟩
    ·exact yCo (H.lt b (.inr ⟨_,_,h3⟩)) size
    ·exact h3
   ·rw[qD _ _ hj]at hm;exact yCo (H.lt b (.inr ⟨_,_,hm⟩)) size
theorem yW.new {X:Nat->Prop} {h:yD} {β:vM} {w:World} (H:qX X h β w) {k:Nat} (hk:h k=none) (e':xM) (n:Nat) (c:Array Value) (el:Nat)
  (ent:FL w (xP X β) h β (w.alloc (.cells c el)) (xP X (dL β k [(w.heap.size,n)])) (over [(k,e')] h) (dL β k [(w.heap.size,n)])->
   UE (w.alloc (.cells c el)) (xP X (dL β k [(w.heap.size,n)])) (over [(k,e')] h) (dL β k [(w.heap.size,n)]) k e'):
  yW X w h β (w.alloc (.cells c el)) (over [(k,e')] h) (dL β k [(w.heap.size,n)]):=by
 refine yW.step H k e' _ zQ (λb hb _=>heap_alloc_old w _ b hb) Z Z Z (λb n hm=>?_) (λb n hm=>?_) (λe he=>?_) ent
 ·simp at hm;refine .inr ?_;simp[hm.1]
 ·rw[H.off k hk]at hm;simp at hm
 ·rw[hk]at he;cases he
theorem yW.newBox {X:Nat->Prop} {h:yD} {β:vM} {w:World} (H:qX X h β w) {k:Nat} (hk:h k=none) (c:Array Value) (el:Nat) (cs:List AV) (hl:c.size=cs.length) (h1:∀i,i<c.size->(c.getD i undef).oneCell'=true)
  (hv:∀(i:Nat) v,cs[i]? =some v->zU w (xP X β) h β v (c.getD i undef)):
  ∃β',yW X w h β (w.alloc (.cells c el)) (over [(k,.box cs)] h) β'/\zU (w.alloc (.cells c el)) (xP X β') (over [(k,.box cs)] h) β' (.ptr k 0 0) (.pointer (some ⟨w.heap.size,0,none⟩)):=
 ⟨_,yW.new H hk (.box cs) 0 c el λE=>⟨_,c,el,zY _ _ _,heap_alloc_new w _,hl,h1,λi v hx=>(hv i v hx).evo E⟩,
  .pbox k 0 cs w.heap.size 0 (qE _ _ _) (by rw[zY];simp)⟩
def qG (c:Array Value):Prop:=∀v,v∈c.toList->v.oneCell'=true
theorem qG.get {c:Array Value} (h:qG c):∀i,i<c.size->(c.getD i undef).oneCell'=true:=λi hi=>by
 have e:c.getD i undef=c[i]:=by simp[Array.getD,hi]
 rw[e];exact h _ zQ
theorem qG.of {c:Array Value} (h:∀i,i<c.size->(c.getD i undef).oneCell'=true):qG c:=λv hv=>by
 obtain⟨i,hi,rfl⟩:=yDn hv;have hi':i<c.size:=by simpa using hi
 have:=h i hi';simpa [Array.getD,hi']using this
theorem qG.app {a b:Array Value} (ha:qG a) (hb:qG b):qG (a++b):=λv hv=>by
 rw[Array.toList_append,yBy]at hv;exact hv.elim (ha v) (hb v)
theorem qG.arr {l:List Value} (h:∀v∈l,v.oneCell'=true):qG l.toArray:=λv hv=>h v KB
def BP {z:Array Value} {i:Nat} (h:i<z.size):z[i]! ∈z.toList:=by
 rw[getElem!_pos z i h];simp
theorem qG.zero {z:Array Value} (h:∀v,v∈z.toList->v.oneCell'=true) (n:Nat):qG (Builtin.zeroCells z n):=λv hv=>by
 simp only[Builtin.zeroCells,yGn,Array.toList_range,yCc,yBz]at hv;obtain⟨i,hi,rfl⟩:=hv
 have hz:0<z.size:=by
  rcases Nat.eq_zero_or_pos z.size with h0|h0
  ·rw[h0,Nat.mul_zero]at hi;omega
  ·exact h0
 exact h _ (BP (yHn _ hz))
def BQ {c:Array Value} {n sz:Nat} {f:Nat->Nat->Value} (hs:c.size=n*sz) (hp:1<=sz) (hf:∀i j,i<n->j<sz->c[i*sz+j]? =some (f i j)) (h1:∀i j,i<n->j<sz->(f i j).oneCell'=true):∀i,i<c.size->(c.getD i undef).oneCell'=true:=λi hi=>by
 have hm:i % sz<sz:=yHn _ (by omega);have hd:i/sz<n:=by rw[Nat.div_lt_iff_lt_mul (by omega)];omega
 have e:i/sz*sz+i % sz=i:=by rw[yF5];exact Nat.div_add_mod i sz
 have h2:=hf (i/sz) (i % sz) hd hm;rw[e]at h2;have e2:c.getD i undef=f (i/sz) (i % sz):=by simp[yB3,h2]
 rw[e2];exact h1 _ _ hd hm
theorem qG.made {z:Array Value} (h:∀v,v∈z.toList->v.oneCell'=true) (hz:0<z.size) (n:Nat):qG (madeCells z n):=λv hv=>by
 simp only[madeCells,yGn,Array.toList_range,yCc,yBz]at hv;obtain⟨i,hi,rfl⟩:=hv;exact h _ (BP (yHn _ hz))
theorem yW.newArr {X:Nat->Prop} {h:yD} {β:vM} {w:World} (H:qX X h β w) {k:Nat} (hk:h k=none) (c:Array Value) (el sz:Nat) (xs:List AV) (cap:Nat) (f:Nat->Nat->Value) (hp:1<=sz) (hm:xs.length<=cB)
  (hcap:xs.length<=cap) (hc:cap*sz=c.size) (hall:∀i,i<c.size->(c.getD i undef).oneCell'=true) (hw:∀(i:Nat) (x:AV),xs[i]? =some x->x.cells.length=sz) (hf:∀i j,i<xs.length->j<sz->c[i*sz+j]? =some (f i j)) (h1:∀i j,i<xs.length->j<sz->(f i j).oneCell'=true)
  (hv:∀(i:Nat) (x:AV) (j:Nat) v,xs[i]? =some x->x.cells[j]? =some v->xG w (xP X β) v (f i j)):
  ∃β',yW X w h β (w.alloc (.cells c el)) (over [(k,.arr sz xs false)] h) β'/\zU (w.alloc (.cells c el)) (xP X β') (over [(k,.arr sz xs false)] h) β' (.ref k 0 xs.length) (.slice (some ⟨w.heap.size,0,none⟩) xs.length cap):=by
 refine⟨_,yW.new H hk (.arr sz xs false) xs.length c el λE=>⟨hp,hm,λ_=>by rw[zY];simp,hw,λb n r hr=>?_,f,.ofF λi x j v hx hy=>(hv i x j v hx hy).evo E.size E.fz,h1,λb n hb=>?_⟩,?_⟩
 ·rw[zY]at hr;simp at hr;exact⟨hr.1.2.symm,λ_ b' n' hm=>by rw[hr.2]at hm;simp at hm,λb' n' hm=>by rw[hr.2]at hm;simp at hm⟩
 ·rw[zY]at hb;simp at hb;obtain⟨rfl,rfl⟩:=hb;exact⟨c,el,heap_alloc_new w _,yCp (yB1 _ hcap) (yDd hc),hf,hall⟩
 ·have:=zU.ref (w:=w.alloc (.cells c el)) (D:=xP X (dL β k [(w.heap.size,xs.length)])) (h:=over [(k,.arr sz xs false)] h) (β:=dL β k [(w.heap.size,xs.length)]) k 0 xs.length sz xs false w.heap.size xs.length cap (qE _ _ _)
   (by rw[zY];simp) (by omega) hcap (by
    have:wB (w.alloc (.cells c el)) w.heap.size=c.size:=by
     unfold wB World.shape?;rw[heap_alloc_new];rfl
    rw[this];simpa using hc)
  simpa using this
theorem yW.newArrN {X:Nat->Prop} {h:yD} {β:vM} {w:World} (H:qX X h β w) {k:Nat} (hk:h k=none) (c:Array Value) (el sz:Nat) (xs:List AV) (cap:Nat) (f:Nat->Nat->Value) (hp:1<=sz) (hm:xs.length<=cB)
  (hcap:xs.length<=cap) (hc:cap*sz=c.size) (hall:∀i,i<c.size->(c.getD i undef).oneCell'=true) (hw:∀(i:Nat) (x:AV),xs[i]? =some x->x.cells.length=sz) (hf:∀i j,i<xs.length->j<sz->c[i*sz+j]? =some (f i j)) (h1:∀i j,i<xs.length->j<sz->(f i j).oneCell'=true)
  (hv:∀(i:Nat) (x:AV) (j:Nat) v,xs[i]? =some x->x.cells[j]? =some v->zU w (xP X β) h β v (f i j)):
  ∃β',yW X w h β (w.alloc (.cells c el)) (over [(k,.arr sz xs ⟨false,true⟩)] h) β'/\zU (w.alloc (.cells c el)) (xP X β') (over [(k,.arr sz xs ⟨false,true⟩)] h) β' (.ref k 0 xs.length) (.slice (some ⟨w.heap.size,0,none⟩) xs.length cap):=by
 refine⟨_,yW.new H hk (.arr sz xs ⟨false,true⟩) xs.length c el λE=>⟨hp,hm,λ_=>by rw[zY];simp,hw,λb n r hr=>?_,f,λi x j v hx hy=>⟨(hv i x j v hx hy).evo E,λh=>by cases h⟩,h1,λb n hb=>?_⟩,?_⟩
 ·rw[zY]at hr;simp at hr;exact⟨hr.1.2.symm,λ_ b' n' hm=>by rw[hr.2]at hm;simp at hm,λb' n' hm=>by rw[hr.2]at hm;simp at hm⟩
 ·rw[zY]at hb;simp at hb;obtain⟨rfl,rfl⟩:=hb;exact⟨c,el,heap_alloc_new w _,yCp (yB1 _ hcap) (yDd hc),hf,hall⟩
 ·have:=zU.ref (w:=w.alloc (.cells c el)) (D:=xP X (dL β k [(w.heap.size,xs.length)])) (h:=over [(k,.arr sz xs ⟨false,true⟩)] h) (β:=dL β k [(w.heap.size,xs.length)]) k 0 xs.length sz xs ⟨false,true⟩ w.heap.size xs.length cap (qE _ _ _)
   (by rw[zY];simp) (by omega) hcap (by
    have:wB (w.alloc (.cells c el)) w.heap.size=c.size:=by
     unfold wB World.shape?;rw[heap_alloc_new];rfl
    rw[this];simpa using hc)
  simpa using this
theorem yW.newFz {X:Nat->Prop} {h:yD} {β:vM} {w:World} (H:qX X h β w) (c:Array Value) (el:Nat):yW X w h β (w.alloc (.cells c el)) h β:=by
 have hold:∀b,b<w.heap.size->(w.alloc (.cells c el)).heap[b]? =w.heap[b]? :=λb hb=>heap_alloc_old w _ b hb
 have hbs:∀k b n,(b,n)∈β k->wB (w.alloc (.cells c el)) b=wB w b:=λk b n hm=>by
  unfold wB World.shape?;rw[hold b (H.lt b (.inr ⟨k,n,hm⟩))]
 have E:FL w (xP X β) h β (w.alloc (.cells c el)) (xP X β) h β:=⟨by simp,λb hb hd=>⟨hold b hb,hd⟩,hbs,qV h β⟩;refine⟨by simp,λb hb _=>hold b hb,λk _ n hm=> .inl ⟨k,n,hm⟩,hbs,qV h β,⟨λk e he=>(H.ent k e he).evo E Z λb n hm=>hold b (H.lt b (.inr ⟨k,n,hm⟩)),H.off,H.disj,H.free,λb hd=>?_⟩,rfl,rfl,rfl⟩;exact yCo (H.lt b hd) zQ
theorem xG.newArr {X:Nat->Prop} {h:yD} {β:vM} {w:World} (H:qX X h β w) (c:Array Value) (el sz:Nat) (xs:List AV) (cap:Nat) (f:Nat->Nat->Value) (hp:1<=sz) (hm:xs.length<=cB)
  (hcap:xs.length<=cap) (hw:∀(i:Nat) (x:AV),xs[i]? =some x->x.cells.length=sz) (hf:∀i j,i<xs.length->j<sz->c[i*sz+j]? =some (f i j)) (h1:∀i j,i<xs.length->j<sz->(f i j).oneCell'=true)
  (hv:∀(i:Nat) (x:AV) (j:Nat) v,xs[i]? =some x->x.cells[j]? =some v->xG w (xP X β) v (f i j)):
  xG (w.alloc (.cells c el)) (xP X β) (.sl true xs) (.slice (some ⟨w.heap.size,0,none⟩) xs.length cap):=by
 have E:=(yW.newFz H c el).evo;by_cases hx:xs=[]
 ·subst hx;exact .nil1 _ _
 ·refine .sl true xs w.heap.size 0 sz cap f hx ⟨by simp,λhd=>?_,hp,hm,hw,λi j hi hj=>?_,h1⟩ hcap λi x j v hx hy=>(hv i x j v hx hy).evo E.size E.fz
  ·have:=H.lt _ hd;omega
  ·rw[yCv];simp only[World.cell?,heap_alloc_new];exact hf i j hi hj
theorem xG.wkF {w:World} {D:Nat->Prop} {nn:Bool} {xs:List AV} {c:Value} (h:xG w D (.sl nn xs) c):xG w D (.sl false xs) c:=by
 cases h with
 |nil a cap=>exact .nil a cap
 |nil1 a cap=>exact .nil _ cap
 |sl nn xs b o sz cap f hx hL hc hh=>exact .sl false xs b o sz cap f hx hL hc hh
end Av
end Go.Proofs.YteajjdidebfcjaaGreat
