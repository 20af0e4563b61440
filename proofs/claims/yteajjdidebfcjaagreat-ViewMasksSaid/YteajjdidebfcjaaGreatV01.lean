/- Part 1. -/
import Derived.Below
import Derived.Orders
import Derived.LoopN
import Derived.Laws.Sem
import Derived.KernelRfl
import Derived.Laws.AppendOwn
import Derived.Laws.CopyRow
import Derived.IntWalk
import Derived.Laws.MakeOwn
import Derived.Laws.Append
import Derived.Great.FillDense
import Derived.Laws.Tables
namespace Go.Proofs.YteajjdidebfcjaaGreat
namespace Av
theorem Z{α:Sort _}{a:α}:a=a:=rfl
set_option linter.all false
def zX2:=@if_neg
def zX3:=@if_pos
def zX4:=@List.length_append
def zX5:=@List.length_map
def zX6:=@List.take_length
def zX7:=@Nat.le_refl
def zX8:=@List.getElem?_map
def zX9:=@decide_eq_true_eq
def zYa:=@decide_eq_true
def zYb:=@decide_eq_false
def zYc:=@List.getD_eq_getElem?_getD
def zYd:=@List.map_append
def zYe:=@List.take_of_length_le
def zYf:=@Option.map_eq_some_iff
def zYg:=@Bool.and_eq_true
def zYh:=@List.length_cons
def zYi:=@List.all_eq_true
def zYj:=@decide_eq_false_iff_not
def zYk:=@List.getElem?_eq_getElem
def zYl:=@Nat.zero_le
def zYm:=@Nat.le_of_ble_eq_true
def zYn:=@List.length_take
def zYo:=@Nat.mul_le_mul_right
def zYp:=@Bool.false_ne_true
def zYq:=@List.drop_zero
def zYr:=@Bool.true_and
def zYs:=@List.mem_range
def zYt:=@List.getElem?_append_right
def zYu:=@List.getElem?_eq_some_iff
def zYv:=@List.length_drop
def zYw:=@List.append_assoc
def zYx:=@List.getElem?_eq_none
def zYy:=@List.mem_append
def zYz:=@List.eq_nil_of_length_eq_zero
def zY0:=@List.getElem?_append_left
def zY1:=@List.mem_of_mem_drop
def zY2:=@Nat.eq_of_beq_eq_true
def zY3:=@congrArg
def zY4:=@List.append_nil
def zY5:=@List.getElem?_range
def zY6:=@beq_eq_false_iff_ne
def zY7:=@Array.getD_eq_getD_getElem?
def zY8:=@Nat.add_mul
def zY9:=@Nat.le_trans
def zZa:=@bne_eq_false_iff_eq
def zZb:=@beq_iff_eq
def zZc:=@List.length_nil
def zZd:=@List.mem_singleton
def zZe:=@Nat.lt_of_lt_of_le
def zZf:=@List.ext_getElem?
def zZg:=@List.mem_cons
def zZh:=@Option.some.injEq
def zZi:=@List.getElem?_take
def zZj:=@List.map_cons
def zZk:=@List.mem_of_getElem?
def zZl:=@List.mem_of_mem_take
def zZm:=@Nat.zero_add
def zZn:=@List.mem_map
def zZo:=@cond_true
def zZp:=@Int.toNat_natCast
def zZq:=@Int.tmod_eq_emod_of_nonneg
def zZr:=@List.length_range
def zZs:=@List.length_replicate
def zZt:=@List.getElem?_drop
def zZu:=@List.getElem?_set_self
def zZv:=@Bool.false_and
def zZw:=@Int.tdiv_eq_ediv_of_nonneg
def zZx:=@List.length_set
def zZy:=@List.any_eq_true
def zZz:=@Int.eq_ofNat_of_zero_le
def zZ0:=@List.getElem?_replicate
def zZ1:=@Int.fdiv_eq_ediv_of_nonneg
def zZ2:=@Prod.mk.injEq
def zZ3:=@Nat.one_mul
def zZ4:=@Bool.not_eq_true
def zZ5:=@Nat.le_of_eq
def zZ6:=@cond_false
def zZ7:=@bne_iff_ne
def zZ8:=@List.map_set
def zZ9:=@Array.getElem?_append_left
def yAa:=@Nat.sub_self
def yAb:=@List.getElem?_set
def yAc:=@Int.le_refl
def yAd:=@List.length_filter_le
def yAe:=@List.drop_eq_getElem_cons
def yAf:=@List.getElem_of_mem
def yAg:=@Option.getD_some
def yAh:=@Option.some.inj
def yAi:=@Decidable.not_not
def yAj:=@List.take_add_one
def yAk:=@List.length_singleton
def yAl:=@List.map_nil
def yAm:=@List.nil_append
def yAn:=@Bool.not_eq_true'
def yAo:=@Bool.or_eq_true
def yAp:=@Nat.not_lt_zero
def yAq:=@Array.getElem?_eq_some_iff
def yAr:=@List.getElem_mem
def yAs:=@Nat.mod_eq_of_lt
def yAt:=@List.flatten_cons
def yAu:=@List.take_append_of_le_length
def yAv:=@List.mem_or_eq_of_mem_set
def yAw:=@List.range_succ
def yAx:=@List.getElem?_toArray
def yAy:=@List.set_append_right
def yAz:=@Nat.mul_le_mul
def yA0:=@List.cons_append
def yA1:=@Classical.byContradiction
def yA2:=@Array.length_toList
def yA3:=@List.map_congr_left
def yA4:=@List.all_eq_false
def yA5:=@List.any_eq_false
def yA6:=@List.size_toArray
def yA7:=@Bool.false_or
def yA8:=@List.contains_iff_mem
def yA9:=@List.take_zero
def yBa:=@Nat.add_zero
def yBb:=@Option.map_none
def yBc:=@List.map_drop
def yBd:=@List.map_take
def yBe:=@ne_eq
def yBf:=@List.take_append_drop
def yBg:=@BitVec.toNat_ofNat
def yBh:=@Bool.true_or
def yBi:=@List.mem_flatten
def yBj:=@List.not_mem_nil
def yBk:=@BitVec.ofInt_natCast
def yBl:=@Int.not_le
def yBm:=@Int.not_lt
def yBn:=@List.mem_filter
def yBo:=@List.drop_succ_cons
def yBp:=@Bool.or_true
def yBq:=@List.drop_eq_nil_of_le
def yBr:=@List.zipWith_cons_cons
def yBs:=@List.drop_length
def yBt:=@Bool.and_false
def yBu:=@Int.emod_lt_of_pos
def yBv:=@List.filter_append
def yBw:=@Nat.ble_eq_true_of_le
def yBx:=@List.getElem?_of_mem
def yBy:=@List.mem_iff_getElem
def yBz:=@Nat.shiftLeft_add_eq_or_of_lt
def yB0:=@Int.toNat_of_nonneg
def yB1:=@List.replicate_succ
def yB2:=@List.drop_of_length_le
def yB3:=@Array.getElem?_append_right
def yB4:=@List.set_cons_zero
def yB5:=@Nat.zero_mul
def yB6:=@Int.emod_nonneg
def yB7:=@Nat.lt_irrefl
def yB8:=@of_decide_eq_true
def yB9:=@List.getElem?_set_ne
def yCa:=@List.pairwise_append
def yCb:=@Nat.pow_le_pow_right
def yCc:=@List.drop_drop
def yCd:=@List.take_succ_eq_append_getElem
def yCe:=@Nat.sub_zero
def yCf:=@List.length_zipWith
def yCg:=@Bool.and_true
def yCh:=@List.map_replicate
def yCi:=@List.pairwise_cons
def yCj:=@List.drop_append_of_le_length
def yCk:=@Bool.eq_false_iff
def yCl:=@List.map_map
def yCm:=@Nat.mul_comm
def yCn:=@List.getElem?_zipIdx
def yCo:=@or_false
def yCp:=@Nat.add_assoc
def yCq:=@Nat.le_of_mul_le_mul_right
def yCr:=@List.flatten_append
def yCs:=@Bool.eq_iff_iff
def yCt:=@Int.natCast_mul
def yCu:=@List.mem_of_find?_eq_some
def yCv:=@Nat.mul_add_mod
def yCw:=@Int.natCast_nonneg
def yCx:=@List.find?_eq_none
def yCy:=@List.set_set
def yCz:=@List.take_append_getElem
def yC0:=@Nat.le_of_lt
def yC1:=@Bool.not_false
def yC2:=@Array.size_append
def yC3:=@List.foldl_append
def yC4:=@Nat.sub_mul
def yC5:=@Array.toList_map
def yC6:=@Nat.shiftLeft_eq
def yC7:=@List.set_getElem_self
def yC8:=@List.singleton_append
def yC9:=@Array.getElem?_range
def yDa:=@Int.natCast_add
def yDb:=@List.replicate_succ'
def yDc:=@List.filter_eq_self
def yDd:=@List.replicate_zero
def yDe:=@List.take_succ_cons
def yDf:=@List.nodup_nil
def yDg:=@Array.getElem?_map
def yDh:=@List.mem_replicate
def yDi:=@Option.toList_some
def yDj:=@decide_eq_true_iff
def yDk:=@Bool.not_true
def yDl:=@List.take_add
def yDm:=@Array.all_eq_true
def yDn:=@List.find?_append
def yDo:=@Nat.or_lt_two_pow
def yDp:=@not_true_eq_false
def yDq:=@if_true
def yDr:=@Int.pow_succ
def yDs:=@List.mem_toArray
def yDt:=@BitVec.toNat_or
def yDu:=@List.find?_cons
def yDv:=@List.find?_some
def yDw:=@List.take_left'
def yDx:=@Nat.min_eq_left
def yDy:=@List.drop_left
def yDz:=@List.mapM_cons
def yD0:=@List.take_take
def yD1:=@Nat.testBit_or
def yD2:=@Nat.mod_lt
def yD3:=@Bool.or_false
def yD4:=@List.all_cons
def yD5:=@Int.min_self
def yD6:=@and_false
def yD7:=@decide_false
def zV {p:Prop} (h:p:=by decide):p:=h
def zW {p:Prop} (h:p:=by simp):p:=h
def xX {p:Prop} (h:p:=by(simp;omega)):p:=h
def xY {p:Prop} (h:p:=by(first|rfl|assumption)):p:=h
def uT {p:Prop} (h:p:=by simp[Op.operands]):p:=h
def kJ {p:Prop} (h:p:=by simp[Op.operands,Call.operands]):p:=h
def fJ {p:Prop} (h:p:=by assumption):p:=h
def ZK {p:Prop} (h:p:=by simp[List.getD,hi']):p:=h
def VJ {p:Prop} (h:p:=by kernel_rfl):p:=h
def QL {p:Prop} (h:p:=by(rw[zYv];omega)):p:=h
def XX {p:Prop} (h:p:=by(have:=H.vl;omega)):p:=h
def TF {p:Prop} (h:p:=by(first|exact yBc.symm|rfl)):p:=h
def TG {p:Prop} (h:p:=by(first|exact yBd.symm|rfl)):p:=h
def TH {p:Prop} (h:p:=by(first|assumption|rfl)):p:=h
def TJ {p:Prop} (h:p:=by simpa using h):p:=h
def TK {p:Prop} (h:p:=by simp[hi]):p:=h
def OU {p:Prop} (h:p:=by simp[hx]):p:=h
def OV {p:Prop} (h:p:=by(rw[zYn];omega)):p:=h
def OW {p:Prop} (h:p:=by(rw[hh j hj];exact hk')):p:=h
def OX {p:Prop} (h:p:=by(rw[<-e3];exact hv)):p:=h
def LY {p:Prop} (h:p:=by simpa using hi):p:=h
def LZ {p:Prop} (h:p:=by(rw[zX5];omega)):p:=h
def KA {p:Prop} (h:p:=by(rw[hk];rfl)):p:=h
def KB {p:Prop} (h:p:=by(rw[hk];exact q1)):p:=h
def KD {p:Prop} (h:p:=by simpa using h2):p:=h
def DK {p:Prop} (h:p:=by simpa using hn):p:=h
def DL {p:Prop} (h:p:=by simpa using hl):p:=h
def DM {p:Prop} (h:p:=by simpa using h1):p:=h
def DN {p:Prop} (h:p:=by simpa using hv):p:=h
def DO {p:Prop} (h:p:=by(rw[hbk,e];simp)):p:=h
def zC4 {p:Prop} (h:p:=by(rw[zYn,zYv];omega)):p:=h
def zC5 {p:Prop} (h:p:=by rw[zX5,hp]):p:=h
def zC6 {p:Prop} (h:p:=by(rw[zX9];exact hs)):p:=h
def zC7 {p:Prop} (h:p:=by(have:=J.n;omega)):p:=h
def zC8 {p:Prop} (h:p:=by(rw[hβ j hj];exact hb)):p:=h
def zC9 {p:Prop} (h:p:=by simpa using this):p:=h
def zDa {p:Prop} (h:p:=by(rw[hl]at hi;omega)):p:=h
def zJt {p:Prop} (h:p:=by rw[zYq,zX6]):p:=h
def zJu {p:Prop} (h:p:=by(rw[hh j hk];exact hk')):p:=h
def zJv {p:Prop} (h:p:=by(rw[zZx,zX5];exact zX7 _)):p:=h
def zQy {p:Prop} (h:p:=by(rcases hk with hk|hk|hk|hk<;>rw[hk]<;>rfl)):p:=h
def zQz {p:Prop} (h:p:=by rw[<-yAe hi,yBf]):p:=h
def zQ0 {p:Prop} (h:p:=by(simp[List.getD];rw[zYk zB];simp)):p:=h
def zQ1 {p:Prop} (h:p:=by rw[hN,zYq,<-hz3l,zX6]):p:=h
inductive AV where
 |bot
 |gh (n:Nat)
 |s (v:Value)
 |agg (cs:List AV)
 |sl (nn:Bool) (xs:List AV)
 |slc (cap:Nat) (xs:List AV)
 |ref (k off len:Nat)
 |ptr (k i off:Nat)
 |fp (xs:List AV) (i off:Nat)
 |fn (f:Nat) (caps:List AV)
 |tup (vs:List AV)
 |fm (ob:Option Nat) (p:Obj->Prop)
 deriving Inhabited
def AV.cells:AV->List AV
 | .agg cs=>cs
 |v=>[v]
def AV.isAgg:AV->Bool
 | .agg _=>true
 |_=>false
def cU:Nat:=9223372036854775807
structure Lay (w:World) (D:Nat->Prop) (xs:List AV) (b o sz:Nat) (f:Nat->Nat->Value):Prop where
 lt:b<w.heap.size
 nd:¬D b
 pos:1<=sz
 max:xs.length<=cU
 wide:∀(i:Nat) (x:AV),xs[i]? =some x->x.cells.length=sz
 cell:∀i j,i<xs.length->j<sz->w.cell? ⟨b,o+i*sz+j,none⟩=some (f i j)
 one:∀i j,i<xs.length->j<sz->(f i j).oneCell'=true
inductive xE (w:World) (D:Nat->Prop):AV->Value->Prop
 |bot (c:Value):xE w D .bot c
 |gh (n:Nat) (c:Value):xE w D (.gh n) c
 |s (v:Value):xE w D (.s v) v
 |agg (cs:List AV) (c:Array Value) (hl:c.size=cs.length) (h1:∀i,i<c.size->(c.getD i undef).oneCell'=true) (h:∀(i:Nat) v,cs[i]? =some v->xE w D v (c.getD i undef)):xE w D (.agg cs) (.agg c)
 |nil (a:Option Addr) (cap:Nat):xE w D (.sl false []) (.slice a 0 cap)
 |nil1 (a:Addr) (cap:Nat):xE w D (.sl true []) (.slice (some a) 0 cap)
 |sl (nn:Bool) (xs:List AV) (b o sz cap:Nat) (f:Nat->Nat->Value) (hx:xs≠[]) (hL:Lay w D xs b o sz f) (hc:xs.length<=cap)
  (h:∀(i:Nat) (x:AV) (j:Nat) v,xs[i]? =some x->x.cells[j]? =some v->xE w D v (f i j)):xE w D (.sl nn xs) (.slice (some ⟨b,o,none⟩) xs.length cap)
 |slc (cap:Nat) (xs:List AV) (b o sz:Nat) (f:Nat->Nat->Value) (hL:Lay w D xs b o sz f) (hc:xs.length<=cap)
  (h:∀(i:Nat) (x:AV) (j:Nat) v,xs[i]? =some x->x.cells[j]? =some v->xE w D v (f i j)):xE w D (.slc cap xs) (.slice (some ⟨b,o,none⟩) xs.length cap)
 |fp (xs:List AV) (b o sz i off:Nat) (f:Nat->Nat->Value) (hL:Lay w D xs b o sz f) (hi:i<xs.length) (ho:off<sz)
  (h:∀(i:Nat) (x:AV) (j:Nat) v,xs[i]? =some x->x.cells[j]? =some v->xE w D v (f i j)):xE w D (.fp xs i off) (.pointer (some ⟨b,o+i*sz+off,none⟩))
 |fm (ob:Option Nat) (p:Obj->Prop) (b:Nat) (x:Obj) (ho:∀n,ob=some n->n=b) (hl:b<w.heap.size) (hd:¬D b) (hx:w.heap[b]? =some x) (hp:p x):xE w D (.fm ob p) (.map (some b))
structure Fl where
 stale:Bool
 nest:Bool
instance:Coe Bool Fl:=⟨λb=>⟨b,false⟩⟩
inductive xN where
 |box (cs:List AV)
 |arr (sz:Nat) (xs:List AV) (fl:Fl)
 |dead
 |obj (o:Nat×(Obj->Prop))
abbrev yJ:=Nat->Option xN
abbrev uW:=Nat->List (Nat×Nat)
def wG (w:World) (b:Nat):Nat:=((w.shape? b).map (·.2)).getD 0
inductive yB (w:World) (D:Nat->Prop) (h:yJ) (β:uW):AV->Value->Prop
 |fz (v:AV) (c:Value) (hf:xE w D v c):yB w D h β v c
 |agg (cs:List AV) (c:Array Value) (hl:c.size=cs.length) (h1:∀i,i<c.size->(c.getD i undef).oneCell'=true) (hh:∀(i:Nat) v,cs[i]? =some v->yB w D h β v (c.getD i undef)):yB w D h β (.agg cs) (.agg c)
 |fn (f:Nat) (caps:List AV) (c:Array Value) (hl:c.size=caps.length) (hh:∀(i:Nat) v,caps[i]? =some v->yB w D h β v (c.getD i undef)):yB w D h β (.fn f caps) (.func (.func f) #[] c)
 |tup (vs:List AV) (c:Array Value) (hl:c.size=vs.length) (hh:∀(i:Nat) v,vs[i]? =some v->yB w D h β v (c.getD i undef)):yB w D h β (.tup vs) (.tuple c)
 |dref (k off len:Nat) (c:Value) (hk:h k=some .dead) (h1:c.oneCell'=true):yB w D h β (.ref k off len) c
 |dptr (k i off:Nat) (c:Value) (hk:h k=some .dead) (h1:c.oneCell'=true):yB w D h β (.ptr k i off) c
 |ref (k off len sz:Nat) (xs:List AV) (st:Fl) (b n cap:Nat) (hk:h k=some (.arr sz xs st)) (hb:(b,n)∈β k) (hn:off+len<=n) (hc:len<=cap) (hs:(off+cap)*sz=wG w b):
  yB w D h β (.ref k off len) (.slice (some ⟨b,off*sz,none⟩) len cap)
 |ref0 (k off sz:Nat) (xs:List AV) (st:Fl) (a:Option Addr) (hk:h k=some (.arr sz xs st)) (hn:off<=xs.length):yB w D h β (.ref k off 0) (.slice a 0 0)
 |pbox (k off:Nat) (cs:List AV) (b n:Nat) (hk:h k=some (.box cs)) (hb:(b,n)∈β k):yB w D h β (.ptr k 0 off) (.pointer (some ⟨b,off,none⟩))
 |parr (k i off sz:Nat) (xs:List AV) (st:Fl) (b n:Nat) (hk:h k=some (.arr sz xs st)) (hb:(b,n)∈β k) (hi:i<n) (ho:off<sz):
  yB w D h β (.ptr k i off) (.pointer (some ⟨b,i*sz+off,none⟩))
def xO (X:Nat->Prop) (β:uW) (b:Nat):Prop:=X b∨∃k n,(b,n)∈β k
def gD (w:World) (D:Nat->Prop) (h:yJ) (β:uW) (nest:Bool) (xs:List AV) (f:Nat->Nat->Value):Prop:=
 ∀(i:Nat) (x:AV) (j:Nat) v,xs[i]? =some x->x.cells[j]? =some v->yB w D h β v (f i j)/\(nest=false->xE w D v (f i j))
theorem gD.ofF {w:World} {D:Nat->Prop} {h:yJ} {β:uW} {nest:Bool} {xs:List AV} {f:Nat->Nat->Value} (H:∀(i:Nat) (x:AV) (j:Nat) v,xs[i]? =some x->x.cells[j]? =some v->xE w D v (f i j)):gD w D h β nest xs f:=
 λi x j v hx hv=>⟨.fz _ _ (H i x j v hx hv),λ_=>H i x j v hx hv⟩
theorem gD.toF {w:World} {D:Nat->Prop} {h:yJ} {β:uW} {nest:Bool} {xs:List AV} {f:Nat->Nat->Value} (H:gD w D h β nest xs f) (hn:nest=false) (i:Nat) (x:AV) (j:Nat) (v:AV) (hx:xs[i]? =some x) (hv:x.cells[j]? =some v):xE w D v (f i j):=
 (H i x j v hx hv).2 hn
theorem gD.toV {w:World} {D:Nat->Prop} {h:yJ} {β:uW} {nest:Bool} {xs:List AV} {f:Nat->Nat->Value} (H:gD w D h β nest xs f) (i:Nat) (x:AV) (j:Nat) (v:AV) (hx:xs[i]? =some x) (hv:x.cells[j]? =some v):yB w D h β v (f i j):=
 (H i x j v hx hv).1
def TL (w:World) (D:Nat->Prop) (h:yJ) (β:uW) (k:Nat):xN->Prop
 | .box cs=>∃b c el,β k=[(b,0)]/\w.heap[b]? =some (.cells c el (0,0))/\c.size=cs.length/\(∀i,i<c.size->(c.getD i undef).oneCell'=true)/\∀(i:Nat) v,cs[i]? =some v->yB w D h β v (c.getD i undef)
 | .obj o=>β k=[(o.1,0)]/\∃x,w.heap[o.1]? =some x/\o.2 x
 | .arr sz xs st=>1<=sz/\xs.length<=cU/\(xs≠[]->β k≠[])/\(∀(i:Nat) (x:AV),xs[i]? =some x->x.cells.length=sz)/\
  (∀b n r,β k=(b,n)::r->n=xs.length/\(st.stale=false->∀b' n',(b',n')∈r->n'=0)/\∀b' n',(b',n')∈r->n'<xs.length)/\
  ∃f:Nat->Nat->Value,gD w D h β st.nest xs f/\(∀i j,i<xs.length->j<sz->(f i j).oneCell'=true)/\
   ∀b n,(b,n)∈β k->∃c el,w.heap[b]? =some (.cells c el (0,0))/\n*sz<=c.size/\(∀i j,i<n->j<sz->c[i*sz+j]? =some (f i j))/\∀i,i<c.size->(c.getD i undef).oneCell'=true
 | .dead=>β k=[]
structure jK (X:Nat->Prop) (h:yJ) (β:uW) (w:World):Prop where
 ent:∀k e,h k=some e->TL w (xO X β) h β k e
 off:∀k,h k=none->β k=[]
 disj:∀k k' b n n',(b,n)∈β k->(b,n')∈β k'->k=k'
 free:∀k b n,(b,n)∈β k->¬X b
 lt:∀b,xO X β b->b<w.heap.size
structure GM (w:World) (D:Nat->Prop) (h:yJ) (β:uW) (w':World) (D':Nat->Prop) (h':yJ) (β':uW):Prop where
 size:w.heap.size<=w'.heap.size
 fz:∀b,b<w.heap.size->¬D b->w'.heap[b]? =w.heap[b]? /\¬D' b
 bs:∀k b n,(b,n)∈β k->wG w' b=wG w b
 key:∀k e,h k=some e->h' k=some .dead∨match e with
  | .dead=>False
  | .box _=>(∃cs',h' k=some (.box cs'))/\∀b n,(b,n)∈β k->(b,n)∈β' k
  | .obj _=>(∃cs',h' k=some (.obj cs'))/\∀b n,(b,n)∈β k->(b,n)∈β' k
  | .arr sz xs _=>(∃xs' st',h' k=some (.arr sz xs' st')/\xs.length<=xs'.length)/\∀b n,(b,n)∈β k->∃n',n<=n'/\(b,n')∈β' k
theorem Lay.evo {w w':World} {D D':Nat->Prop} {xs:List AV} {b o sz:Nat} {f:Nat->Nat->Value} (hL:Lay w D xs b o sz f) (hs:w.heap.size<=w'.heap.size)
  (hf:∀b,b<w.heap.size->¬D b->w'.heap[b]? =w.heap[b]? /\¬D' b):Lay w' D' xs b o sz f:=
 ⟨zZe hL.lt hs,(hf b hL.lt hL.nd).2,hL.pos,hL.max,hL.wide,λi j hi hj=>(World.cell?_of_block (a:=⟨b,o+i*sz+j,none⟩) (hf b hL.lt hL.nd).1).trans (hL.cell i j hi hj),hL.one⟩
theorem xE.evo {w w':World} {D D':Nat->Prop} (hs:w.heap.size<=w'.heap.size) (hf:∀b,b<w.heap.size->¬D b->w'.heap[b]? =w.heap[b]? /\¬D' b)
  {v:AV} {c:Value} (h:xE w D v c):xE w' D' v c:=by
 induction h with
 |bot c=>exact .bot c
 |gh n c=>exact .gh n c
 |s v=>exact .s v
 |agg cs c hl h1 _ ih=>exact .agg cs c hl h1 ih
 |nil a cap=>exact .nil a cap
 |nil1 a cap=>exact .nil1 a cap
 |sl nn xs b o sz cap f hx hL hc _ ih=>exact .sl nn xs b o sz cap f hx (hL.evo hs hf) hc ih
 |slc cap xs b o sz f hL hc _ ih=>exact .slc cap xs b o sz f (hL.evo hs hf) hc ih
 |fp xs b o sz i off f hL hi ho _ ih=>exact .fp xs b o sz i off f (hL.evo hs hf) hi ho ih
 |fm ob p b x ho hl hd hx hp=>exact .fm ob p b x ho (zZe hl hs) (hf b hl hd).2 ((hf b hl hd).1.trans hx) hp
theorem yB.evo {w w':World} {D D':Nat->Prop} {h h':yJ} {β β':uW} (E:GM w D h β w' D' h' β') {v:AV} {c:Value} (hv:yB w D h β v c):yB w' D' h' β' v c:=by
 induction hv with
 |fz v c hf=>exact .fz v c (hf.evo E.size E.fz)
 |agg cs c hl h1 _ ih=>exact .agg cs c hl h1 ih
 |fn f caps c hl _ ih=>exact .fn f caps c hl ih
 |tup vs c hl _ ih=>exact .tup vs c hl ih
 |dref k off len c hk h1=>exact .dref _ _ _ _ ((E.key k _ hk).resolve_right (λf=>f)) h1
 |dptr k i off c hk h1=>exact .dptr _ _ _ _ ((E.key k _ hk).resolve_right (λf=>f)) h1
 |ref k off len sz xs st b n cap hk hb hn hc hs=>
  rcases E.key k _ hk with hd|⟨⟨xs',st',hk',_⟩,hm⟩
  ·exact .dref _ _ _ _ hd Z
  ·obtain⟨n',hn',hb'⟩:=hm b n hb;exact .ref k off len sz xs' st' b n' cap hk' hb' (zY9 hn hn') hc (by rw[E.bs k b n hb];exact hs)
 |ref0 k off sz xs st a hk hn=>
  rcases E.key k _ hk with hd|⟨⟨xs',st',hk',hl⟩,hm⟩
  ·exact .dref _ _ _ _ hd Z
  ·exact .ref0 k off sz xs' st' a hk' (zY9 hn hl)
 |pbox k off cs b n hk hb=>
  rcases E.key k _ hk with hd|⟨⟨cs',hk'⟩,hm⟩
  ·exact .dptr _ _ _ _ hd Z
  ·exact .pbox k off cs' b n hk' (hm b n hb)
 |parr k i off sz xs st b n hk hb hi ho=>
  rcases E.key k _ hk with hd|⟨⟨xs',st',hk',hl⟩,hm⟩
  ·exact .dptr _ _ _ _ hd Z
  ·obtain⟨n',hn',hb'⟩:=hm b n hb;exact .parr k i off sz xs' st' b n' hk' hb' (zZe hi hn') ho
theorem gD.evo {w w':World} {D D':Nat->Prop} {h h':yJ} {β β':uW} (E:GM w D h β w' D' h' β') {nest:Bool} {xs:List AV} {f:Nat->Nat->Value} (H:gD w D h β nest xs f):gD w' D' h' β' nest xs f:=
 λi x j v hx hv=>⟨(H i x j v hx hv).1.evo E,λhn=>((H i x j v hx hv).2 hn).evo E.size E.fz⟩
structure xK (X:Nat->Prop) (w:World) (h:yJ) (β:uW) (w':World) (h':yJ) (β':uW):Prop where
 size:w.heap.size<=w'.heap.size
 keep:∀b,b<w.heap.size->(∀k n,(b,n)∉β k)->w'.heap[b]? =w.heap[b]?
 own:∀k b n,(b,n)∈β' k->(∃k' n',(b,n')∈β k')∨w.heap.size<=b
 bs:∀k b n,(b,n)∈β k->wG w' b=wG w b
 key:∀k e,h k=some e->h' k=some .dead∨match e with
  | .dead=>False
  | .box _=>(∃cs',h' k=some (.box cs'))/\∀b n,(b,n)∈β k->(b,n)∈β' k
  | .obj _=>(∃cs',h' k=some (.obj cs'))/\∀b n,(b,n)∈β k->(b,n)∈β' k
  | .arr sz xs _=>(∃xs' st',h' k=some (.arr sz xs' st')/\xs.length<=xs'.length)/\∀b n,(b,n)∈β k->∃n',n<=n'/\(b,n')∈β' k
 hok:jK X h' β' w'
 os:w'.os=w.os
 tape:w'.tape=w.tape
 output:w'.output=w.output
theorem xK.evo {X:Nat->Prop} {w w':World} {h h':yJ} {β β':uW} (G:xK X w h β w' h' β'):GM w (xO X β) h β w' (xO X β') h' β' where
 size:=G.size
 fz b hb hd:=by
  have h1:∀k n,(b,n)∉β k:=λk n hm=>hd (.inr ⟨k,n,hm⟩)
  refine⟨G.keep b hb h1,?_⟩;rintro(hx|⟨k,n,hm⟩)
  ·exact hd (.inl hx)
  ·rcases G.own k b n hm with⟨k',n',h2⟩|h2
   ·exact h1 _ _ h2
   ·omega
 bs:=G.bs
 key:=G.key
def kU (h:yJ) (β:uW):∀k e,h k=some e->h k=some .dead∨match e with
  | .dead=>False
  | .box _=>(∃cs',h k=some (.box cs'))/\∀b n,(b,n)∈β k->(b,n)∈β k
  | .obj _=>(∃cs',h k=some (.obj cs'))/\∀b n,(b,n)∈β k->(b,n)∈β k
  | .arr sz xs _=>(∃xs' st',h k=some (.arr sz xs' st')/\xs.length<=xs'.length)/\∀b n,(b,n)∈β k->∃n',n<=n'/\(b,n')∈β k:=by
 intro k e he
 cases e with
 |dead=>exact .inl he
 |box cs=>exact .inr ⟨⟨cs,he⟩,λ_ _ h=>h⟩
 |obj cs=>exact .inr ⟨⟨cs,he⟩,λ_ _ h=>h⟩
 |arr sz xs st=>exact .inr ⟨⟨xs,st,he,zX7 _⟩,λ_ n h=>⟨n,zX7 _,h⟩⟩
theorem xK.refl {X:Nat->Prop} {h:yJ} {β:uW} {w:World} (H:jK X h β w):xK X w h β w h β:=
 ⟨zX7 _,λ_ _ _=>rfl,λk _ n hm=> .inl ⟨k,n,hm⟩,λ_ _ _ _=>rfl,kU h β,H,rfl,rfl,rfl⟩
theorem jK.drew {X:Nat->Prop} {h:yJ} {β:uW} {w:World} (H:jK X h β w) (n:Nat):jK X h β {w with drawn:=n}:=by
 have ev:∀{v c},yB w (xO X β) h β v c->yB {w with drawn:=n} (xO X β) h β v c:=λhv=>
  yB.evo (w:=w) (w':={w with drawn:=n}) (D':=xO X β) (h':=h) (β':=β) ⟨zX7 _,λ_ _ hd=>⟨rfl,hd⟩,λ_ _ _ _=>rfl,kU h β⟩ hv
 have ef:∀{v c},xE w (xO X β) v c->xE {w with drawn:=n} (xO X β) v c:=λhv=>xE.evo (w:=w) (w':={w with drawn:=n}) (D':=xO X β) (zX7 _) (λ_ _ hd=>⟨rfl,hd⟩) hv
 refine⟨λk e he=>?_,H.off,H.disj,H.free,H.lt⟩;have:=H.ent k e he
 cases e with
 |dead=>exact this
 |box cs=>
  obtain⟨b,c,el,h1,h2,h3,h4,h5⟩:=this;exact⟨b,c,el,h1,h2,h3,h4,λi v hv=>ev (h5 i v hv)⟩
 |obj cs=>
  exact this
 |arr sz xs st=>
  obtain⟨h1,h2,h3,h4,h5,f,h6,h7⟩:=this;exact⟨h1,h2,h3,h4,h5,f,λi x j v hx hv=>⟨ev (h6 i x j v hx hv).1,λhn=>ef ((h6 i x j v hx hv).2 hn)⟩,h7⟩
theorem xK.drew {X:Nat->Prop} {h:yJ} {β:uW} {w:World} (H:jK X h β w) (n:Nat):xK X w h β {w with drawn:=n} h β:=
 ⟨zX7 _,λ_ _ _=>rfl,λk _ n hm=> .inl ⟨k,n,hm⟩,λ_ _ _ _=>rfl,kU h β,H.drew n,rfl,rfl,rfl⟩
theorem xK.trans {X:Nat->Prop} {w w' w'':World} {h h' h'':yJ} {β β' β'':uW} (H:jK X h β w) (G:xK X w h β w' h' β') (K:xK X w' h' β' w'' h'' β''):xK X w h β w'' h'' β'' where
 size:=zY9 G.size K.size
 keep b hb hn:=by
  rw[K.keep b (zZe hb G.size),G.keep b hb hn];intro k n hm
  rcases G.own k b n hm with⟨k',n',h2⟩|h2
  ·exact hn _ _ h2
  ·omega
 own k b n hm:=by
  rcases K.own k b n hm with⟨k',n',h2⟩|h2
  ·exact G.own k' b n' h2
  ·exact .inr (zY9 G.size h2)
 bs k b n hm:=by
  have hb:=H.lt b (.inr ⟨k,n,hm⟩);by_cases hd:∃k n,(b,n)∈β' k
  ·obtain⟨k',n',hm'⟩:=hd;rw[K.bs k' b n' hm',G.bs k b n hm]
  ·rw[<-G.bs k b n hm];unfold wG World.shape?;rw[K.keep b (zZe hb G.size) λk n hm=>hd ⟨k,n,hm⟩]
 key k e he:=by
  rcases G.key k e he with h1|h1
  ·rcases K.key k _ h1 with h2|h2
   ·exact .inl h2
   ·exact h2.elim
  ·cases e with
   |dead=>exact h1.elim
   |box cs=>
    obtain⟨⟨cs',h2⟩,h3⟩:=h1
    rcases K.key k _ h2 with h4|⟨h4,h5⟩
    ·exact .inl h4
    ·exact .inr ⟨h4,λb n hm=>h5 b n (h3 b n hm)⟩
   |obj cs=>
    obtain⟨⟨cs',h2⟩,h3⟩:=h1
    rcases K.key k _ h2 with h4|⟨h4,h5⟩
    ·exact .inl h4
    ·exact .inr ⟨h4,λb n hm=>h5 b n (h3 b n hm)⟩
   |arr sz xs st=>
    obtain⟨⟨xs',st',h2,hl⟩,h3⟩:=h1
    rcases K.key k _ h2 with h4|⟨⟨xs'',st'',h4,hl'⟩,h5⟩
    ·exact .inl h4
    ·refine .inr ⟨⟨xs'',st'',h4,zY9 hl hl'⟩,λb n hm=>?_⟩;obtain⟨n',hn',hm'⟩:=h3 b n hm;obtain⟨n'',hn'',hm''⟩:=h5 b n' hm';exact⟨n'',zY9 hn' hn'',hm''⟩
 hok:=K.hok
 os:=K.os.trans G.os
 tape:=K.tape.trans G.tape
 output:=K.output.trans G.output
section
inductive TD where
 |str (fs:List (Nat×Nat))
 |slice (e:Nat)
 |arr (n e:Nat)
 |int (k:IntKind)
 |bool
 |string
 |ptr (e:Nat)
 |func
 |other
structure TI where
 d:TD
 size:Nat
 bytes:Nat
 zero:List Value
def TD.agg:TD->Bool
 | .str _| .arr _ _=>true
 |_=>false
def XN:TypeDesc->TD
 | .struct fs=> .str (fs.toList.map λf=>(f.offset,f.type))
 | .slice e=> .slice e
 | .array n e=> .arr n e
 | .int k=> .int k
 | .bool=> .bool
 | .string=> .string
 | .pointer e=> .ptr e
 | .func .. => .func
 |_=> .other
def zJw (P:Program) (t:Nat):Option TI:=
 match P.info? t,P.underlying t with
 |some i,some u=>i.zero.map λz=>⟨XN u,i.size,i.bytes,z.cells.toList⟩
 |_,_=>none
def uZ (P:Program) (TT:List TI):Prop:=∀(t:Nat) ti,TT[t]? =some ti->zJw P t=some ti
def uM {P:Program} {t:Nat} {ti:TI} (h:zJw P t=some ti):∃i u z,P.info? t=some i/\P.underlying t=some u/\i.zero=some z/\ti.d=XN u/\ti.size=i.size/\ti.bytes=i.bytes/\ti.zero=z.cells.toList:=by
 unfold zJw at h;split at h
 ·rename_i i u hi hu
  cases hz:i.zero with
  |none=>simp[hz]at h
  |some z=>
   simp[hz]at h;exact⟨i,u,z,hi,hu,hz,by rw[<-h],by rw[<-h],by rw[<-h],by rw[<-h]⟩
 ·cases h
section runs
variable {P:Program} {t:Nat} {ti:TI} (h:zJw P t=some ti) (w:World)
include h
def DP:∃i z,(typeInfo t).run P w= .ok i w/\i.size=ti.size/\i.bytes=ti.bytes/\i.zero=some z/\z.cells.toList=ti.zero:=by
 obtain⟨i,u,z,hi,_,hz,_,hs,hb,hzz⟩:=uM h;exact⟨i,z,by simp[typeInfo,hi],hs.symm,hb.symm,hz,hzz.symm⟩
def qA:(sizeOf t).run P w= .ok ti.size w:=by
 obtain⟨i,z,hr,hs,_⟩:=DP h w;simp[sizeOf,hr,hs]
def OY:∃z,(zeroValue t).run P w= .ok z w/\z.cells.toList=ti.zero:=by
 obtain⟨i,z,hr,_,_,hz,hzz⟩:=DP h w;exact⟨z,by simp[zeroValue,hr,hz],hzz⟩
def xU:∃u,(underlying t).run P w= .ok u w/\XN u=ti.d:=by
 obtain⟨i,u,z,_,hu,_,hd,_⟩:=uM h;exact⟨u,by simp[underlying,hu],hd.symm⟩
def zDb:(isAgg t).run P w= .ok ti.d.agg w:=by
 obtain⟨u,hr,hd⟩:=xU h w;rw[<-hd];simp only[isAgg,Sem.run_bind,hr,Result.andThen_ok]
 cases u<;>rfl
end runs
def DQ {P:Program} {t:Nat} (w:World) {u:TypeDesc} (hu:P.underlying t=some u):(underlying t).run P w= .ok u w:=by simp[underlying,hu]
def vX {u:TypeDesc} {e:Nat} (h:XN u= .slice e):u= .slice e:=by cases u<;>simp[XN]at h;rw[h]
def zAs {u:TypeDesc} {n e:Nat} (h:XN u= .arr n e):u= .array n e:=by cases u<;>simp[XN]at h;rw[h.1,h.2]
def IL {u:TypeDesc} {k:IntKind} (h:XN u= .int k):u= .int k:=by cases u<;>simp[XN]at h;rw[h]
def zOu {u:TypeDesc} (h:XN u= .bool):u= .bool:=by cases u<;>simp[XN]at h;rfl
def zEv {u:TypeDesc} (h:XN u= .string):u= .string:=by cases u<;>simp[XN]at h;rfl
def zJx {u:TypeDesc} {fs:List (Nat×Nat)} (h:XN u= .str fs):∃f,u= .struct f/\f.toList.map (λf=>(f.offset,f.type))=fs:=by
 cases u with
 |struct f=>exact⟨f,rfl,by simpa [XN]using h⟩
 |_=>simp[XN]at h
structure St where
 tm:List (Nat×AV)
 h:List (Nat×xN)
def zG:List (Nat×AV)->Nat->AV
 | [],_=> .bot
 |(k,v)::r,t=>bif Nat.beq t k then v else zG r t
def zC:List (Nat×xN)->Nat->Option xN
 | [],_=>none
 |(k,e)::r,t=>bif Nat.beq t k then some e else zC r t
def over (d:List (Nat×xN)) (h:yJ):yJ:=λk=>match zC d k with
 |some e=>some e
 |none=>h k
def yM (tm:Nat->AV):Operand->AV
 | .tmp t=>tm t
 | .const v=> .s v
 | .func f=> .fn f []
 | .global _=> .bot
def eV (op:Op):List Nat:=op.operands.toList.filterMap λ| .tmp t=>some t|_=>none
def aU (P:Program) (N:Value->World->Prop):Result Next->Prop
 | .ok (.value c) w'=>N c w'
 | .ok .skip w'=>N undef w'
 | .ok (.enter f args) w'=>Calls P f args w' λe w''=>∃c,e= .returned c/\N c w''
 |_=>False
def zWh (P:Program) (X:Nat->Prop) (tm:Nat->AV) (h:yJ) (op:Op) (v:AV) (h':yJ):Prop:=
 ∀(o:Oper) (a:Act) (w:World) (β:uW),o.op=op->jK X h β w->(∀t,yB w (xO X β) h β (tm t) (a.eval (.tmp t)))->
  aU P (λc w'=>∃β',xK X w h β w' h' β'/\yB w' (xO X β') h' β' v c) ((execOp a.eval o).run P w)
structure wV (P:Program) (st:St) (op:Op) (v:AV) (d:List (Nat×xN)) (r nw:List Nat):Prop where
 run:∀(X:Nat->Prop) (tm:Nat->AV) (h:yJ),(∀t,t∈eV op->tm t=zG st.tm t)->(∀k,k∈r->h k=zC st.h k)->(∀k,k∈nw->h k=none)->zWh P X tm h op v (over d h)
section
variable {w:World} {D:Nat->Prop} {h:yJ} {β:uW}
def PE {tm:Nat->AV} {a:Act} (H:∀t,yB w D h β (tm t) (a.eval (.tmp t))) (x:Operand):yB w D h β (yM tm x) (a.eval x):=by
 cases x with
 |tmp t=>exact H t
 |const v=>exact .fz _ _ (.s v)
 |global g=>exact .fz _ _ (.bot _)
 |func f=>exact .fn f [] #[] Z (λi v hv=>by simp at hv)
def zEw {op:Op} {tm tm':Nat->AV} (H:∀t,t∈eV op->tm t=tm' t) {x:Operand} (hx:x∈op.operands):yM tm x=yM tm' x:=by
 cases x with
 |tmp t=>exact H t (by simp only[eV,List.mem_filterMap];exact⟨.tmp t,by simpa using hx,rfl⟩)
 |_=>rfl
theorem yB.s_inv {x c:Value} (hv:yB w D h β (.s x) c):c=x:=by
 cases hv with
 |fz _ _ hf=>cases hf;rfl
def gU {op:Op} {tm:Nat->AV} {st:St} {a:Act} (H:∀t,yB w D h β (tm t) (a.eval (.tmp t))) (hg:∀t,t∈eV op->tm t=zG st.tm t) {x:Operand} (hx:x∈op.operands) {v:AV}
  (hv:yM (zG st.tm) x=v):yB w D h β v (a.eval x):=by
 rw[<-hv,<-zEw hg hx];exact PE H x
def vV {op:Op} {tm:Nat->AV} {st:St} {a:Act} (H:∀t,yB w D h β (tm t) (a.eval (.tmp t))) (hg:∀t,t∈eV op->tm t=zG st.tm t) {x:Operand} (hx:x∈op.operands) {v:Value}
 (hv:yM (zG st.tm) x= .s v):a.eval x=v:=(gU H hg hx hv).s_inv
end
def cM (h:yJ):over [] h=h:=rfl
def yO {P:Program} {st:St} {op:Op} {v:AV} {r:List Nat}
  (H:∀(o:Oper) (X:Nat->Prop) (tm:Nat->AV) (h:yJ) (w:World) (β:uW) (a:Act),o.op=op->(∀t,t∈eV op->tm t=zG st.tm t)->(∀k,k∈r->h k=zC st.h k)->jK X h β w->
   (∀t,yB w (xO X β) h β (tm t) (a.eval (.tmp t)))->∃c,(execOp a.eval o).run P w= .ok (.value c) w/\yB w (xO X β) h β v c):wV P st op v [] r []:=by
 refine⟨?_⟩;intro X tm h hg hr _ o a w β ho HH Ht;obtain⟨c,hc,hv⟩:=H o X tm h w β a ho hg hr HH Ht;rw[hc,cM];exact⟨β,xK.refl HH,hv⟩
section ops
variable {P:Program} {TT:List TI} {st:St}
def zJy {x:Operand} {v:AV} (hv:yM (zG st.tm) x=v):wV P st (.move x) v [] [] []:=
 yO λo X tm h w β a ho hg _ _ Ht=>by
  obtain⟨d0,o0,y0,p0,f0,g0⟩:=o;dsimp only at ho;subst ho;exact⟨a.eval x,rfl,gU Ht hg uT hv⟩
def zAt {x:Operand} {v:AV} (hv:yM (zG st.tm) x=v):wV P st (.assign x) v [] [] []:=
 yO λo X tm h w β a ho hg _ _ Ht=>by
  obtain⟨d0,o0,y0,p0,f0,g0⟩:=o;dsimp only at ho;subst ho;exact⟨a.eval x,rfl,gU Ht hg uT hv⟩
def zJz {c x y:Operand} {t:Bool} {v:AV} (hc:yM (zG st.tm) c= .s (.bool t)) (hv:(bif t then yM (zG st.tm) x else yM (zG st.tm) y)=v):wV P st (.pick c x y) v [] [] []:=
 yO λo X tm h w β a ho hg _ _ Ht=>by
  obtain⟨d0,o0,y0,p0,f0,g0⟩:=o;dsimp only at ho;subst ho;have h1:=vV Ht hg (x:=c) uT hc;refine⟨if t then a.eval x else a.eval y,by simp[execOp,h1,asBool],?_⟩;cases t
  ·exact gU Ht hg uT hv
  ·exact gU Ht hg uT hv
def DS {x:Operand} {vs:List AV} {i:Nat} {v:AV} (hx:yM (zG st.tm) x= .tup vs) (hv:vs[i]? =some v):wV P st (.extract x i) v [] [] []:=
 yO λo X tm h w β a ho hg _ _ Ht=>by
  obtain⟨d0,o0,y0,p0,f0,g0⟩:=o;dsimp only at ho;subst ho;have h1:=gU Ht hg (x:=x) uT hx;have hi:=(zYu.1 hv).1;generalize he:a.eval x=cx at h1
  cases h1 with
  |fz _ _ hf=>cases hf
  |tup _ c hl hh=>
   obtain⟨u,hc⟩:∃u,c[i]? =some u:=⟨c[i],by simp[show i<c.size by omega]⟩;have hu:c.getD i undef=u:=by simp[zY7,hc]
   exact⟨u,by simp[execOp,Instr.extract,he,hc],hu▸hh i v hv⟩
def YH:IntKind->Int->Prop
 | .i64,n=> -9223372036854775808<=n/\n<=9223372036854775807
 | .u8,n=>0<=n/\n<=255
 | .i32,n=> -2147483648<=n/\n<=2147483647
 | .u32,n=>0<=n/\n<=4294967295
 | .u64,n=>0<=n/\n<=18446744073709551615
 | .i8,n=> -128<=n/\n<=127
 | .i16,n=> -32768<=n/\n<=32767
 | .u16,n=>0<=n/\n<=65535
def kV {k:IntKind} {n:Int} (h:YH k n):k.wrap n=n:=by
 cases k<;>first
  |exact IntWalk.i64_in n h
  |exact IntWalk.u8_in n h
  |exact IntWalk.i32_in n h
  |exact IntWalk.u32_in n h
  |exact IntWalk.u64_in n h
  |exact IntWalk.i8_in n h
  |exact IntWalk.i16_in n h
  |exact IntWalk.u16_in n h
def qB {op:BinOp} {tx ty:Nat} {x y:Operand} {k:IntKind} {m n:Int} {v:Value} (hx:yM (zG st.tm) x= .s (.int k m)) (hy:yM (zG st.tm) y= .s (.int k n))
  (H:∀w,(binOp op tx (.int k m) (.int k n)).run P w= .ok v w):wV P st (.binOp op tx x y ty) (.s v) [] [] []:=
 yO λo X tm h w β a ho hg _ _ Ht=>by
  obtain⟨d0,o0,y0,p0,f0,g0⟩:=o;dsimp only at ho;subst ho;have h1:=vV Ht hg (x:=x) uT hx;have h2:=vV Ht hg (x:=y) uT hy;refine⟨v,?_,.fz _ _ (.s v)⟩
  have hgd:(eqGuard op tx x y (.int k m) (.int k n)).run P w= .ok () w:=by
   unfold eqGuard;cases op<;>rfl
  simp only[execOp,h1,h2,Sem.run_bind,hgd,Result.andThen_ok,H,Sem.run_pure]
section
variable {tx ty:Nat} {x y:Operand} {k:IntKind} {m n:Int} (hx:yM (zG st.tm) x= .s (.int k m)) (hy:yM (zG st.tm) y= .s (.int k n))
include hx hy
def jY (hr:YH k (m+n)):wV P st (.binOp .add tx x y ty) (.s (.int k (m+n))) [] [] []:=qB hx hy λw=>by simp[binOp,Op.intArith,kV hr]
def dK (hr:YH k (m-n)):wV P st (.binOp .sub tx x y ty) (.s (.int k (m-n))) [] [] []:=qB hx hy λw=>by simp[binOp,Op.intArith,kV hr]
def jZ (hr:YH k (m*n)):wV P st (.binOp .mul tx x y ty) (.s (.int k (m*n))) [] [] []:=qB hx hy λw=>by simp[binOp,Op.intArith,kV hr]
def dL (hr:YH k (m.tdiv n)) (h0:n≠0):wV P st (.binOp .quo tx x y ty) (.s (.int k (m.tdiv n))) [] [] []:=qB hx hy λw=>by simp[binOp,Op.intDiv,h0,kV hr]
def dM (h0:n≠0):wV P st (.binOp .rem tx x y ty) (.s (.int k (m.tmod n))) [] [] []:=qB hx hy λw=>by simp[binOp,Op.intDiv,h0]
def PF:wV P st (.binOp .and tx x y ty) (.s (.int k (k.wrap (BitVec.ofInt k.bits m &&& BitVec.ofInt k.bits n).toNat))) [] [] []:=qB hx hy λw=>by simp only[binOp,Op.intBits];simp
def IM:wV P st (.binOp .or tx x y ty) (.s (.int k (k.wrap (BitVec.ofInt k.bits m ||| BitVec.ofInt k.bits n).toNat))) [] [] []:=qB hx hy λw=>by simp only[binOp,Op.intBits];simp
def dN:wV P st (.binOp .xor tx x y ty) (.s (.int k (k.wrap (BitVec.ofInt k.bits m ^^^ BitVec.ofInt k.bits n).toNat))) [] [] []:=qB hx hy λw=>by simp only[binOp,Op.intBits];simp
def zAu:wV P st (.binOp .andNot tx x y ty) (.s (.int k (k.wrap (BitVec.ofInt k.bits m &&& ~~~BitVec.ofInt k.bits n).toNat))) [] [] []:=qB hx hy λw=>by simp only[binOp,Op.intBits];simp
def IN:wV P st (.binOp .eql tx x y ty) (.s (.bool (m==n))) [] [] []:=qB hx hy λw=>by simp[binOp,Op.intCmp]
def IO:wV P st (.binOp .neq tx x y ty) (.s (.bool (m != n))) [] [] []:=qB hx hy λw=>by simp[binOp,Op.intCmp]
def IP:wV P st (.binOp .lss tx x y ty) (.s (.bool (decide (m<n)))) [] [] []:=qB hx hy λw=>by simp[binOp,Op.intCmp]
def IQ:wV P st (.binOp .leq tx x y ty) (.s (.bool (decide (m<=n)))) [] [] []:=qB hx hy λw=>by simp[binOp,Op.intCmp]
def IR:wV P st (.binOp .gtr tx x y ty) (.s (.bool (decide (n<m)))) [] [] []:=qB hx hy λw=>by simp[binOp,Op.intCmp]
def IS:wV P st (.binOp .geq tx x y ty) (.s (.bool (decide (n<=m)))) [] [] []:=qB hx hy λw=>by simp[binOp,Op.intCmp]
end
def wH {op:BinOp} {tx ty:Nat} {x y:Operand} {k k':IntKind} {m n:Int} {v:Int} (hop:op= .shl/\v=k.wrap (m*2 ^ (min n.toNat k.bits))∨op= .shr/\v=m.fdiv (2 ^ (min n.toNat k.bits)))
  (hx:yM (zG st.tm) x= .s (.int k m)) (hy:yM (zG st.tm) y= .s (.int k' n)) (h0:0<=n):wV P st (.binOp op tx x y ty) (.s (.int k v)) [] [] []:=
 yO λo X tm h w β a ho hg _ _ Ht=>by
  obtain⟨d0,o0,y0,p0,f0,g0⟩:=o;dsimp only at ho;subst ho;have h1:=vV Ht hg (x:=x) uT hx;have h2:=vV Ht hg (x:=y) uT hy;have h3:¬n<0:=by omega
  refine⟨.int k v,?_,.fz _ _ (.s _)⟩
  rcases hop with⟨rfl,rfl⟩|⟨rfl,rfl⟩<;>simp[execOp,h1,h2,eqGuard,binOp,Op.shift,h3]
def zOv {tx:Nat} {x:Operand} {b:Bool} (hx:yM (zG st.tm) x= .s (.bool b)):wV P st (.unOp .not tx x) (.s (.bool !b)) [] [] []:=
 yO λo X tm h w β a ho hg _ _ Ht=>by
  obtain⟨d0,o0,y0,p0,f0,g0⟩:=o;dsimp only at ho;subst ho;have h1:=vV Ht hg (x:=x) uT hx;exact⟨_,by simp[execOp,h1,Op.unary],.fz _ _ (.s _)⟩
def dO {tx:Nat} {x:Operand} {k:IntKind} {n:Int} (hx:yM (zG st.tm) x= .s (.int k n)) (hr:YH k (-n)):wV P st (.unOp .neg tx x) (.s (.int k (-n))) [] [] []:=
 yO λo X tm h w β a ho hg _ _ Ht=>by
  obtain⟨d0,o0,y0,p0,f0,g0⟩:=o;dsimp only at ho;subst ho;have h1:=vV Ht hg (x:=x) uT hx;exact⟨.int k (-n),by simp[execOp,h1,Op.unary,Op.intArith,kV hr],.fz _ _ (.s _)⟩
def jV {src dst:Nat} {x:Operand} {k k':IntKind} {n:Int} {ts td:TI} (hP:uZ P TT) (hs:TT[src]? =some ts) (hd:TT[dst]? =some td) (hk:td.d= .int k') (hx:yM (zG st.tm) x= .s (.int k n)):
  wV P st (.convert src dst x) (.s (.int k' (k'.wrap n))) [] [] []:=
 yO λo X tm h w β a ho hg _ _ Ht=>by
  obtain⟨dst',op',type,pos,after,guard⟩:=o;dsimp only at ho;subst ho;have h1:=vV Ht hg (x:=x) uT hx;obtain⟨u,hu,_⟩:=xU (hP _ _ hs) w;obtain⟨u',hu',hd'⟩:=xU (hP _ _ hd) w;obtain rfl:=IL (hd'.trans hk);exact⟨.int k' (k'.wrap n),by simp[execOp,convert,h1,hu,hu',Conv.intToInt],.fz _ _ (.s _)⟩
def vB {op:BinOp} {tx ty:Nat} {x y:Operand} {p q:Bool} {v:Bool} {ti:TI} (hP:uZ P TT) (ht:TT[tx]? =some ti) (hd:ti.d= .bool) (hx:yM (zG st.tm) x= .s (.bool p)) (hy:yM (zG st.tm) y= .s (.bool q))
  (hop:op= .eql/\v=(p==q)∨op= .neq/\v=(p != q)):wV P st (.binOp op tx x y ty) (.s (.bool v)) [] [] []:=
 yO λo X tm h w β a ho hg _ _ Ht=>by
  obtain⟨d0,o0,y0,p0,f0,g0⟩:=o;dsimp only at ho;subst ho;have h1:=vV Ht hg (x:=x) uT hx;have h2:=vV Ht hg (x:=y) uT hy;obtain⟨u,hu,hd'⟩:=xU (hP _ _ ht) w;obtain rfl:=zOu (hd'.trans hd)
  have he:(Op.equal tx (.bool p) (.bool q)).run P w= .ok (p==q) w:=by
   show(Op.equalIn (9999+1) tx (.bool p) (.bool q)).run P w=_
   unfold Op.equalIn;simp[hu]
  refine⟨.bool v,?_,.fz _ _ (.s _)⟩
  rcases hop with⟨rfl,rfl⟩|⟨rfl,rfl⟩<;>simp[execOp,h1,h2,eqGuard,binOp,he,bne]
def IT {f:Nat} {cap:Array Operand}:wV P st (.makeFunc (.func f) #[] cap) (.fn f (cap.toList.map (yM (zG st.tm)))) [] [] []:=
 yO λo X tm h w β a ho hg _ _ Ht=>by
  obtain⟨d0,o0,y0,p0,f0,g0⟩:=o;dsimp only at ho;subst ho;refine⟨.func (.func f) #[] (cap.map a.eval),by simp[execOp,Instr.makeFunc],.fn _ _ _ zW λi v hv=>?_⟩;simp only[zX8,zYf]at hv;obtain⟨x,hx,rfl⟩:=hv
  have:(cap.map a.eval).getD i undef=a.eval x:=by
   have:cap[i]? =some x:=by simpa using hx
   simp[zY7,this]
  rw[this];refine gU Ht hg ?_ Z
  have:x∈cap:=by
   have:=zZk hx;simpa using this
  simp[Op.operands,this]
end ops
end
def bD (β:uW) (k:Nat) (l:List (Nat×Nat)):uW:=λj=>if j=k then l else β j
def zZ (β:uW) (k:Nat) (l:List (Nat×Nat)):bD β k l k=l:=by simp[bD]
def qZ (β:uW) {k j:Nat} (l:List (Nat×Nat)) (h:j≠k):bD β k l j=β j:=by simp[bD,h]
def zEx (k:Nat):Nat.beq k k=true:=by simp
def XE {j k:Nat} (h:j≠k):Nat.beq j k=false:=by
 cases e:Nat.beq j k with
 |false=>rfl
 |true=>exact absurd (zY2 e) h
def kC (k:Nat) (e:xN) (h:yJ):over [(k,e)] h k=some e:=by simp[over,zC]
def aV {k j:Nat} (e:xN) (h:yJ) (hj:j≠k):over [(k,e)] h j=h j:=by simp[over,zC,XE hj]
theorem TL.evo {w w':World} {D D':Nat->Prop} {h h':yJ} {β β':uW} (E:GM w D h β w' D' h' β') {k:Nat} {e:xN} (hb:β' k=β k) (hk:∀b n,(b,n)∈β k->w'.heap[b]? =w.heap[b]?)
  (H:TL w D h β k e):TL w' D' h' β' k e:=by
 cases e with
 |dead=>exact hb.trans H
 |box cs=>
  obtain⟨b,c,el,h1,h2,h3,h4,h5⟩:=H;exact⟨b,c,el,hb.trans h1,(hk b 0 (by rw[h1];simp)).trans h2,h3,h4,λi v hv=>(h5 i v hv).evo E⟩
 |obj cs=>
  obtain⟨h1,x,h2,h3⟩:=H;exact⟨hb.trans h1,x,(hk cs.1 0 (by rw[h1];simp)).trans h2,h3⟩
 |arr sz xs st=>
  obtain⟨h1,h2,h3,h4,h5,f,h6,h7,h8⟩:=H;refine⟨h1,h2,by rwa [hb],h4,by rwa [hb],f,h6.evo E,h7,λb n hm=>?_⟩;rw[hb]at hm;obtain⟨c,el,h9,h10⟩:=h8 b n hm;exact⟨c,el,(hk b n hm).trans h9,h10⟩
theorem xK.step {X:Nat->Prop} {h:yJ} {β:uW} {w w':World} (H:jK X h β w) (k:Nat) (e':xN) (l:List (Nat×Nat)) (size:w.heap.size<=w'.heap.size)
  (keep:∀b,b<w.heap.size->(∀n,(b,n)∉β k)->w'.heap[b]? =w.heap[b]?) (os:w'.os=w.os) (tape:w'.tape=w.tape) (output:w'.output=w.output)
  (own:∀b n,(b,n)∈l->(∃n',(b,n')∈β k)∨(w.heap.size<=b/\b<w'.heap.size)) (bs:∀b n,(b,n)∈β k->wG w' b=wG w b)
  (key:∀e,h k=some e->e'= .dead∨match e with
   | .dead=>False
   | .box _=>(∃cs',e'= .box cs')/\∀b n,(b,n)∈β k->(b,n)∈l
   | .obj _=>(∃cs',e'= .obj cs')/\∀b n,(b,n)∈β k->(b,n)∈l
   | .arr sz xs _=>(∃xs' st',e'= .arr sz xs' st'/\xs.length<=xs'.length)/\∀b n,(b,n)∈β k->∃n',n<=n'/\(b,n')∈l)
  (ent:GM w (xO X β) h β w' (xO X (bD β k l)) (over [(k,e')] h) (bD β k l)->TL w' (xO X (bD β k l)) (over [(k,e')] h) (bD β k l) k e'):
  xK X w h β w' (over [(k,e')] h) (bD β k l):=by
 have own':∀j b n,(b,n)∈bD β k l j->(∃k' n',(b,n')∈β k')∨w.heap.size<=b:=by
  intro j b n hm;by_cases hj:j=k
  ·subst hj;rw[zZ]at hm
   rcases own b n hm with⟨n',h1⟩|⟨h1,_⟩
   ·exact .inl ⟨_,_,h1⟩
   ·exact .inr h1
  ·rw[qZ _ _ hj]at hm;exact .inl ⟨_,_,hm⟩
 have apart:∀j b n n',j≠k->(b,n)∈β j->(b,n')∉β k:=λj b n n' hj h1 h2=>hj (H.disj _ _ _ _ _ h1 h2)
 have keep':∀b,b<w.heap.size->(∀k n,(b,n)∉β k)->w'.heap[b]? =w.heap[b]? :=λb hb hn=>keep b hb (hn k)
 have bs':∀j b n,(b,n)∈β j->wG w' b=wG w b:=by
  intro j b n hm;by_cases hj:j=k
  ·subst hj;exact bs b n hm
  ·unfold wG World.shape?;rw[keep b (H.lt b (.inr ⟨j,n,hm⟩)) λn' h1=>apart j b n n' hj hm h1]
 have key':∀j e,h j=some e->over [(k,e')] h j=some .dead∨match e with
   | .dead=>False
   | .box _=>(∃cs',over [(k,e')] h j=some (.box cs'))/\∀b n,(b,n)∈β j->(b,n)∈bD β k l j
   | .obj _=>(∃cs',over [(k,e')] h j=some (.obj cs'))/\∀b n,(b,n)∈β j->(b,n)∈bD β k l j
   | .arr sz xs _=>(∃xs' st',over [(k,e')] h j=some (.arr sz xs' st')/\xs.length<=xs'.length)/\∀b n,(b,n)∈β j->∃n',n<=n'/\(b,n')∈bD β k l j:=by
  intro j e he;by_cases hj:j=k
  ·subst hj;rw[kC,zZ]
   rcases key e he with h1|h1
   ·exact .inl (by rw[h1])
   ·cases e with
    |dead=>exact h1.elim
    |box cs=>obtain⟨⟨cs',h2⟩,h3⟩:=h1;exact .inr ⟨⟨cs',by rw[h2]⟩,h3⟩
    |obj cs=>obtain⟨⟨cs',h2⟩,h3⟩:=h1;exact .inr ⟨⟨cs',by rw[h2]⟩,h3⟩
    |arr sz xs st=>obtain⟨⟨xs',st',h2,h2'⟩,h3⟩:=h1;exact .inr ⟨⟨xs',st',by rw[h2],h2'⟩,h3⟩
  ·rw[aV _ _ hj,qZ _ _ hj];exact kU h β j e he
 have E:GM w (xO X β) h β w' (xO X (bD β k l)) (over [(k,e')] h) (bD β k l):=by
  refine⟨size,λb hb hd=>?_,bs',key'⟩;have h1:∀k n,(b,n)∉β k:=λk n hm=>hd (.inr ⟨k,n,hm⟩)
  refine⟨keep' b hb h1,?_⟩;rintro(hx|⟨j,n,hm⟩)
  ·exact hd (.inl hx)
  ·rcases own' j b n hm with⟨k',n',h2⟩|h2
   ·exact h1 _ _ h2
   ·omega
 refine⟨size,keep',own',bs',key',⟨λj e he=>?_,λj he=>?_,λj j' b n n' h1 h2=>?_,λj b n hm hx=>?_,λb hd=>?_⟩,os,tape,output⟩
 ·by_cases hj:j=k
  ·subst hj;rw[kC]at he;cases he;exact ent E
  ·rw[aV _ _ hj]at he;exact(H.ent j e he).evo E (qZ _ _ hj) λb n hm=>keep b (H.lt b (.inr ⟨j,n,hm⟩)) λn' h1=>apart j b n n' hj hm h1
 ·by_cases hj:j=k
  ·subst hj;rw[kC]at he;cases he
  ·rw[aV _ _ hj]at he;rw[qZ _ _ hj];exact H.off j he
 ·by_cases hj:j=k<;>by_cases hj':j'=k
  ·rw[hj,hj']
  ·subst hj;rw[zZ]at h1;rw[qZ _ _ hj']at h2
   rcases own b n h1 with⟨m,h3⟩|⟨h3,_⟩
   ·exact absurd h3 (apart j' b n' m hj' h2)
   ·have:=H.lt b (.inr ⟨_,_,h2⟩);omega
  ·subst hj';rw[zZ]at h2;rw[qZ _ _ hj]at h1
   rcases own b n' h2 with⟨m,h3⟩|⟨h3,_⟩
   ·exact absurd h3 (apart j b n m hj h1)
   ·have:=H.lt b (.inr ⟨_,_,h1⟩);omega
  ·rw[qZ _ _ hj]at h1;rw[qZ _ _ hj']at h2;exact H.disj _ _ _ _ _ h1 h2
 ·by_cases hj:j=k
  ·subst hj;rw[zZ]at hm
   rcases own b n hm with⟨m,h3⟩|⟨h3,_⟩
   ·exact H.free _ _ _ h3 hx
   ·have:=H.lt b (.inl hx);omega
  ·rw[qZ _ _ hj]at hm;exact H.free _ _ _ hm hx
 ·rcases hd with hx|⟨j,n,hm⟩
  ·exact zZe (H.lt b (.inl hx)) size
  ·by_cases hj:j=k
   ·subst hj;rw[zZ]at hm
    rcases own b n hm with⟨m,h3⟩|⟨_,h3⟩
    ·exact zZe (H.lt b (.inr ⟨_,_,h3⟩)) size
    ·exact h3
   ·rw[qZ _ _ hj]at hm;exact zZe (H.lt b (.inr ⟨_,_,hm⟩)) size
theorem xK.new {X:Nat->Prop} {h:yJ} {β:uW} {w:World} (H:jK X h β w) {k:Nat} (hk:h k=none) (e':xN) (n:Nat) (c:Array Value) (el:Nat)
  (ent:GM w (xO X β) h β (w.alloc (.cells c el)) (xO X (bD β k [(w.heap.size,n)])) (over [(k,e')] h) (bD β k [(w.heap.size,n)])->
   TL (w.alloc (.cells c el)) (xO X (bD β k [(w.heap.size,n)])) (over [(k,e')] h) (bD β k [(w.heap.size,n)]) k e'):
  xK X w h β (w.alloc (.cells c el)) (over [(k,e')] h) (bD β k [(w.heap.size,n)]):=by
 refine xK.step H k e' _ zW (λb hb _=>heap_alloc_old w _ b hb) Z Z Z (λb n hm=>?_) (λb n hm=>?_) (λe he=>?_) ent
 ·simp at hm;refine .inr ?_;simp[hm.1]
 ·rw[H.off k hk]at hm;simp at hm
 ·rw[hk]at he;cases he
theorem xK.newBox {X:Nat->Prop} {h:yJ} {β:uW} {w:World} (H:jK X h β w) {k:Nat} (hk:h k=none) (c:Array Value) (el:Nat) (cs:List AV) (hl:c.size=cs.length) (h1:∀i,i<c.size->(c.getD i undef).oneCell'=true)
  (hv:∀(i:Nat) v,cs[i]? =some v->yB w (xO X β) h β v (c.getD i undef)):
  ∃β',xK X w h β (w.alloc (.cells c el)) (over [(k,.box cs)] h) β'/\yB (w.alloc (.cells c el)) (xO X β') (over [(k,.box cs)] h) β' (.ptr k 0 0) (.pointer (some ⟨w.heap.size,0,none⟩)):=
 ⟨_,xK.new H hk (.box cs) 0 c el λE=>⟨_,c,el,zZ _ _ _,heap_alloc_new w _,hl,h1,λi v hx=>(hv i v hx).evo E⟩,
  .pbox k 0 cs w.heap.size 0 (kC _ _ _) (by rw[zZ];simp)⟩
def qT (c:Array Value):Prop:=∀v,v∈c.toList->v.oneCell'=true
theorem qT.get {c:Array Value} (h:qT c):∀i,i<c.size->(c.getD i undef).oneCell'=true:=λi hi=>by
 have e:c.getD i undef=c[i]:=by simp[Array.getD,hi]
 rw[e];exact h _ zW
theorem qT.of {c:Array Value} (h:∀i,i<c.size->(c.getD i undef).oneCell'=true):qT c:=λv hv=>by
 obtain⟨i,hi,rfl⟩:=yAf hv;have hi':i<c.size:=by simpa using hi
 have:=h i hi';simpa [Array.getD,hi']using this
theorem qT.app {a b:Array Value} (ha:qT a) (hb:qT b):qT (a++b):=λv hv=>by
 rw[Array.toList_append,zYy]at hv;exact hv.elim (ha v) (hb v)
theorem qT.arr {l:List Value} (h:∀v∈l,v.oneCell'=true):qT l.toArray:=λv hv=>h v DN
def DT {z:Array Value} {i:Nat} (h:i<z.size):z[i]! ∈z.toList:=by
 rw[getElem!_pos z i h];simp
theorem qT.zero {z:Array Value} (h:∀v,v∈z.toList->v.oneCell'=true) (n:Nat):qT (Builtin.zeroCells z n):=λv hv=>by
 simp only[Builtin.zeroCells,yC5,Array.toList_range,zZn,zYs]at hv;obtain⟨i,hi,rfl⟩:=hv
 have hz:0<z.size:=by
  rcases Nat.eq_zero_or_pos z.size with h0|h0
  ·rw[h0,Nat.mul_zero]at hi;omega
  ·exact h0
 exact h _ (DT (yD2 _ hz))
def DU {c:Array Value} {n sz:Nat} {f:Nat->Nat->Value} (hs:c.size=n*sz) (hp:1<=sz) (hf:∀i j,i<n->j<sz->c[i*sz+j]? =some (f i j)) (h1:∀i j,i<n->j<sz->(f i j).oneCell'=true):∀i,i<c.size->(c.getD i undef).oneCell'=true:=λi hi=>by
 have hm:i % sz<sz:=yD2 _ (by omega);have hd:i/sz<n:=by rw[Nat.div_lt_iff_lt_mul (by omega)];omega
 have e:i/sz*sz+i % sz=i:=by rw[yCm];exact Nat.div_add_mod i sz
 have h2:=hf (i/sz) (i % sz) hd hm;rw[e]at h2;have e2:c.getD i undef=f (i/sz) (i % sz):=by simp[zY7,h2]
 rw[e2];exact h1 _ _ hd hm
theorem qT.made {z:Array Value} (h:∀v,v∈z.toList->v.oneCell'=true) (hz:0<z.size) (n:Nat):qT (madeCells z n):=λv hv=>by
 simp only[madeCells,yC5,Array.toList_range,zZn,zYs]at hv;obtain⟨i,hi,rfl⟩:=hv;exact h _ (DT (yD2 _ hz))
theorem xK.newArr {X:Nat->Prop} {h:yJ} {β:uW} {w:World} (H:jK X h β w) {k:Nat} (hk:h k=none) (c:Array Value) (el sz:Nat) (xs:List AV) (cap:Nat) (f:Nat->Nat->Value) (hp:1<=sz) (hm:xs.length<=cU)
  (hcap:xs.length<=cap) (hc:cap*sz=c.size) (hall:∀i,i<c.size->(c.getD i undef).oneCell'=true) (hw:∀(i:Nat) (x:AV),xs[i]? =some x->x.cells.length=sz) (hf:∀i j,i<xs.length->j<sz->c[i*sz+j]? =some (f i j)) (h1:∀i j,i<xs.length->j<sz->(f i j).oneCell'=true)
  (hv:∀(i:Nat) (x:AV) (j:Nat) v,xs[i]? =some x->x.cells[j]? =some v->xE w (xO X β) v (f i j)):
  ∃β',xK X w h β (w.alloc (.cells c el)) (over [(k,.arr sz xs false)] h) β'/\yB (w.alloc (.cells c el)) (xO X β') (over [(k,.arr sz xs false)] h) β' (.ref k 0 xs.length) (.slice (some ⟨w.heap.size,0,none⟩) xs.length cap):=by
 refine⟨_,xK.new H hk (.arr sz xs false) xs.length c el λE=>⟨hp,hm,λ_=>by rw[zZ];simp,hw,λb n r hr=>?_,f,.ofF λi x j v hx hy=>(hv i x j v hx hy).evo E.size E.fz,h1,λb n hb=>?_⟩,?_⟩
 ·rw[zZ]at hr;simp at hr;exact⟨hr.1.2.symm,λ_ b' n' hm=>by rw[hr.2]at hm;simp at hm,λb' n' hm=>by rw[hr.2]at hm;simp at hm⟩
 ·rw[zZ]at hb;simp at hb;obtain⟨rfl,rfl⟩:=hb;exact⟨c,el,heap_alloc_new w _,zY9 (zYo _ hcap) (zZ5 hc),hf,hall⟩
 ·have:=yB.ref (w:=w.alloc (.cells c el)) (D:=xO X (bD β k [(w.heap.size,xs.length)])) (h:=over [(k,.arr sz xs false)] h) (β:=bD β k [(w.heap.size,xs.length)]) k 0 xs.length sz xs false w.heap.size xs.length cap (kC _ _ _)
   (by rw[zZ];simp) (by omega) hcap (by
    have:wG (w.alloc (.cells c el)) w.heap.size=c.size:=by
     unfold wG World.shape?;rw[heap_alloc_new];rfl
    rw[this];simpa using hc)
  simpa using this
theorem xK.newArrN {X:Nat->Prop} {h:yJ} {β:uW} {w:World} (H:jK X h β w) {k:Nat} (hk:h k=none) (c:Array Value) (el sz:Nat) (xs:List AV) (cap:Nat) (f:Nat->Nat->Value) (hp:1<=sz) (hm:xs.length<=cU)
  (hcap:xs.length<=cap) (hc:cap*sz=c.size) (hall:∀i,i<c.size->(c.getD i undef).oneCell'=true) (hw:∀(i:Nat) (x:AV),xs[i]? =some x->x.cells.length=sz) (hf:∀i j,i<xs.length->j<sz->c[i*sz+j]? =some (f i j)) (h1:∀i j,i<xs.length->j<sz->(f i j).oneCell'=true)
  (hv:∀(i:Nat) (x:AV) (j:Nat) v,xs[i]? =some x->x.cells[j]? =some v->yB w (xO X β) h β v (f i j)):
  ∃β',xK X w h β (w.alloc (.cells c el)) (over [(k,.arr sz xs ⟨false,true⟩)] h) β'/\yB (w.alloc (.cells c el)) (xO X β') (over [(k,.arr sz xs ⟨false,true⟩)] h) β' (.ref k 0 xs.length) (.slice (some ⟨w.heap.size,0,none⟩) xs.length cap):=by
 refine⟨_,xK.new H hk (.arr sz xs ⟨false,true⟩) xs.length c el λE=>⟨hp,hm,λ_=>by rw[zZ];simp,hw,λb n r hr=>?_,f,λi x j v hx hy=>⟨(hv i x j v hx hy).evo E,λh=>by cases h⟩,h1,λb n hb=>?_⟩,?_⟩
 ·rw[zZ]at hr;simp at hr;exact⟨hr.1.2.symm,λ_ b' n' hm=>by rw[hr.2]at hm;simp at hm,λb' n' hm=>by rw[hr.2]at hm;simp at hm⟩
 ·rw[zZ]at hb;simp at hb;obtain⟨rfl,rfl⟩:=hb;exact⟨c,el,heap_alloc_new w _,zY9 (zYo _ hcap) (zZ5 hc),hf,hall⟩
 ·have:=yB.ref (w:=w.alloc (.cells c el)) (D:=xO X (bD β k [(w.heap.size,xs.length)])) (h:=over [(k,.arr sz xs ⟨false,true⟩)] h) (β:=bD β k [(w.heap.size,xs.length)]) k 0 xs.length sz xs ⟨false,true⟩ w.heap.size xs.length cap (kC _ _ _)
   (by rw[zZ];simp) (by omega) hcap (by
    have:wG (w.alloc (.cells c el)) w.heap.size=c.size:=by
     unfold wG World.shape?;rw[heap_alloc_new];rfl
    rw[this];simpa using hc)
  simpa using this
theorem xK.newFz {X:Nat->Prop} {h:yJ} {β:uW} {w:World} (H:jK X h β w) (c:Array Value) (el:Nat):xK X w h β (w.alloc (.cells c el)) h β:=by
 have hold:∀b,b<w.heap.size->(w.alloc (.cells c el)).heap[b]? =w.heap[b]? :=λb hb=>heap_alloc_old w _ b hb
 have hbs:∀k b n,(b,n)∈β k->wG (w.alloc (.cells c el)) b=wG w b:=λk b n hm=>by
  unfold wG World.shape?;rw[hold b (H.lt b (.inr ⟨k,n,hm⟩))]
 have E:GM w (xO X β) h β (w.alloc (.cells c el)) (xO X β) h β:=⟨by simp,λb hb hd=>⟨hold b hb,hd⟩,hbs,kU h β⟩;refine⟨by simp,λb hb _=>hold b hb,λk _ n hm=> .inl ⟨k,n,hm⟩,hbs,kU h β,⟨λk e he=>(H.ent k e he).evo E Z λb n hm=>hold b (H.lt b (.inr ⟨k,n,hm⟩)),H.off,H.disj,H.free,λb hd=>?_⟩,rfl,rfl,rfl⟩;exact zZe (H.lt b hd) zW
theorem xE.newArr {X:Nat->Prop} {h:yJ} {β:uW} {w:World} (H:jK X h β w) (c:Array Value) (el sz:Nat) (xs:List AV) (cap:Nat) (f:Nat->Nat->Value) (hp:1<=sz) (hm:xs.length<=cU)
  (hcap:xs.length<=cap) (hw:∀(i:Nat) (x:AV),xs[i]? =some x->x.cells.length=sz) (hf:∀i j,i<xs.length->j<sz->c[i*sz+j]? =some (f i j)) (h1:∀i j,i<xs.length->j<sz->(f i j).oneCell'=true)
  (hv:∀(i:Nat) (x:AV) (j:Nat) v,xs[i]? =some x->x.cells[j]? =some v->xE w (xO X β) v (f i j)):
  xE (w.alloc (.cells c el)) (xO X β) (.sl true xs) (.slice (some ⟨w.heap.size,0,none⟩) xs.length cap):=by
 have E:=(xK.newFz H c el).evo;by_cases hx:xs=[]
 ·subst hx;exact .nil1 _ _
 ·refine .sl true xs w.heap.size 0 sz cap f hx ⟨by simp,λhd=>?_,hp,hm,hw,λi j hi hj=>?_,h1⟩ hcap λi x j v hx hy=>(hv i x j v hx hy).evo E.size E.fz
  ·have:=H.lt _ hd;omega
  ·rw[zZm];simp only[World.cell?,heap_alloc_new];exact hf i j hi hj
theorem xE.wkF {w:World} {D:Nat->Prop} {nn:Bool} {xs:List AV} {c:Value} (h:xE w D (.sl nn xs) c):xE w D (.sl false xs) c:=by
 cases h with
 |nil a cap=>exact .nil a cap
 |nil1 a cap=>exact .nil _ cap
 |sl nn xs b o sz cap f hx hL hc hh=>exact .sl false xs b o sz cap f hx hL hc hh
section
def AV.one:AV->Bool
 | .s v=>v.oneCell'
 | .sl _ _| .slc _ _| .ref _ _ _| .ptr _ _ _| .fp _ _ _| .fn _ _| .fm _ _=>true
 |_=>false
def AV.ok:AV->Bool
 | .agg _=>true
 |v=>v.one
mutual
def AV.nokey:AV->Bool
 | .bot| .s _| .sl _ _| .slc _ _| .fp _ _ _| .fm _ _=>true
 | .agg cs=>wF cs
 |_=>false
def wF:List AV->Bool
 | []=>true
 |v::r=>v.nokey&&wF r
end
theorem jL:∀{cs:List AV} {i:Nat} {v:AV},wF cs=true->cs[i]? =some v->v.nokey=true
 | [],_,_,_,h=>by simp at h
 |x::r,0,v,hk,h=>by simp at h;subst h;simp[wF]at hk;exact hk.1
 |x::r,i+1,v,hk,h=>by simp[wF]at hk;exact jL hk.2 TJ
def TM {α:Type}:List α->Nat->List α->List α
 |cs,_,[]=>cs
 |cs,o,v::vs=>TM (cs.set o v) (o+1) vs
theorem bE {α:Type}:∀(vs cs:List α) (o:Nat),(TM cs o vs).length=cs.length
 | [],_,_=>rfl
 |v::vs,cs,o=>by rw[TM,bE vs,zZx]
theorem XF {α:Type}:∀(vs cs:List α) (o j:Nat),o+vs.length<=cs.length->(TM cs o vs)[j]? =if o<=j/\j<o+vs.length then vs[j-o]? else cs[j]?
 | [],cs,o,j,_=>by rw[TM,zX2 zW]
 | v::vs,cs,o,j,h=>by
  simp at h;rw[TM,XF vs _ _ _ xX];by_cases h1:o+1<=j/\j<o+1+vs.length
  ·rw[zX3 h1,zX3 xX,show j-o=(j-(o+1))+1 by omega];simp
  ·rw[zX2 h1];by_cases h2:j=o
   ·subst h2;rw[zX3 zW,zZu (by omega),yAa];rfl
   ·rw[zX2 xX,yB9 (by omega)]
section
variable {w:World} {D:Nat->Prop} {h:yJ} {β:uW}
def gV {c:Array Value} {i:Nat} {v:Value} (h:c[i]? =some v):c.getD i undef=v:=by simp[zY7,h]
def kW (c:Array Value) (i:Nat) (h:i<c.size):c[i]? =some (c.getD i undef):=by
 obtain⟨u,hu⟩:∃u,c[i]? =some u:=⟨c[i],by simp[h]⟩;rw[gV hu];exact hu
theorem xE.one_of {v:AV} {c:Value} (hv:xE w D v c) (h1:v.one=true):c.oneCell'=true:=by
 cases hv<;>first|rfl|(simp[AV.one]at h1;done)|simpa [AV.one]using h1
theorem yB.one_of {v:AV} {c:Value} (hv:yB w D h β v c) (h1:v.one=true):c.oneCell'=true:=by
 cases hv with
 |fz _ _ hf=>exact hf.one_of h1
 |dref _ _ _ _ _ h2=>exact h2
 |dptr _ _ _ _ _ h2=>exact h2
 |agg _ _ _ _ _=>simp[AV.one]at h1
 |tup _ _ _ _=>simp[AV.one]at h1
 |_=>rfl
theorem yB.cells {v:AV} {c:Value} (hv:yB w D h β v c) (h1:v.ok=true):
  c.cells.size=v.cells.length/\(∀i,i<c.cells.size->(c.cells.getD i undef).oneCell'=true)/\∀(i:Nat) u,v.cells[i]? =some u->yB w D h β u (c.cells.getD i undef):=by
 by_cases ha:v.isAgg=true
 ·cases v<;>simp[AV.isAgg]at ha
  rename_i cs
  cases hv with
  |fz _ _ hf=>
   cases hf with
   |agg _ c hl h2 hh=>exact⟨hl,h2,λi u hu=> .fz _ _ (hh i u hu)⟩
  |agg _ c hl h2 hh=>exact⟨hl,h2,hh⟩
 ·have ho:v.one=true:=by cases v<;>first|exact h1|(simp[AV.isAgg]at ha)
  have hc:=hv.one_of ho
  have e1:c.cells= #[c]:=by cases c<;>first|rfl|(simp[Value.oneCell']at hc)
  have e2:v.cells=[v]:=by cases v<;>first|rfl|(simp[AV.isAgg]at ha)
  rw[e1,e2];refine⟨rfl,λi hi=>?_,λi u hu=>?_⟩
  ·obtain rfl:i=0:=by simpa using hi
   exact hc
  ·cases i with
   |zero=>simp at hu;subst hu;exact hv
   |succ i=>simp at hu
theorem yB.toF:∀{v:AV} {c:Value},yB w D h β v c->v.nokey=true->xE w D v c:=by
 intro v c hv
 induction hv with
 |fz _ _ hf=>exact λ_=>hf
 |agg cs c hl h1 _ ih=>exact λhk=> .agg cs c hl h1 λi v hi=>ih i v hi (jL (by simpa [AV.nokey]using hk) hi)
 |_=>intro hk;simp[AV.nokey]at hk
def Row (w:World) (D:Nat->Prop) (h:yJ) (β:uW) (row:List AV) (b o:Nat):Prop:=
 ∀(j:Nat) u,row[j]? =some u->∃c,w.cell? ⟨b,o+j,none⟩=some c/\c.oneCell'=true/\yB w D h β u c
def uX {b:Nat} {c:Array Value} {el:Nat} {fr:Nat×Nat} (hb:w.heap[b]? =some (.cells c el fr)) (j:Nat):w.cell? ⟨b,j,none⟩=c[j]? :=by simp[World.cell?,hb]
def PG {X:Nat->Prop} (H:jK X h β w) {k off:Nat} {cs:List AV} (hk:h k=some (.box cs)) {i:Nat} {c:Value} (hv:yB w D h β (.ptr k i off) c):
  ∃b,c= .pointer (some ⟨b,off,none⟩)/\i=0/\Row w (xO X β) h β cs b 0:=by
 cases hv with
 |fz _ _ hf=>cases hf
 |dptr _ _ _ _ hd _=>rw[hk]at hd;cases hd
 |parr _ _ _ _ _ _ _ _ hd _ _ _=>rw[hk]at hd;cases hd
 |pbox _ _ cs' b n hk' hb=>
  obtain⟨b',c,el,h1,h2,h3,h4,h5⟩:=H.ent k _ hk;rw[h1]at hb;simp at hb;obtain⟨rfl,rfl⟩:=hb;refine⟨b,rfl,rfl,λj u hu=>?_⟩;have hj:j<c.size:=by rw[h3];exact(zYu.1 hu).1
  exact⟨c.getD j undef,by rw[uX h2,zZm];exact kW c j hj,h4 j hj,h5 j u hu⟩
def zDc {X:Nat->Prop} (H:jK X h β w) {k i off sz:Nat} {xs:List AV} {st:Fl} (hk:h k=some (.arr sz xs st)) {x:AV} (hx:xs[i]? =some x) {c:Value} (hv:yB w D h β (.ptr k i off) c):
  ∃b n,c= .pointer (some ⟨b,i*sz+off,none⟩)/\(b,n)∈β k/\off<sz/\x.cells.length=sz/\Row w (xO X β) h β x.cells b (i*sz):=by
 cases hv with
 |fz _ _ hf=>cases hf
 |dptr _ _ _ _ hd _=>rw[hk]at hd;cases hd
 |pbox _ _ _ _ _ hd _=>rw[hk]at hd;cases hd
 |parr _ _ _ sz' xs' st' b n hk' hb hi ho=>
  rw[hk]at hk';cases hk';obtain⟨_,_,_,hw,_,f,h6,h7,h8⟩:=H.ent k _ hk;obtain⟨c,el,h9,_,h11,_⟩:=h8 b n hb;have hsz:=hw i x hx;refine⟨b,n,rfl,hb,ho,hsz,λj u hu=>?_⟩;have hj:j<sz:=by rw[<-hsz];exact(zYu.1 hu).1
  exact⟨f i j,by rw[uX h9];exact h11 i j hi hj,h7 i j (zYu.1 hx).1 hj,h6.toV i x j u hx hu⟩
def zJ0 {X:Nat->Prop} (H:jK X h β w) {k i off sz:Nat} {xs:List AV} {st:Fl} (hk:h k=some (.arr sz xs st)) {x:AV} (hx:xs[i]? =some x) {c:Value} (hv:yB w D h β (.ptr k i off) c):
  ∃b n,c= .pointer (some ⟨b,i*sz+off,none⟩)/\(b,n)∈β k/\off<sz/\x.cells.length=sz/\Row w (xO X β) h β x.cells b (i*sz)/\i<n:=by
 cases hv with
 |fz _ _ hf=>cases hf
 |dptr _ _ _ _ hd _=>rw[hk]at hd;cases hd
 |pbox _ _ _ _ _ hd _=>rw[hk]at hd;cases hd
 |parr _ _ _ sz' xs' st' b n hk' hb hi ho=>
  rw[hk]at hk';cases hk';obtain⟨_,_,_,hw,_,f,h6,h7,h8⟩:=H.ent k _ hk;obtain⟨c,el,h9,_,h11,_⟩:=h8 b n hb;have hsz:=hw i x hx;refine⟨b,n,rfl,hb,ho,hsz,λj u hu=>?_,hi⟩;have hj:j<sz:=by rw[<-hsz];exact(zYu.1 hu).1
  exact⟨f i j,by rw[uX h9];exact h11 i j hi hj,h7 i j (zYu.1 hx).1 hj,h6.toV i x j u hx hu⟩
def zTp {xs:List AV} {i off:Nat} {x:AV} (hx:xs[i]? =some x) {c:Value} (hv:yB w D h β (.fp xs i off) c):
  ∃b o,c= .pointer (some ⟨b,o+off,none⟩)/\off<x.cells.length/\Row w D h β x.cells b o:=by
 cases hv with
 | fz _ _ hf=>
  cases hf with
  |fp _ b o sz _ _ f hL hi ho hh=>
   have hsz:=hL.wide i x hx;refine⟨b,o+i*sz,rfl,by omega,λj u hu=>?_⟩;have hj:j<sz:=by rw[<-hsz];exact(zYu.1 hu).1
   exact⟨f i j,hL.cell i j hi hj,hL.one i j hi hj,.fz _ _ (hh i x j u hx hu)⟩
end
def ldv (agg:Bool) (n:Nat) (row:List AV) (off:Nat):Option AV:=
 bif agg then(bif Nat.ble (off+n) row.length then some (.agg ((row.drop off).take n))else none)else row[off]?
def IU {P:Program} {TT:List TI} (hP:uZ P TT) {T:Nat} {ti:TI} (hT:TT[T]? =some ti) {w:World} {D:Nat->Prop} {h:yJ} {β:uW} {row:List AV} {b o off:Nat} (hR:Row w D h β row b o) {v:AV}
  (hv:ldv ti.d.agg ti.size row off=some v):∃c,(loadVar T ⟨b,o+off,none⟩).run P w= .ok c w/\yB w D h β v c:=by
 have ha:=zDb (hP _ _ hT) w;have hs:=qA (hP _ _ hT) w;unfold ldv at hv
 have hadd:∀j,(⟨b,o+off,none⟩:Addr).add j=⟨b,o+(off+j),none⟩:=λj=>by unfold Addr.add;split<;>simp_all<;>omega
 cases hb:ti.d.agg with
 |false=>
  simp only[hb,zZ6]at hv;obtain⟨c,h1,_,h3⟩:=hR off v hv;exact⟨c,by simp[loadVar,ha,hb,h1],h3⟩
 | true=>
  simp only[hb,zZo]at hv
  cases hle:Nat.ble (off+ti.size) row.length with
  |false=>simp[hle]at hv
  | true=>
   have hle':=zYm hle;simp only[hle,zZo,zZh]at hv;subst hv
   have hc:∀j,∃c,j<ti.size->∃u,row[off+j]? =some u/\w.cell? ((⟨b,o+off,none⟩:Addr).add j)=some c/\c.oneCell'=true/\yB w D h β u c:=λj=>by
    by_cases hj:j<ti.size
    ·obtain⟨u,hu⟩:∃u,row[off+j]? =some u:=⟨row[off+j],by simp⟩;obtain⟨c,h1,h2,h3⟩:=hR (off+j) u hu;exact⟨c,λ_=>⟨u,hu,by rw[hadd];exact h1,h2,h3⟩⟩
    ·exact⟨undef,λh=>absurd h hj⟩
   obtain⟨f,hf⟩:∃f:Nat->Value,∀j,j<ti.size->∃u,row[off+j]? =some u/\w.cell? ((⟨b,o+off,none⟩:Addr).add j)=some (f j)/\(f j).oneCell'=true/\yB w D h β u (f j):=
    ⟨λj=>(hc j).choose,λj hj=>(hc j).choose_spec hj⟩
   have hl:=run_loadCells (P:=P) w ⟨b,o+off,none⟩ ti.size f λj hj=>(hf j hj).choose_spec.2.1
   have hat:∀i,i<ti.size->(((List.range ti.size).map f).toArray).getD i undef=f i:=λi hi=>gV TK
   refine⟨.agg ((List.range ti.size).map f).toArray,by simp[loadVar,ha,hb,hs,hl],.agg _ _ xX (λi hi=>?_) λi u hu=>?_⟩
   ·have hi':i<ti.size:=by simpa using hi
    rw[hat i hi'];exact(hf i hi').choose_spec.2.2.1
   ·rw[zZi]at hu;split at hu
    ·rename_i hi;rw[hat i hi];obtain⟨u',h1,_,_,h3⟩:=hf i hi;rw[zZt,h1]at hu;cases hu;exact h3
    ·cases hu
section ops
variable {P:Program} {TT:List TI} {st:St} (hP:uZ P TT)
def jM {T:Nat} {x:Operand} {v:AV} (k:Nat) (hx:yM (zG st.tm) x=v) (h1:v.ok=true):wV P st (.box T x) (.ptr k 0 0) [(k,.box v.cells)] [] [k]:=by
 refine⟨?_⟩;intro X tm h hg _ hn o a w β ho HH Ht;obtain⟨d0,o0,y0,p0,f0,g0⟩:=o;dsimp only at ho;subst ho;obtain⟨hl,ho,hv⟩:=(gU Ht hg (x:=x) uT hx).cells h1;obtain⟨β',G,hp⟩:=xK.newBox HH (hn k zW) (a.eval x).cells T v.cells hl ho hv
 have hr:(execOp a.eval ⟨d0,.box T x,y0,p0,f0,g0⟩).run P w= .ok (.value (.pointer (some ⟨w.heap.size,0,none⟩))) (w.alloc (.cells (a.eval x).cells T)):=by
  simp[execOp,Instr.box,newVar,newRow]
 rw[hr];exact⟨β',G,hp⟩
include hP in
def XG {T:Nat} {ti:TI} (k:Nat) (hT:TT[T]? =some ti) (h1:ti.zero.all (·.oneCell')=true):wV P st (.alloc T) (.ptr k 0 0) [(k,.box (ti.zero.map .s))] [] [k]:=by
 refine⟨?_⟩;intro X tm h hg _ hn o a w β ho HH Ht;obtain⟨d0,o0,y0,p0,f0,g0⟩:=o;dsimp only at ho;subst ho;obtain⟨z,hz,hzz⟩:=OY (hP _ _ hT) w
 obtain⟨β',G,hp⟩:=xK.newBox HH (hn k zW) z.cells T (ti.zero.map .s) (by simp[<-hzz]) (λi hi=>by
   have:=zYi.1 h1 (z.cells.getD i undef) (by rw[<-hzz];exact zZk (by simpa using kW _ i hi))
   exact this) (λi v hv=>by
   simp only[zX8,zYf]at hv;obtain⟨u,hu,rfl⟩:=hv;rw[<-hzz]at hu;rw[gV (by simpa using hu)]
   exact .fz _ _ (.s _))
 have hr:(execOp a.eval ⟨d0,.alloc T,y0,p0,f0,g0⟩).run P w= .ok (.value (.pointer (some ⟨w.heap.size,0,none⟩))) (w.alloc (.cells z.cells T)):=by
  simp[execOp,Instr.alloc,hz,newVar,newRow]
 rw[hr];exact⟨β',G,hp⟩
include hP in
def IV {T:Nat} {x:Operand} {k off:Nat} {cs:List AV} {v:AV} {ti:TI} (hx:yM (zG st.tm) x= .ptr k 0 off) (hk:zC st.h k=some (.box cs)) (hT:TT[T]? =some ti)
  (hv:ldv ti.d.agg ti.size cs off=some v):wV P st (.load T x) v [] [k] []:=
 yO λo X tm h w β a ho hg hr HH Ht=>by
  obtain⟨d0,o0,y0,p0,f0,g0⟩:=o;dsimp only at ho;subst ho;have h1:=gU Ht hg (x:=x) uT hx;have hk':=(hr k zW).trans hk;obtain⟨b,hc,_,hR⟩:=PG HH hk' h1;obtain⟨c,h2,h3⟩:=IU hP hT hR hv;rw[zZm]at h2;exact⟨c,by simp[execOp,Instr.loadAt,hc,Instr.sureAddr,h2],h3⟩
include hP in
def dP {T:Nat} {x:Operand} {k i off sz:Nat} {xs:List AV} {sl:Fl} {y v:AV} {ti:TI} (hx:yM (zG st.tm) x= .ptr k i off) (hk:zC st.h k=some (.arr sz xs sl)) (hy:xs[i]? =some y) (hT:TT[T]? =some ti)
  (hv:ldv ti.d.agg ti.size y.cells off=some v):wV P st (.load T x) v [] [k] []:=
 yO λo X tm h w β a ho hg hr HH Ht=>by
  obtain⟨d0,o0,y0,p0,f0,g0⟩:=o;dsimp only at ho;subst ho;have h1:=gU Ht hg (x:=x) uT hx;have hk':=(hr k zW).trans hk;obtain⟨b,n,hc,_,_,_,hR⟩:=zDc HH hk' hy h1;obtain⟨c,h2,h3⟩:=IU hP hT hR hv;exact⟨c,by simp[execOp,Instr.loadAt,hc,Instr.sureAddr,h2],h3⟩
include hP in
def YI {T:Nat} {x:Operand} {i off:Nat} {xs:List AV} {y v:AV} {ti:TI} (hx:yM (zG st.tm) x= .fp xs i off) (hy:xs[i]? =some y) (hT:TT[T]? =some ti)
  (hv:ldv ti.d.agg ti.size y.cells off=some v):wV P st (.load T x) v [] [] []:=
 yO λo X tm h w β a ho hg hr HH Ht=>by
  obtain⟨d0,o0,y0,p0,f0,g0⟩:=o;dsimp only at ho;subst ho;have h1:=gU Ht hg (x:=x) uT hx;obtain⟨b,o,hc,_,hR⟩:=zTp hy h1;obtain⟨c,h2,h3⟩:=IU hP hT hR hv;exact⟨c,by simp[execOp,Instr.loadAt,hc,Instr.sureAddr,h2],h3⟩
end ops
def zJ1 {P:Program} {TT:List TI} (hP:uZ P TT) {T:Nat} {ti:TI} (hT:TT[T]? =some ti) {w:World} {b:Nat} {c:Array Value} {el:Nat} (hb:w.heap[b]? =some (.cells c el (0,0))) {off:Nat} {x:Value} (hn:x.cells.size=ti.size)
  (ho:off+ti.size<=c.size) (h1:∀i,i<x.cells.size->(x.cells.getD i undef).oneCell'=true):
  ∃c':Array Value,(storeVar T ⟨b,off,none⟩ x).run P w= .ok () (w.setRow b c')/\c'.size=c.size/\∀j,c'.getD j undef=if off<=j/\j<off+ti.size then x.cells.getD (j-off) undef else c.getD j undef:=by
 have hs:=qA (hP _ _ hT) w
 have hst:=run_storeCells_at P b off el x.cells.toList 0 c w hb xX (λv hv=>by
  obtain⟨i,hi,rfl⟩:=yAf hv;have:=h1 i LY
  simpa [zY7,show i<x.cells.size by simpa using hi]using this)
 refine⟨_,by simp only[storeVar,Sem.run_bind,hs,Result.andThen_ok,hn,yBe,yDp,if_false,hst];rfl,?_,λj=>?_⟩
 ·simp;omega
 ·simp only[yBa,yA2,hn,zY7,yAx];by_cases h2:off<=j/\j<off+ti.size
  ·rw[zX3 h2,zY0 xX,zYt xX];simp[show min off c.size=off by omega]
  ·rw[zX2 h2];by_cases h3:j<off
   ·rw[zY0 xX,zY0 xX,zZi,zX3 h3];simp
   ·rw[zYt xX,zZt];have e:off+ti.size+(j-(List.take off c.toList++x.cells.toList).length)=j:=by simp[hn];omega
    rw[e];simp
def qO {w:World} {b:Nat} {c c':Array Value} {el:Nat} {fr:Nat×Nat} (hb:w.heap[b]? =some (.cells c el fr)) (hs:c'.size=c.size) (j:Nat):wG (w.setRow b c') j=wG w j:=by
 unfold wG World.shape?;by_cases h:j=b
 ·subst h;rw[setRow_heap w _ _ _ _ _ hb,hb];simp[hs]
 ·rw[setRow_other w b j c' h]
section ops
variable {P:Program} {TT:List TI} {st:St} (hP:uZ P TT)
include hP in
def MW {T:Nat} {p x:Operand} {k off:Nat} {cs:List AV} {v:AV} {ti:TI} (hp:yM (zG st.tm) p= .ptr k 0 off) (hx:yM (zG st.tm) x=v) (hk:zC st.h k=some (.box cs)) (hT:TT[T]? =some ti)
  (h1:v.ok=true) (h2:Nat.beq v.cells.length ti.size=true) (h3:Nat.ble (off+ti.size) cs.length=true):wV P st (.store T p x) .bot [(k,.box (TM cs off v.cells))] [k] []:=by
 refine⟨?_⟩;intro X tm h hg hr _ o a w β ho HH Ht;obtain⟨d0,o0,y0,p0,f0,g0⟩:=o;dsimp only at ho;subst ho;have hk':=(hr k zW).trans hk;have h2:=zY2 h2;have h3:=zYm h3;have hp':=gU Ht hg (x:=p) uT hp;obtain⟨hl,hon,hv⟩:=(gU Ht hg (x:=x) uT hx).cells h1;obtain⟨b,c,el,e1,e2,e3,e4,e5⟩:=HH.ent k _ hk';obtain⟨b',hc,_,_⟩:=PG HH hk' hp'
 obtain rfl:b'=b:=by
  generalize a.eval p=cp at*
  cases hp' with
  |fz _ _ hf=>cases hf
  |dptr _ _ _ _ hd _=>rw[hk']at hd;cases hd
  |parr _ _ _ _ _ _ _ _ hd _ _ _=>rw[hk']at hd;cases hd
  |pbox _ _ cs' b'' n hk'' hb=>
   rw[e1]at hb;simp at hb;simp at hc;rw[<-hc,hb.1]
 obtain⟨c',hrun,hsz,hat⟩:=zJ1 hP hT e2 (off:=off) (x:=a.eval x) (by omega) (by omega) hon
 have hr:(execOp a.eval ⟨d0,.store T p x,y0,p0,f0,g0⟩).run P w= .ok .skip (w.setRow b' c'):=by
  simp[execOp,Instr.storeAt,hc,Instr.sureAddr,hrun]
 rw[hr]
 refine⟨bD β k (β k),xK.step HH k _ _ zW (λj hj hn=>setRow_other w b' j c' (λe=>hn 0 (by rw[e1,e];simp))) Z Z Z (λb n hm=> .inl ⟨n,hm⟩) (λb n _=>qO e2 hsz b)
  (λe he=>by rw[hk']at he;cases he;exact .inr ⟨⟨_,rfl⟩,λ_ _ hm=>hm⟩) λE=>⟨b',c',el,by rw[zZ];exact e1,setRow_heap w _ _ _ _ _ e2,by rw[bE];omega,λi hi=>?_,λi u hu=>?_⟩,.fz _ _ (.bot _)⟩
 ·rw[hat];split
  ·exact hon _ (by omega)
  ·exact e4 i (by omega)
 ·rw[XF _ _ _ _ (by omega)]at hu;rw[hat];rw[h2]at hu;split
  ·rename_i hi;rw[zX3 hi]at hu;exact(hv _ u hu).evo E
  ·rename_i hi;rw[zX2 hi]at hu;exact(e5 i u hu).evo E
def IW (x:AV) (off:Nat) (cs:List AV):AV:=match x with
 | .agg ds=> .agg (TM ds off cs)
 |_=>match cs with
  | [v]=>v
  |_=> .bot
def zAv {x:AV} {off:Nat} {cs:List AV} (h:off+cs.length<=x.cells.length) (h0:1<=cs.length) (hg:cs.all (λv=>!v.isAgg)=true):(IW x off cs).cells=TM x.cells off cs:=by
  cases x<;>first
    |rfl
    | (simp only[AV.cells,zYh,zZc]at h
       match cs,h0,h,hg with
       | [v],_,h,hg=>
         simp at hg h;subst h
         cases v<;>first|rfl|(simp[AV.isAgg]at hg))
include hP in
theorem XY {T:Nat} {p x:Operand} {k i off sz:Nat} {xs:List AV} {y v:AV} {ti:TI} {nest:Bool} (hp:yM (zG st.tm) p= .ptr k i off) (hx:yM (zG st.tm) x=v) (hk:zC st.h k=some (.arr sz xs ⟨false,nest⟩)) (hy:xs[i]? =some y) (hT:TT[T]? =some ti)
  (h1:v.ok=true) (h2:Nat.beq v.cells.length ti.size=true) (h3:Nat.ble (off+ti.size) y.cells.length=true) (h4:(nest||v.nokey)=true) (h5:Nat.ble 1 ti.size=true) (h6:v.cells.all (λv=>!v.isAgg)=true):
  wV P st (.store T p x) .bot [(k,.arr sz (xs.set i (IW y off v.cells)) ⟨false,nest⟩)] [k] []:=by
 refine⟨?_⟩;intro X tm h hg hr _ o a w β ho HH Ht;obtain⟨d0,o0,y0,p0,f0,g0⟩:=o;dsimp only at ho;subst ho;have hk':=(hr k zW).trans hk;have h2:=zY2 h2;have h3:=zYm h3;have h5:=zYm h5;have hp':=gU Ht hg (x:=p) uT hp;have hxv:=gU Ht hg (x:=x) uT hx;obtain⟨hl,hon,hv⟩:=hxv.cells h1
 have hvF:nest=false->∀(j:Nat) u,v.cells[j]? =some u->xE w (xO X β) u ((a.eval x).cells.getD j undef):=λhn j u hu=>(hv j u hu).toF (by
  rw[hn,yA7]at h4
  cases v<;>first
   |(simp[AV.cells]at hu;cases j<;>simp at hu;subst hu;exact h4)
   |(exact jL (by simpa [AV.nokey,AV.cells]using h4) hu))
 obtain⟨b,n,hc,hm,hof,hyl,_,hni⟩:=zJ0 HH hk' hy hp';obtain⟨g1,g2,g3,g4,g5,f,g6,g7,g8⟩:=HH.ent k _ hk';have hi:i<xs.length:=(zYu.1 hy).1
 obtain⟨rr,hbk,hnx,hr0⟩:∃rr,β k=(b,n)::rr/\n=xs.length/\∀b' n',(b',n')∈rr->n'=0:=by
  cases hbk:β k with
  |nil=>rw[hbk]at hm;simp at hm
  |cons q r=>
   obtain⟨b0,n0⟩:=q;obtain⟨e1,e2,_⟩:=g5 b0 n0 r hbk;have e2:=e2 Z;rw[hbk]at hm;simp at hm
   rcases hm with⟨rfl,rfl⟩|hm
   ·exact⟨r,rfl,e1,e2⟩
   ·have:=e2 b n hm;omega
 subst hnx;obtain⟨c,el,e2,e3,e4,e5⟩:=g8 b _ hm
 have hmul:i*sz+sz<=xs.length*sz:=by
  have:=zYo sz (show i+1<=xs.length by omega)
  rwa [zY8,zZ3]at this
 obtain⟨c',hrun,hsz,hat⟩:=zJ1 hP hT e2 (off:=i*sz+off) (x:=a.eval x) (by omega) (by omega) hon
 have hr:(execOp a.eval ⟨d0,.store T p x,y0,p0,f0,g0⟩).run P w= .ok .skip (w.setRow b c'):=by
  simp[execOp,Instr.storeAt,hc,Instr.sureAddr,hrun]
 rw[hr];have hpc:=zAv (x:=y) (off:=off) (cs:=v.cells) (by omega) (by omega) h6;have hlen:(xs.set i (IW y off v.cells)).length=xs.length:=by simp
 have hget:∀(i':Nat) (x':AV),(xs.set i (IW y off v.cells))[i']? =some x'->(i'=i/\x'=IW y off v.cells)∨(i'≠i/\xs[i']? =some x'):=by
  intro i' x' hx';by_cases hii:i'=i
  ·subst hii;rw[zZu hi]at hx';exact .inl ⟨rfl,(yAh hx').symm⟩
  ·rw[yB9 (λe=>hii e.symm)]at hx';exact .inr ⟨hii,hx'⟩
 let f':Nat->Nat->Value:=λi' j=>if i'=i/\off<=j/\j<off+ti.size then(a.eval x).cells.getD (j-off) undef else f i' j
 refine⟨bD β k (β k),xK.step HH k _ _ zW (λj hj hn=>setRow_other w b j c' (λe=>hn xs.length DO)) Z Z Z (λb n hm=> .inl ⟨n,hm⟩) (λb n _=>qO e2 hsz b)
  (λe he=>by rw[hk']at he;cases he;exact .inr ⟨⟨_,_,rfl,by simp⟩,λ_ n hm=>⟨n,zX7 _,hm⟩⟩) λE=>⟨g1,by simpa using g2,λ_=>by rw[zZ,hbk];simp,λi' x' hx'=>?_,λb' n' r hb'=>?_,f',λi' x' j u hx' hu=>?_,λi' j hi' hj=>?_,λb' n' hb'=>?_⟩,.fz _ _ (.bot _)⟩
 ·rcases hget i' x' hx' with⟨_,rfl⟩|⟨_,h⟩
  ·rw[hpc,bE];exact hyl
  ·exact g4 i' x' h
 ·rw[zZ,hbk]at hb';simp at hb';obtain⟨⟨rfl,rfl⟩,rfl⟩:=hb';refine⟨by simp,λ_=>hr0,λb' n' hm=>by have:=hr0 b' n' hm;simp;omega⟩
 ·rcases hget i' x' hx' with⟨rfl,rfl⟩|⟨hii,h⟩
  ·rw[hpc,XF _ _ _ _ (by omega)]at hu;simp only[f',true_and];rw[h2]at hu;split
   ·rename_i hj;rw[zX3 hj]at hu;exact⟨(hv _ u hu).evo E,λhn=>(hvF hn _ u hu).evo E.size E.fz⟩
   ·rename_i hj;rw[zX2 hj]at hu;exact⟨(g6 i' y j u hy hu).1.evo E,λhn=>((g6 i' y j u hy hu).2 hn).evo E.size E.fz⟩
  ·simp only[f',hii,false_and,if_false];exact⟨(g6 i' x' j u h hu).1.evo E,λhn=>((g6 i' x' j u h hu).2 hn).evo E.size E.fz⟩
 ·simp only[f'];split
  ·exact hon _ (by omega)
  ·exact g7 i' j (by simpa using hi') hj
 ·have hone2:∀q,q<c'.size->(c'.getD q undef).oneCell'=true:=λq hq=>by
   rw[hat];split
   ·exact hon _ (by omega)
   ·exact e5 q (by omega)
  rw[zZ,hbk]at hb';simp at hb'
  rcases hb' with⟨rfl,rfl⟩|hb'
  case inr=>
   obtain rfl:=hr0 b' n' hb';by_cases hbb:b'=b
   ·subst hbb;exact⟨c',el,setRow_heap w _ _ _ _ _ e2,by omega,λi' j hi' _=>by omega,hone2⟩
   ·obtain⟨c2,el2,q1,q2,_,q4⟩:=g8 b' 0 (by rw[hbk];simp[hb']);exact⟨c2,el2,(setRow_other w b b' c' hbb).trans q1,q2,λi' j hi' _=>by omega,q4⟩
  refine⟨c',el,setRow_heap w _ _ _ _ _ e2,by omega,λi' j hi' hj=>?_,hone2⟩
  have hlt:i'*sz+j<c'.size:=by
   have:=zYo sz (show i'+1<=xs.length by omega);rw[zY8,zZ3]at this;omega
  rw[kW c' _ hlt,hat]
  congr 1
  have hiff:(i*sz+off<=i'*sz+j/\i'*sz+j<i*sz+off+ti.size)↔(i'=i/\off<=j/\j<off+ti.size):=by
   constructor
   ·rintro⟨q1,q2⟩
    have hii:i'=i:=by
     rcases Nat.lt_trichotomy i' i with h|h|h
     ·have:=zYo sz (show i'+1<=i by omega);rw[zY8,zZ3]at this;omega
     ·exact h
     ·have:=zYo sz (show i+1<=i' by omega);rw[zY8,zZ3]at this;omega
    subst hii;exact⟨rfl,by omega,by omega⟩
   ·rintro⟨rfl,q1,q2⟩;omega
  simp only[f',hiff];split
  ·rename_i hq;obtain⟨rfl,q1,q2⟩:=hq
   congr 1
   omega
  ·exact gV (e4 i' j hi' hj)
end ops
end
section
section ops
variable {P:Program} {TT:List TI} {st:St} (hP:uZ P TT)
def DV {P:Program} {TT:List TI} (hP:uZ P TT) {T f o ft:Nat} {ti:TI} {fs:List (Nat×Nat)} (hT:TT[T]? =some ti) (hd:ti.d= .str fs) (hf:fs[f]? =some (o,ft)) (w:World):
  ∃(fields:Array Field) (fd:Field),(underlying T).run P w= .ok (.struct fields) w/\fields[f]? =some fd/\fd.offset=o/\fd.type=ft:=by
 obtain⟨u,hu,hd'⟩:=xU (hP _ _ hT) w;obtain⟨fields,rfl,hm⟩:=zJx (hd'.trans hd);rw[<-hm]at hf;simp only[zX8,zYf,zZ2]at hf;obtain⟨fd,h1,h2,h3⟩:=hf;exact⟨fields,fd,hu,by simpa using h1,h2,h3⟩
def YJ {P:Program} {TT:List TI} (hP:uZ P TT) {T f o ft:Nat} {ti tf:TI} {fs:List (Nat×Nat)} (hT:TT[T]? =some ti) (hd:ti.d= .str fs) (hf:fs[f]? =some (o,ft)) (hft:TT[ft]? =some tf) (hz:Nat.ble 1 tf.size=true) (w:World) (b q:Nat):
  (Instr.fieldAt T (.pointer (some ⟨b,q,none⟩)) f).run P w= .ok (.pointer (some ⟨b,q+o,none⟩)) w:=by
 obtain⟨fields,fd,h1,h2,h3,h4⟩:=DV hP hT hd hf w;have hs:=qA (hP _ _ hft) w;have hz:=zYm hz;have hz':¬tf.size=0:=by omega
 have hadd:(⟨b,q,none⟩:Addr).add o=⟨b,q+o,none⟩:=by unfold Addr.add;split<;>simp_all
 simp[Instr.fieldAt,h1,h2,Instr.sureAddr,fieldPlace,h3,h4,hs,hz',hadd]
def YL (b q n:Nat):(⟨b,q,none⟩:Addr).add n=⟨b,q+n,none⟩:=by unfold Addr.add;split<;>simp_all
include hP in
def TN {T f k off o ft:Nat} {x:Operand} {ti tf:TI} {fs:List (Nat×Nat)} {cs:List AV} (hx:yM (zG st.tm) x= .ptr k 0 off) (hk:zC st.h k=some (.box cs)) (hT:TT[T]? =some ti) (hd:ti.d= .str fs) (hf:fs[f]? =some (o,ft))
  (hft:TT[ft]? =some tf) (hz:Nat.ble 1 tf.size=true):wV P st (.fieldAddr T x f) (.ptr k 0 (off+o)) [] [k] []:=
 yO λoo X tm h w β a ho hg hr HH Ht=>by
  obtain⟨d0,o0,y0,p0,f0,g0⟩:=oo;dsimp only at ho;subst ho;have h1:=gU Ht hg (x:=x) uT hx;have hk':=(hr k zW).trans hk;have hfa:=λb=>YJ hP hT hd hf hft hz w b off
  generalize he:a.eval x=cx at h1
  cases h1 with
  |fz _ _ hf=>cases hf
  |dptr _ _ _ _ hd _=>rw[hk']at hd;cases hd
  |parr _ _ _ _ _ _ _ _ hd _ _ _=>rw[hk']at hd;cases hd
  |pbox _ _ cs' b n hk'' hb=>exact⟨_,by simp[execOp,he,hfa],.pbox k _ cs' b n hk'' hb⟩
include hP in
def wC {T f k i off o ft sz:Nat} {x:Operand} {ti tf:TI} {fs:List (Nat×Nat)} {xs:List AV} {sl:Fl} (hx:yM (zG st.tm) x= .ptr k i off) (hk:zC st.h k=some (.arr sz xs sl)) (hT:TT[T]? =some ti) (hd:ti.d= .str fs) (hf:fs[f]? =some (o,ft))
  (hft:TT[ft]? =some tf) (hz:Nat.ble 1 tf.size=true) (hle:Nat.blt (off+o) sz=true):wV P st (.fieldAddr T x f) (.ptr k i (off+o)) [] [k] []:=
 yO λoo X tm h w β a ho hg hr HH Ht=>by
  obtain⟨d0,o0,y0,p0,f0,g0⟩:=oo;dsimp only at ho;subst ho;have h1:=gU Ht hg (x:=x) uT hx;have hk':=(hr k zW).trans hk;have hfa:=λb q=>YJ hP hT hd hf hft hz w b q
  have hle:off+o<sz:=zYm hle;generalize he:a.eval x=cx at h1
  cases h1 with
  |fz _ _ hf=>cases hf
  |dptr _ _ _ _ hd _=>rw[hk']at hd;cases hd
  |pbox _ _ _ _ _ hd _=>rw[hk']at hd;cases hd
  |parr _ _ _ sz' xs' st' b n hk'' hb hi ho=>
   have h2:=hk'';rw[hk']at h2;cases h2;exact⟨_,by simp[execOp,he,hfa];rfl,by rw[yCp];exact .parr k i (off+o) sz xs sl b n hk'' hb hi hle⟩
include hP in
def wR {T f i off o ft:Nat} {x:Operand} {ti tf:TI} {fs:List (Nat×Nat)} {xs:List AV} {y:AV} (hx:yM (zG st.tm) x= .fp xs i off) (hy:xs[i]? =some y) (hT:TT[T]? =some ti) (hd:ti.d= .str fs) (hf:fs[f]? =some (o,ft))
  (hft:TT[ft]? =some tf) (hz:Nat.ble 1 tf.size=true) (hle:Nat.blt (off+o) y.cells.length=true):wV P st (.fieldAddr T x f) (.fp xs i (off+o)) [] [] []:=
 yO λoo X tm h w β a ho hg hr HH Ht=>by
  obtain⟨d0,o0,y0,p0,f0,g0⟩:=oo;dsimp only at ho;subst ho;have h1:=gU Ht hg (x:=x) uT hx;have hfa:=λb q=>YJ hP hT hd hf hft hz w b q
  have hle:off+o<y.cells.length:=zYm hle;generalize he:a.eval x=cx at h1
  cases h1 with
  | fz _ _ hf=>
   cases hf with
   |fp _ b q sz _ _ f hL hi ho hh=>
    have hsz:=hL.wide i y hy;exact⟨_,by simp[execOp,he,hfa];rfl,.fz _ _ (by rw[yCp];exact .fp xs b q sz i (off+o) f hL hi (by omega) hh)⟩
include hP in
def RZ {T e:Nat} {ti te:TI} (hT:TT[T]? =some ti) (hd:ti.d= .slice e) (he:TT[e]? =some te) (w:World) (b q len cap:Nat) (k:IntKind) (i:Int) (h0:0<=i) (hi:i<len):
  (Instr.indexAt T (.slice (some ⟨b,q,none⟩) len cap) (.int k i)).run P w= .ok (.pointer (some ⟨b,q+i.toNat*te.size,none⟩)) w:=by
 obtain⟨u,hu,hd'⟩:=xU (hP _ _ hT) w;obtain rfl:=vX (hd'.trans hd);have hs:=qA (hP _ _ he) w;simp[Instr.indexAt,asIntOf,hu,h0,hi,hs,YL]
include hP in
def wS {T e:Nat} {x ix:Operand} {ti te:TI} {nn:Bool} {xs:List AV} {y:AV} {k:IntKind} {i:Int} (hx:yM (zG st.tm) x= .sl nn xs) (hi:yM (zG st.tm) ix= .s (.int k i)) (hT:TT[T]? =some ti) (hd:ti.d= .slice e) (he:TT[e]? =some te)
  (h0:0<=i) (hy:xs[i.toNat]? =some y) (hs:Nat.beq y.cells.length te.size=true) (hz:Nat.ble 1 te.size=true):wV P st (.indexAddr T x ix) (.fp xs i.toNat 0) [] [] []:=
 yO λoo X tm h w β a ho hg hr HH Ht=>by
  obtain⟨d0,o0,y0,p0,f0,g0⟩:=oo;dsimp only at ho;subst ho;have h1:=gU Ht hg (x:=x) uT hx;have h2:=vV Ht hg (x:=ix) uT hi;have hs:=zY2 hs;have hz:=zYm hz;have hlt:i.toNat<xs.length:=(zYu.1 hy).1;generalize he':a.eval x=cx at h1
  cases h1 with
  | fz _ _ hf=>
   cases hf with
   |nil a cap=>simp at hlt
   |nil1 a cap=>simp at hlt
   |sl _ _ b o sz cap f hne hL hc hh=>
    have hsz:=hL.wide _ y hy;refine⟨_,by simp only[execOp,he',h2,Sem.run_bind,RZ hP hT hd he w b o xs.length cap k i h0 (by omega),Result.andThen_ok,Sem.run_pure];rfl,.fz _ _ ?_⟩;have:=xE.fp xs b o sz i.toNat 0 f hL hlt (by omega) hh
    rwa [yBa,<-hsz,hs]at this
include hP in
def TO {T e:Nat} {x ix:Operand} {ti te:TI} {key off len sz:Nat} {xs:List AV} {sl:Fl} {k:IntKind} {i:Int} (hx:yM (zG st.tm) x= .ref key off len) (hi:yM (zG st.tm) ix= .s (.int k i)) (hk:zC st.h key=some (.arr sz xs sl)) (hT:TT[T]? =some ti) (hd:ti.d= .slice e) (he:TT[e]? =some te)
  (h0:0<=i) (hl:i<len) (hs:Nat.beq sz te.size=true):wV P st (.indexAddr T x ix) (.ptr key (off+i.toNat) 0) [] [key] []:=
 yO λoo X tm h w β a ho hg hr HH Ht=>by
  obtain⟨d0,o0,y0,p0,f0,g0⟩:=oo;dsimp only at ho;subst ho;have h1:=gU Ht hg (x:=x) uT hx;have h2:=vV Ht hg (x:=ix) uT hi;have hk':=(hr key zW).trans hk;have hs:=zY2 hs;have hp:=(HH.ent key _ hk').1;generalize he':a.eval x=cx at h1
  cases h1 with
  |fz _ _ hf=>cases hf
  |dref _ _ _ _ hd _=>rw[hk']at hd;cases hd
  |ref0 _ _ _ _ _ _ _ _=>simp at hl;omega
  |ref _ _ _ sz' xs' st' b n cap hk'' hb hn hc hsz=>
   have h3:=hk'';rw[hk']at h3;cases h3;refine⟨_,by simp only[execOp,he',h2,Sem.run_bind,RZ hP hT hd he w b _ len cap k i h0 hl,Result.andThen_ok,Sem.run_pure];rfl,?_⟩;have:=yB.parr (w:=w) (D:=xO X β) key (off+i.toNat) 0 sz xs sl b n hk'' hb (by omega) (by omega);rw[zY8,yBa]at this;rw[<-hs];exact this
include hP in
def wD {T e n:Nat} {x ix:Operand} {ti te:TI} {key off:Nat} {cs:List AV} {k:IntKind} {i:Int} (hx:yM (zG st.tm) x= .ptr key 0 off) (hi:yM (zG st.tm) ix= .s (.int k i)) (hk:zC st.h key=some (.box cs)) (hT:TT[T]? =some ti) (hd:ti.d= .arr n e) (he:TT[e]? =some te)
  (h0:0<=i) (hl:i<n):wV P st (.indexAddr T x ix) (.ptr key 0 (off+i.toNat*te.size)) [] [key] []:=
 yO λoo X tm h w β a ho hg hr HH Ht=>by
  obtain⟨d0,o0,y0,p0,f0,g0⟩:=oo;dsimp only at ho;subst ho;have h1:=gU Ht hg (x:=x) uT hx;have h2:=vV Ht hg (x:=ix) uT hi;have hk':=(hr key zW).trans hk;obtain⟨u,hu,hd'⟩:=xU (hP _ _ hT) w;obtain rfl:=zAs (hd'.trans hd);have hs:=qA (hP _ _ he) w;generalize he':a.eval x=cx at h1
  cases h1 with
  |fz _ _ hf=>cases hf
  |dptr _ _ _ _ hd _=>rw[hk']at hd;cases hd
  |parr _ _ _ _ _ _ _ _ hd _ _ _=>rw[hk']at hd;cases hd
  |pbox _ _ cs' b q hk'' hb=>
   exact⟨.pointer (some ⟨b,off+i.toNat*te.size,none⟩),by simp[execOp,Instr.indexAt,asIntOf,hu,Instr.sureAddr,h0,hl,hs,YL,he',h2],.pbox key _ cs' b q hk'' hb⟩
def zJ2 {P:Program} {TT:List TI} (hP:uZ P TT) {T:Nat} {ti:TI} (hT:TT[T]? =some ti) {w:World} {D:Nat->Prop} {h:yJ} {β:uW} {cs:List AV} {c:Value} (hv:yB w D h β (.agg cs) c) {off:Nat} {v:AV} (hl:ldv ti.d.agg ti.size cs off=some v):
  ∃(ca:Array Value) (u:Value),c= .agg ca/\(part T ca off).run P w= .ok u w/\yB w D h β v u:=by
 obtain⟨h1,h2,h3⟩:=hv.cells Z;have ha:=zDb (hP _ _ hT) w;have hs:=qA (hP _ _ hT) w
 obtain⟨ca,rfl⟩:∃ca,c= .agg ca:=by
  cases hv with
  |fz _ _ hf=>cases hf with|agg _ c=>exact⟨c,rfl⟩
  |agg _ c=>exact⟨c,rfl⟩
 simp only[Value.cells,AV.cells]at h1 h2 h3;unfold ldv at hl
 cases hb:ti.d.agg with
 |false=>
  simp only[hb,zZ6]at hl;have hlt:off<ca.size:=by rw[h1];exact(zYu.1 hl).1
  exact⟨ca,ca.getD off undef,rfl,by simp only[part,Sem.run_bind,ha,hb,Result.andThen_ok,kW ca off hlt,Bool.false_eq_true,if_false,Sem.run_pure],h3 _ _ hl⟩
 | true=>
  simp only[hb,zZo]at hl
  cases hle:Nat.ble (off+ti.size) cs.length with
  |false=>simp[hle]at hl
  | true=>
   have hle':=zYm hle;simp only[hle,zZo,zZh]at hl;subst hl
   have hat:∀i,i<ti.size->(ca.extract off (off+ti.size)).getD i undef=ca.getD (off+i) undef:=λi hi=>by
    apply gV;rw[Array.getElem?_extract];rw[zX3 (by omega)];exact kW ca _ (by omega)
   refine⟨ca,.agg (ca.extract off (off+ti.size)),rfl,by simp only[part,Sem.run_bind,ha,hb,Result.andThen_ok,yDq,hs,Sem.run_pure],.agg _ _ xX (λi hi=>?_) λi u hu=>?_⟩
   ·have hi':i<ti.size:=by simp at hi;omega
    rw[hat i hi'];exact h2 _ (by omega)
   ·rw[zZi]at hu;split at hu
    ·rename_i hi;rw[hat i hi];rw[zZt]at hu;exact h3 _ _ hu
    ·cases hu
def zEy (hP:uZ P TT) {T f o ft:Nat} {x:Operand} {ti tf:TI} {fs:List (Nat×Nat)} {cs:List AV} {v:AV} (hx:yM (zG st.tm) x= .agg cs) (hT:TT[T]? =some ti) (hd:ti.d= .str fs) (hf:fs[f]? =some (o,ft))
  (hft:TT[ft]? =some tf) (hv:ldv tf.d.agg tf.size cs o=some v):wV P st (.field T x f) v [] [] []:=
 yO λoo X tm h w β a ho hg hr HH Ht=>by
  obtain⟨d0,o0,y0,p0,f0,g0⟩:=oo;dsimp only at ho;subst ho;have h1:=gU Ht hg (x:=x) uT hx;obtain⟨fields,fd,e1,e2,e3,e4⟩:=DV hP hT hd hf w;obtain⟨ca,u,hc,hr,hu⟩:=zJ2 hP hft h1 hv;exact⟨u,by simp[execOp,hc,Instr.field,e1,e2,asAgg,e3,e4,hr],hu⟩
def RH {x:Operand} {k off:Nat} {cs:List AV} (hx:yM (zG st.tm) x= .ptr k 0 off) (hk:zC st.h k=some (.box cs)):wV P st (.nilCheck x) (.ptr k 0 off) [] [k] []:=
 yO λoo X tm h w β a ho hg hr HH Ht=>by
  obtain⟨d0,o0,y0,p0,f0,g0⟩:=oo;dsimp only at ho;subst ho;have h1:=gU Ht hg (x:=x) uT hx;have hk':=(hr k zW).trans hk;obtain⟨b,hc,_,_⟩:=PG HH hk' h1;rw[hc]at h1;exact⟨_,by simp[execOp,hc],h1⟩
def xV {x:Operand} {k i off sz:Nat} {xs:List AV} {sl:Fl} {y:AV} (hx:yM (zG st.tm) x= .ptr k i off) (hk:zC st.h k=some (.arr sz xs sl)) (hy:xs[i]? =some y):wV P st (.nilCheck x) (.ptr k i off) [] [k] []:=
 yO λoo X tm h w β a ho hg hr HH Ht=>by
  obtain⟨d0,o0,y0,p0,f0,g0⟩:=oo;dsimp only at ho;subst ho;have h1:=gU Ht hg (x:=x) uT hx;have hk':=(hr k zW).trans hk;obtain⟨b,n,hc,_,_,_,_⟩:=zDc HH hk' hy h1;rw[hc]at h1;exact⟨_,by simp[execOp,hc],h1⟩
def zAw (hP:uZ P TT) {T e:Nat} {x:Operand} {ti:TI} {nn:Bool} {xs:List AV} (hx:yM (zG st.tm) x= .sl nn xs) (hT:TT[T]? =some ti) (hd:ti.d= .slice e):
  wV P st (.call ⟨.builtin .len, #[x], #[T]⟩) (.s (.int .i64 xs.length)) [] [] []:=
 yO λoo X tm h w β a ho hg hr HH Ht=>by
  obtain⟨d0,o0,y0,p0,f0,g0⟩:=oo;dsimp only at ho;subst ho;have h1:=gU Ht hg (x:=x) kJ hx;obtain⟨u,hu,hd'⟩:=xU (hP _ _ hT) w;obtain rfl:=vX (hd'.trans hd)
  obtain⟨b,cap,hc⟩:∃b cap,a.eval x= .slice b xs.length cap:=by
   generalize a.eval x=cx at h1
   cases h1 with
   |fz _ _ hf=>cases hf<;>exact⟨_,_,rfl⟩
  exact⟨_,by simp[execOp,resolve,invoke,builtin,Builtin.len_,hc,hu,goInt],.fz _ _ (.s _)⟩
def DW (hP:uZ P TT) {T e:Nat} {x:Operand} {ti:TI} {k off len sz:Nat} {xs:List AV} {sl:Fl} (hx:yM (zG st.tm) x= .ref k off len) (hk:zC st.h k=some (.arr sz xs sl)) (hT:TT[T]? =some ti) (hd:ti.d= .slice e):
  wV P st (.call ⟨.builtin .len, #[x], #[T]⟩) (.s (.int .i64 len)) [] [k] []:=
 yO λoo X tm h w β a ho hg hr HH Ht=>by
  obtain⟨d0,o0,y0,p0,f0,g0⟩:=oo;dsimp only at ho;subst ho;have h1:=gU Ht hg (x:=x) kJ hx;have hk':=(hr k zW).trans hk;obtain⟨u,hu,hd'⟩:=xU (hP _ _ hT) w;obtain rfl:=vX (hd'.trans hd)
  obtain⟨b,cap,hc⟩:∃b cap,a.eval x= .slice b len cap:=by
   generalize a.eval x=cx at h1
   cases h1 with
   |fz _ _ hf=>cases hf
   |dref _ _ _ _ hd _=>rw[hk']at hd;cases hd
   |ref0 _ _ _ _ _ _ _ _=>exact⟨_,_,rfl⟩
   |ref _ _ _ _ _ _ _ _ _ _ _ _ _ _=>exact⟨_,_,rfl⟩
  exact⟨_,by simp[execOp,resolve,invoke,builtin,Builtin.len_,hc,hu,goInt],.fz _ _ (.s _)⟩
def DX (hP:uZ P TT) {T e:Nat} {x:Operand} {ti:TI} {b:Option Addr} {n cap:Nat} (hx:yM (zG st.tm) x= .s (.slice b n cap)) (hT:TT[T]? =some ti) (hd:ti.d= .slice e):
  wV P st (.call ⟨.builtin .len, #[x], #[T]⟩) (.s (.int .i64 n)) [] [] []:=
 yO λoo X tm h w β a ho hg hr HH Ht=>by
  obtain⟨d0,o0,y0,p0,f0,g0⟩:=oo;dsimp only at ho;subst ho;have hc:=vV Ht hg (x:=x) kJ hx;obtain⟨u,hu,hd'⟩:=xU (hP _ _ hT) w;obtain rfl:=vX (hd'.trans hd);exact⟨_,by simp[execOp,resolve,invoke,builtin,Builtin.len_,hc,hu,goInt],.fz _ _ (.s _)⟩
def Bd (st:St) (o:Option Operand) (dflt n:Nat):Prop:=match o with
 |none=>n=dflt
 |some x=>∃k i,yM (zG st.tm) x= .s (.int k i)/\i=(n:Int)
def fK {P:Program} {st:St} {op:Op} {tm:Nat->AV} {a:Act} {w:World} {D:Nat->Prop} {h:yJ} {β:uW} (H:∀t,yB w D h β (tm t) (a.eval (.tmp t))) (hg:∀t,t∈eV op->tm t=zG st.tm t) {lo hi:Option Operand}
  (h1:∀x,lo=some x->x∈op.operands) (h2:∀x,hi=some x->x∈op.operands) {len cap l r:Nat} (hl:Bd st lo 0 l) (hr:Bd st hi len r) (hlr:l<=r) (hrc:r<=cap) (b:Bool):
  (Instr.sliceBounds b len cap (lo.map a.eval) (hi.map a.eval) none).run P w= .ok (l,r,cap) w:=by
 unfold Instr.sliceBounds
 cases lo with
 | none=>
  simp only[Bd]at hl;subst hl
  cases hi with
  |none=>simp only[Bd]at hr;subst hr;simp
  |some y=>
   obtain⟨k,i,e1,rfl⟩:=hr;have e2:=vV H hg (h2 y Z) e1;simp[Instr.sliceBound,e2,asIntOf,hrc]
 | some x=>
  obtain⟨k,i,e1,rfl⟩:=hl;have e2:=vV H hg (h1 x Z) e1
  cases hi with
  |none=>simp only[Bd]at hr;subst hr;simp[Instr.sliceBound,e2,asIntOf,hlr]
  |some y=>
   obtain⟨k',i',e3,rfl⟩:=hr;have e4:=vV H hg (h2 y Z) e3;simp[Instr.sliceBound,e2,e4,asIntOf,hlr,hrc]
theorem aW (hP:uZ P TT) {T e:Nat} {x:Operand} {lo hi:Option Operand} {ti te:TI} {nn:Bool} {xs:List AV} {l r:Nat} (hx:yM (zG st.tm) x= .sl nn xs) (hT:TT[T]? =some ti) (hd:ti.d= .slice e) (he:TT[e]? =some te)
  (hl:Bd st lo 0 l) (hr:Bd st hi xs.length r) (hlr:l<=r) (hrx:r<=xs.length) (hsz:∀y,xs[0]? =some y->y.cells.length=te.size):wV P st (.slice T x lo hi none) (.sl nn ((xs.drop l).take (r-l))) [] [] []:=
 yO λoo X tm h w β a ho hg _ HH Ht=>by
  obtain⟨d0,o0,y0,p0,f0,g0⟩:=oo;dsimp only at ho;subst ho;have h1:=gU Ht hg (x:=x) uT hx;obtain⟨u,hu,hd'⟩:=xU (hP _ _ hT) w;obtain rfl:=vX (hd'.trans hd);have hs:=qA (hP _ _ he) w
  obtain⟨b,cap,hc,hcap⟩:∃b cap,a.eval x= .slice b xs.length cap/\xs.length<=cap:=by
   generalize a.eval x=cx at h1
   cases h1 with
   |fz _ _ hf=>
    cases hf with
    |nil a cap=>exact⟨_,_,rfl,by simp⟩
    |nil1 a cap=>exact⟨_,_,rfl,by simp⟩
    |sl _ _ b o sz cap f hne hL hc hh=>exact⟨_,_,rfl,hc⟩
  have hb:=fK (P:=P) Ht hg (lo:=lo) (hi:=hi) (λy hy=>by subst hy;simp[Op.operands]) (λy hy=>by subst hy;simp[Op.operands]) hl hr hlr (zY9 hrx hcap) true
  have hrun:(execOp a.eval ⟨d0,.slice T x lo hi none,y0,p0,f0,g0⟩).run P w= .ok (.value (.slice (if cap=l then b else b.map (·.add (l*te.size))) (r-l) (cap-l))) w:=by
   simp only[execOp,Instr.sliceAt,Instr.slice,Sem.run_bind,hu,Result.andThen_ok,hc,yBb,hb,hs,Sem.run_pure]
  refine⟨_,hrun,.fz _ _ ?_⟩;rw[hc]at h1;have hlen:((xs.drop l).take (r-l)).length=r-l:=by simp;omega
  by_cases hz:r-l=0
  ·have hnil:(xs.drop l).take (r-l)=[]:=zYz (by omega);rw[hnil,hz]
   cases nn with
   |false=>exact .nil _ _
   | true=>
    cases h1 with
    |fz _ _ hf=>
     cases hf with
     |nil1 a cap=>split<;>exact .nil1 _ _
     |sl _ _ b o sz cap f hne hL hc hh=>split<;>exact .nil1 _ _
  ·cases h1 with
   | fz _ _ hf=>
    cases hf with
    |nil a cap=>simp at hrx;omega
    |nil1 a cap=>simp at hrx;omega
    | sl _ _ b o sz cap f hne hL hc hh=>
     have hne':¬cap=l:=by omega
     have hsz':te.size=sz:=by
      obtain⟨y,hy⟩:∃y,xs[0]? =some y:=⟨xs[0]'(by omega),by simp⟩;rw[<-hsz y hy,hL.wide 0 y hy]
     have hat:∀(i:Nat) y,((xs.drop l).take (r-l))[i]? =some y->xs[l+i]? =some y:=λi y hy=>by
      rw[zZi]at hy;split at hy
      ·rwa [zZt]at hy
      ·cases hy
     rw[zX2 hne',Option.map_some,YL,hsz']
     have:=xE.sl (w:=w) (D:=xO X β) nn ((xs.drop l).take (r-l)) b (o+l*sz) sz (cap-l) (λi j=>f (l+i) j) (λh0=>hz (by rw[<-hlen,h0];rfl))
      ⟨hL.lt,hL.nd,hL.pos,by rw[hlen];exact zY9 (Nat.sub_le _ _) (zY9 hrx hL.max),λi y hy=>hL.wide _ y (hat i y hy),λi j hi hj=>by
       rw[hlen]at hi;have:=hL.cell (l+i) j (by omega) hj
       rwa [zY8,<-yCp]at this,λi j hi hj=>hL.one _ _ (by rw[hlen]at hi;omega) hj⟩ (by omega) (λi y j v hy hv=>hh _ y j v (hat i y hy) hv)
     rwa [hlen]at this
def fS (hP:uZ P TT) {T e:Nat} {x:Operand} {lo hi:Option Operand} {ti te:TI} {k off len sz:Nat} {xs:List AV} {sl:Fl} {l r:Nat} (hx:yM (zG st.tm) x= .ref k off len) (hk:zC st.h k=some (.arr sz xs sl)) (hT:TT[T]? =some ti) (hd:ti.d= .slice e) (he:TT[e]? =some te)
  (hl:Bd st lo 0 l) (hr:Bd st hi len r) (hlr:l<=r) (hrx:r<=len) (hsz:Nat.beq sz te.size=true):wV P st (.slice T x lo hi none) (.ref k (off+l) (r-l)) [] [k] []:=
 yO λoo X tm h w β a ho hg hr' HH Ht=>by
  obtain⟨d0,o0,y0,p0,f0,g0⟩:=oo;dsimp only at ho;subst ho;have h1:=gU Ht hg (x:=x) uT hx;have hk':=(hr' k zW).trans hk;have hsz:=zY2 hsz;obtain⟨u,hu,hd'⟩:=xU (hP _ _ hT) w;obtain rfl:=vX (hd'.trans hd);have hs:=qA (hP _ _ he) w;have hE:=HH.ent k _ hk';generalize hcx:a.eval x=cx at h1
  have main:∀b cap,cx= .slice b len cap->len<=cap->(execOp a.eval ⟨d0,.slice T x lo hi none,y0,p0,f0,g0⟩).run P w= .ok (.value (.slice (if cap=l then b else b.map (·.add (l*te.size))) (r-l) (cap-l))) w:=by
   intro b cap hc hcap;have hb:=fK (P:=P) Ht hg (lo:=lo) (hi:=hi) (λy hy=>by subst hy;simp[Op.operands]) (λy hy=>by subst hy;simp[Op.operands]) hl hr hlr (zY9 hrx hcap) true;simp only[execOp,Instr.sliceAt,Instr.slice,Sem.run_bind,hu,Result.andThen_ok,hcx,hc,yBb,hb,hs,Sem.run_pure]
  cases h1 with
  |fz _ _ hf=>cases hf
  |dref _ _ _ _ hd _=>rw[hk']at hd;cases hd
  |ref0 _ _ sz' xs' st' b hk'' hn=>
   have hm:=main b 0 Z (zX7 _);obtain rfl:r=0:=by omega
   obtain rfl:l=0:=by omega
   exact⟨_,hm,.ref0 k off sz' xs' st' _ hk'' hn⟩
  | ref _ _ _ sz' xs' st' b n cap hk'' hb hn hc hs'=>
   have hm:=main _ cap Z hc;have h3:=hk'';rw[hk']at h3;cases h3;refine⟨_,hm,?_⟩;obtain⟨_,_,_,_,g5,_⟩:=hE
   have hnx:n<=xs.length:=by
    cases hbk:β k with
    |nil=>rw[hbk]at hb;simp at hb
    |cons q rr=>
     obtain⟨b0,n0⟩:=q;obtain⟨e1,_,e3⟩:=g5 b0 n0 rr hbk;rw[hbk]at hb;simp at hb
     rcases hb with⟨_,rfl⟩|hb
     ·omega
     ·exact yC0 (e3 b n hb)
   by_cases hcl:cap=l
   ·obtain rfl:r=l:=by omega
    rw[zX3 hcl,show r-r=0 by omega,show cap-r=0 by omega];exact .ref0 k _ sz xs sl _ hk'' (by omega)
   ·rw[zX2 hcl,Option.map_some,YL,<-hsz,<-zY8];exact .ref k (off+l) (r-l) sz xs sl b n (cap-l) hk'' hb (by omega) (by omega) (by rw[show off+l+(cap-l)=off+cap by omega];exact hs')
end ops
end
section
def TP (ne:Bool) (h:yJ):AV->Option (List AV)
 | .sl _ ys=>some ys
 | .s v=>match v with
  | .slice none 0 0=>some []
  |_=>none
 | .ref k off len=>match h k with
  |some (.arr _ xs fl)=>bif fl.nest&& !ne then none else some ((xs.drop off).take len)
  |_=>none
 |_=>none
abbrev DY (h:yJ):AV->Option (List AV):=TP false h
def PH:AV->List Nat
 | .ref k _ _=>[k]
 |_=>[]
structure Src (w:World) (D:Nat->Prop) (h:yJ) (β:uW) (ne:Bool) (ys:List AV) (sz:Nat) (b o:Nat) (f:Nat->Nat->Value):Prop where
 wide:∀(i:Nat) (y:AV),ys[i]? =some y->y.cells.length=sz
 cell:∀i j,i<ys.length->j<sz->w.cell? ⟨b,o+i*sz+j,none⟩=some (f i j)
 one:∀i j,i<ys.length->j<sz->(f i j).oneCell'=true
 rep:gD w D h β ne ys f
theorem bF {w:World} {X:Nat->Prop} {h:yJ} {β:uW} (H:jK X h β w) {x:AV} {c:Value} (hv:yB w (xO X β) h β x c) {ne:Bool} {ys:List AV} (he:TP ne h x=some ys) {sz:Nat} (hsz:∀y,ys[0]? =some y->y.cells.length=sz):
  ∃a cap,c= .slice a ys.length cap/\ys.length<=cap/\ys.length<=cU/\(ys≠[]->∃b o f,a=some ⟨b,o,none⟩/\Src w (xO X β) h β ne ys sz b o f):=by
 cases hv with
 | fz _ _ hf=>
  cases hf with
  |s v=>
   simp only[TP]at he;split at he
   ·cases he;exact⟨none,0,rfl,by simp,by simp,λh=>absurd Z h⟩
   ·cases he
  |nil a cap=>cases he;exact⟨a,cap,rfl,by simp,by simp,λh=>absurd Z h⟩
  |nil1 a cap=>cases he;exact⟨some a,cap,rfl,by simp,by simp,λh=>absurd Z h⟩
  | sl nn xs b o sz' cap f hne hL hc hh=>
   cases he
   have hs:sz'=sz:=by
    obtain⟨y,hy⟩:∃y,ys[0]? =some y:=by cases ys with|nil=>exact absurd Z hne|cons y _=>exact⟨y,rfl⟩
    rw[<-hsz y hy,hL.wide 0 y hy]
   subst hs;exact⟨_,cap,rfl,hc,hL.max,λ_=>⟨b,o,f,rfl,hL.wide,hL.cell,hL.one,.ofF hh⟩⟩
  |_=>cases he
 | ref k off len sz' xs st b n cap hk hb hn hc hs=>
  simp only[TP,hk]at he
  obtain⟨hne0,he⟩:(ne=false->st.nest=false)/\some ((xs.drop off).take len)=some ys:=by
   cases hn1:st.nest<;>cases ne<;>simp_all
  obtain rfl:=yAh he;obtain⟨g1,g2,g3,g4,g5,f,g6,g7,g8⟩:=H.ent k _ hk
  have hnx:n<=xs.length:=by
   cases hbk:β k with
   |nil=>rw[hbk]at hb;simp at hb
   |cons q rr=>
    obtain⟨b0,n0⟩:=q;obtain⟨e1,_,e3⟩:=g5 b0 n0 rr hbk;rw[hbk]at hb;simp at hb
    rcases hb with⟨_,rfl⟩|hb
    ·omega
    ·exact yC0 (e3 b n hb)
  have hl:((xs.drop off).take len).length=len:=by simp;omega
  have hat:∀(i:Nat) y,((xs.drop off).take len)[i]? =some y->xs[off+i]? =some y:=λi y hy=>by
   rw[zZi]at hy;split at hy
   ·rwa [zZt]at hy
   ·cases hy
  refine⟨_,cap,by rw[hl],by rw[hl];exact hc,by omega,λhne=>?_⟩
  have hs':sz'=sz:=by
   obtain⟨y,hy⟩:∃y,((xs.drop off).take len)[0]? =some y:=by
    cases h0:(xs.drop off).take len with|nil=>exact absurd h0 hne|cons y _=>exact⟨y,rfl⟩
   rw[<-hsz y hy,g4 _ y (hat 0 y hy)]
  subst hs';obtain⟨c,el,e1,e2,e3,_⟩:=g8 b n hb;refine⟨b,off*sz',λi j=>f (off+i) j,rfl,λi y hy=>g4 _ y (hat i y hy),λi j hi hj=>?_,λi j hi hj=>g7 _ _ zDa hj,λi y j v hy hv=>⟨g6.toV _ y j v (hat i y hy) hv,λhn=>g6.toF (hne0 hn) _ y j v (hat i y hy) hv⟩⟩;rw[hl]at hi;rw[uX e1,show off*sz'+i*sz'+j=(off+i)*sz'+j by rw[zY8]];exact e3 _ _ (by omega) hj
 | ref0 k off sz' xs st a hk hn=>
  simp only[TP,hk,yA9]at he
  obtain rfl: []=ys:=by
   cases hn1:st.nest<;>cases ne<;>simp_all
  exact⟨a,0,rfl,by simp,by simp,λh=>absurd Z h⟩
 |dref _ _ _ _ hk _=>simp[TP,hk]at he
 |_=>simp[TP]at he
def flat (f:Nat->Nat->Value) (n sz:Nat):List Value:=(List.range (n*sz)).map λq=>f (q/sz) (q % sz)
def zQ (f:Nat->Nat->Value) (n sz:Nat):(flat f n sz).length=n*sz:=by simp[flat]
def IX (f:Nat->Nat->Value) {n sz q:Nat} (h:q<n*sz):(flat f n sz)[q]? =some (f (q/sz) (q % sz)):=by simp[flat,h]
def kD (f:Nat->Nat->Value) {n sz i j:Nat} (hi:i<n) (hj:j<sz):(flat f n sz)[i*sz+j]? =some (f i j):=by
 have h1:i*sz+j<n*sz:=by
  have:=zYo sz (show i+1<=n by omega);rw[zY8,zZ3]at this;omega
 rw[IX f h1];have h2:(i*sz+j)/sz=i:=Nat.div_eq_of_lt_le (by omega) (by rw[zY8,zZ3];omega);have h3:(i*sz+j) % sz=j:=by rw[yCm,yCv];exact yAs hj
 rw[h2,h3]
theorem Src.flat {w:World} {D:Nat->Prop} {h:yJ} {β:uW} {ne:Bool} {ys:List AV} {sz b o:Nat} {f:Nat->Nat->Value} (hS:Src w D h β ne ys sz b o f) (hp:1<=sz):
  (∀j u,(Av.flat f ys.length sz)[j]? =some u->w.cell? ((⟨b,o,none⟩:Addr).add j)=some u)/\∀u∈Av.flat f ys.length sz,u.oneCell'=true:=by
 have key:∀j,j<ys.length*sz->j/sz<ys.length/\j % sz<sz/\j/sz*sz+j % sz=j:=λj hj=>
  ⟨(Nat.div_lt_iff_lt_mul (by omega)).2 hj,yD2 _ (by omega),by rw[yCm];exact Nat.div_add_mod j sz⟩
 refine⟨λj u hu=>?_,λu hu=>?_⟩
 ·have hj:j<ys.length*sz:=by rw[<-zQ f ys.length sz];exact(zYu.1 hu).1
  rw[IX f hj]at hu;cases hu;obtain⟨h1,h2,h3⟩:=key j hj;have:=hS.cell _ _ h1 h2;rw[YL]
  rwa [yCp,h3]at this
 ·obtain⟨j,hu⟩:=yBx hu;have hj:j<ys.length*sz:=by rw[<-zQ f ys.length sz];exact(zYu.1 hu).1
  rw[IX f hj]at hu;cases hu;obtain⟨h1,h2,_⟩:=key j hj;exact hS.one _ _ h1 h2
section runs
variable {P:Program} {TT:List TI} (hP:uZ P TT) {T e:Nat} {ti te:TI} (hT:TT[T]? =some ti) (hd:ti.d= .slice e) (he:TT[e]? =some te) (w:World)
include hP hT hd he
def wX:∃(i:TypeInfo) (z:Value),P.underlying T=some (.slice e)/\P.info? e=some i/\i.zero=some z/\i.size=te.size/\i.bytes=te.bytes/\z.cells.toList=te.zero:=by
 obtain⟨_,u,_,_,hu,_,hd',_⟩:=uM (hP _ _ hT);obtain rfl:=vX (hd'.symm.trans hd);obtain⟨i,_,z,hi,_,hz,_,hs,hb,hzz⟩:=uM (hP _ _ he);exact⟨i,z,hu,hi,hz,hs.symm,hb.symm,hzz.symm⟩
def hG (ty:Nat) (b b':Option Addr) (n cap cap':Nat) (hc:n<=cap):(Builtin.append_ #[T,T] ty #[.slice b n cap,.slice b' 0 cap']).run P w= .ok (.slice b n cap) w:=by
 obtain⟨i,z,hu,hi,hz,_⟩:=wX hP hT hd he
 have h1:(Builtin.firstCells i.size 0 (.slice b' 0 cap')).run P w= .ok #[] w:=by
  cases b' with
  |none=>rfl
  |some a=>simp only[Builtin.firstCells,loadCells,yB5,loadCellsFrom];rfl
 cases b with
 |none=>simp[Builtin.append_,run_underlying hu,sizeOf,typeInfo,hi,Builtin.lenOf,hc,h1]
 |some a=>simp[Builtin.append_,run_underlying hu,sizeOf,typeInfo,hi,Builtin.lenOf,hc,h1,storeCells]
def bL (ty:Nat) (g o n cap:Nat) (cur:Array Value) (el:Nat) (hg:w.heap[g]? =some (.cells cur el (0,0))) (a:Addr) (m c:Nat) (news:List Value) (hl:news.length=m*te.size)
  (hnews:∀j u,news[j]? =some u->w.cell? (a.add j)=some u) (h1:∀u∈news,u.oneCell'=true) (hroom:n+m<=cap) (hfit:o+n*te.size+news.length<=cur.size):
  (Builtin.append_ #[T,T] ty #[.slice (some ⟨g,o,none⟩) n cap,.slice (some a) m c]).run P w=
   .ok (.slice (some ⟨g,o,none⟩) (n+m) cap) (w.setRow g (cur.toList.take (o+n*te.size)++news++cur.toList.drop (o+n*te.size+news.length)).toArray):=by
 obtain⟨i,z,hu,hi,hz,hs,_⟩:=wX hP hT hd he;rw[<-hs]at hl hfit⊢;have hf:=run_firstCells_some (P:=P) w i.size m a m c news hl hnews;have hst:=run_storeCells_at P g (o+n*i.size) el news 0 cur w hg (by simpa using hfit) h1;simp only[yBa]at hst;simp[Builtin.append_,run_underlying hu,sizeOf,typeInfo,hi,Builtin.lenOf,hroom,hf,YL,hst]
end runs
section ops
variable {P:Program} {TT:List TI} {st:St}
def fL {ne:Bool} {h h':yJ} {x:AV} (H:∀k,k∈PH x->h k=h' k):TP ne h x=TP ne h' x:=by
 cases x with
 |ref k off len=>simp only[TP];rw[H k (by simp[PH])]
 |_=>rfl
theorem YM (hP:uZ P TT) {T e:Nat} {s x:Operand} {ti te:TI} {xv:AV} {ys:List AV} (kn:Nat) (hs:yM (zG st.tm) s= .s (.slice none 0 0)) (hx:yM (zG st.tm) x=xv) (hT:TT[T]? =some ti) (hd:ti.d= .slice e) (he:TT[e]? =some te)
  (hys:DY (zC st.h) xv=some ys) (hsz:∀y,ys[0]? =some y->y.cells.length=te.size) (hp:Nat.ble 1 te.size=true) (hb:Nat.ble te.bytes 65536=true) (hz:Nat.beq te.zero.length te.size=true) (hz1:te.zero.all (·.oneCell')=true) (hn:ys.length<=1073741824):
  wV P st (.call ⟨.builtin .append, #[s,x], #[T,T]⟩) (.ref kn 0 ys.length) [(kn,.arr te.size ys false)] (PH xv) [kn]:=by
 refine⟨?_⟩;intro X tm h hg hr hnw o a w β ho HH Ht;obtain⟨d0,o0,y0,p0,f0,g0⟩:=o;dsimp only at ho;subst ho;have hkn:=hnw kn zW;have h1:=vV Ht hg (x:=s) kJ hs;have h2:=gU Ht hg (x:=x) kJ hx;have hp:=zYm hp;have hb:=zYm hb;obtain⟨ad,cap,hc,_,hmax,hsrc⟩:=bF HH h2 ((fL hr).trans hys) hsz;obtain⟨i,z,hu,hi,hzz,e1,e2,e3⟩:=wX hP hT hd he;have hz:=zY2 hz
 have hop:∀{v w'},(Builtin.append_ #[T,T] y0 #[.slice none 0 0,a.eval x]).run P w= .ok v w'->(execOp a.eval ⟨d0,.call ⟨.builtin .append, #[s,x], #[T,T]⟩,y0,p0,f0,g0⟩).run P w= .ok (.value v) w':=λhv=>by
  simp[execOp,resolve,invoke,builtin,h1,hv]
 by_cases hnil:ys=[]
 ·subst hnil;rw[hop (by rw[hc];exact hG hP hT hd he w y0 none ad 0 0 cap (zX7 _))]
  refine⟨bD β kn [],xK.step HH kn _ _ (zX7 _) (λ_ _ _=>rfl) Z Z Z (λb n hm=>by simp at hm) (λ_ _ _=>rfl) (λe he=>by rw[hkn]at he;cases he) (λE=>⟨hp,by simp,λh=>absurd Z h,λi y hy=>by simp at hy,
   λb n r hr=>by rw[zZ]at hr;simp at hr,λ_ _=>undef,λi y j v hy _=>by simp at hy,λi j hi _=>by simp at hi,λb n hm=>by rw[zZ]at hm;simp at hm⟩),.ref0 kn 0 _ _ _ _ (kC _ _ _) zW⟩
 ·obtain⟨b,q,f,rfl,hS⟩:=hsrc hnil
  have hpos:0<ys.length:=by cases ys with|nil=>exact absurd Z hnil|cons _ _=>simp
  obtain⟨hf1,hf2⟩:=hS.flat hp
  have hbytes:ys.length*i.bytes<=281474976710656:=by
   have:=yAz hn (show i.bytes<=65536 by omega);omega
  have hrun:=run_append_nil (P:=P) w T y0 e i z hu hi hzz ⟨b,q,none⟩ ys.length cap (flat f ys.length te.size) (by rw[zQ,e1]) hf1 hpos (by unfold cU at hmax;omega) hbytes;rw[hop (by rw[hc];exact hrun)];have HD:=HH.drew (w.drawn+1);have hzs:z.cells.size=te.zero.length:=by rw[<-e3];simp
  have hge:=grownCap_ge w ys.length 0 e
  obtain⟨β',G,hv⟩:=xK.newArr HD hkn ((flat f ys.length te.size).toArray++Builtin.zeroCells z.cells (grownCap w ys.length 0 e-ys.length)) e te.size ys (grownCap w ys.length 0 e) f hp hmax hge (by
    simp only[yC2,yA6,zQ,size_zeroCells,hzs,hz,<-zY8]
    congr 1;omega) (qT.get ((qT.arr hf2).app (qT.zero (λv hv=>zYi.1 hz1 v OX) _))) hS.wide
   (λi j hi hj=>by
    rw[zZ9 (by simp[zQ];have:=zYo te.size (show i+1<=ys.length by omega);rw[zY8,zZ3]at this;omega)]
    simpa using kD f hi hj) hS.one (λi y j v hy hv=>xE.evo (w:=w) (w':={w with drawn:=w.drawn+1}) (zX7 _) (λ_ _ hd=>⟨rfl,hd⟩) (hS.rep.toF Z i y j v hy hv))
  exact⟨β',xK.trans HH (xK.drew HH (w.drawn+1)) G,hv⟩
def QM (hP:uZ P TT) {T e:Nat} {s x:Operand} {ti te:TI} {xv:AV} {ys:List AV} (hs:yM (zG st.tm) s= .s (.slice none 0 0)) (hx:yM (zG st.tm) x=xv) (hT:TT[T]? =some ti) (hd:ti.d= .slice e) (he:TT[e]? =some te)
  (hys:DY (zC st.h) xv=some ys) (hsz:∀y,ys[0]? =some y->y.cells.length=te.size) (hp:Nat.ble 1 te.size=true) (hb:Nat.ble te.bytes 65536=true) (hz:Nat.beq te.zero.length te.size=true) (hn:ys.length<=1073741824):
  wV P st (.call ⟨.builtin .append, #[s,x], #[T,T]⟩) (.sl false ys) [] (PH xv) []:=by
 refine⟨?_⟩;intro X tm h hg hr _ o a w β ho HH Ht;obtain⟨d0,o0,y0,p0,f0,g0⟩:=o;dsimp only at ho;subst ho;have h1:=vV Ht hg (x:=s) kJ hs;have h2:=gU Ht hg (x:=x) kJ hx;have hp:=zYm hp;have hb:=zYm hb;obtain⟨ad,cap,hc,_,hmax,hsrc⟩:=bF HH h2 ((fL hr).trans hys) hsz;obtain⟨i,z,hu,hi,hzz,e1,e2,e3⟩:=wX hP hT hd he;have hz:=zY2 hz
 have hop:∀{v w'},(Builtin.append_ #[T,T] y0 #[.slice none 0 0,a.eval x]).run P w= .ok v w'->(execOp a.eval ⟨d0,.call ⟨.builtin .append, #[s,x], #[T,T]⟩,y0,p0,f0,g0⟩).run P w= .ok (.value v) w':=λhv=>by
  simp[execOp,resolve,invoke,builtin,h1,hv]
 by_cases hnil:ys=[]
 ·subst hnil;rw[hop (by rw[hc];exact hG hP hT hd he w y0 none ad 0 0 cap (zX7 _))];rw[cM];exact⟨β,xK.refl HH,.fz _ _ (.nil _ _)⟩
 ·obtain⟨b,q,f,rfl,hS⟩:=hsrc hnil
  have hpos:0<ys.length:=by cases ys with|nil=>exact absurd Z hnil|cons _ _=>simp
  obtain⟨hf1,hf2⟩:=hS.flat hp
  have hbytes:ys.length*i.bytes<=281474976710656:=by
   have:=yAz hn (show i.bytes<=65536 by omega);omega
  have hrun:=run_append_nil (P:=P) w T y0 e i z hu hi hzz ⟨b,q,none⟩ ys.length cap (flat f ys.length te.size) (by rw[zQ,e1]) hf1 hpos (by unfold cU at hmax;omega) hbytes;rw[hop (by rw[hc];exact hrun)];have HD:=HH.drew (w.drawn+1);have hzs:z.cells.size=te.zero.length:=by rw[<-e3];simp
  have hge:=grownCap_ge w ys.length 0 e;have G:=xK.newFz HD ((flat f ys.length te.size).toArray++Builtin.zeroCells z.cells (grownCap w ys.length 0 e-ys.length)) e
  have hv:=xE.newArr HD ((flat f ys.length te.size).toArray++Builtin.zeroCells z.cells (grownCap w ys.length 0 e-ys.length)) e te.size ys (grownCap w ys.length 0 e) f hp hmax hge hS.wide
   (λi j hi hj=>by
    rw[zZ9 (by simp[zQ];have:=zYo te.size (show i+1<=ys.length by omega);rw[zY8,zZ3]at this;omega)]
    simpa using kD f hi hj) hS.one (λi y j v hy hv=>xE.evo (w:=w) (w':={w with drawn:=w.drawn+1}) (zX7 _) (λ_ _ hd=>⟨rfl,hd⟩) (hS.rep.toF Z i y j v hy hv))
  rw[cM];refine⟨β,xK.trans HH (xK.drew HH (w.drawn+1)) G,.fz _ _ hv.wkF⟩
theorem uR (st' ne:Bool) (hP:uZ P TT) {T e:Nat} {s x:Operand} {ti te:TI} {k sz:Nat} {xs:List AV} {sl:Fl} {xv:AV} {ys:List AV} (hs:yM (zG st.tm) s= .ref k 0 xs.length) (hk:zC st.h k=some (.arr sz xs sl)) (hx:yM (zG st.tm) x=xv) (hT:TT[T]? =some ti) (hd:ti.d= .slice e) (he:TT[e]? =some te)
    (hsl:ne=false->sl.nest=false) (hys:TP ne (zC st.h) xv=some ys) (hsz:∀y,ys[0]? =some y->y.cells.length=sz) (hss:Nat.beq sz te.size=true) (hb:Nat.ble te.bytes 65536=true) (hz:Nat.beq te.zero.length te.size=true) (hz1:te.zero.all (·.oneCell')=true) (hn:xs.length+ys.length<=1073741824) (hst:st'=false->xs=[]):
    wV P st (.call ⟨.builtin .append, #[s,x], #[T,T]⟩) (.ref k 0 (xs++ys).length) [(k,.arr sz (xs++ys) ⟨st',ne⟩)] (k::PH xv) []:=by
  refine⟨?_⟩;intro X tm h hg hr _ o a w β ho HH Ht;obtain⟨d0,o0,y0,p0,f0,g0⟩:=o;dsimp only at ho;subst ho;have hk':=(hr k zW).trans hk;have h1:=gU Ht hg (x:=s) kJ hs;have h2:=gU Ht hg (x:=x) kJ hx;have hss:=zY2 hss;have hb:=zYm hb;have hz:=zY2 hz;obtain⟨g1,g2,g3,g4,g5,fs,g6,g7,g8⟩:=HH.ent k _ hk';obtain⟨ad,cap,hc,_,hmax,hsrc⟩:=bF HH h2 ((fL λk' hk=>hr k' (by simp[hk])).trans hys) hsz;obtain⟨i,z,hu,hi,hzz,e1,e2,e3⟩:=wX hP hT hd he;have hlen:(xs++ys).length=xs.length+ys.length:=by simp
  have hdr:∃bd cp,a.eval s= .slice bd xs.length cp/\xs.length<=cp/\((∃b,bd=some ⟨b,0,none⟩/\(b,xs.length)∈β k/\cp*sz=wG w b)∨(xs=[]/\cp=0)):=by
    generalize a.eval s=cs at h1;generalize hL:xs.length=L at h1
    cases h1 with
    |fz _ _ hf=>cases hf
    |dref _ _ _ _ hd _=>rw[hk']at hd;cases hd
    |ref0 _ _ _ _ _ bd _ _=>exact⟨bd,0,rfl,zX7 _,.inr ⟨zYz hL,rfl⟩⟩
    | ref _ _ _ sz' xs' st' b n cp hk'' hb hn hc hs'=>
      have h3:=hk'';rw[hk']at h3;cases h3;subst hL
      have hnx:n=xs.length:=by
        cases hbk:β k with
        |nil=>rw[hbk]at hb;simp at hb
        | cons q rr=>
          obtain⟨b0,n0⟩:=q;obtain⟨e1,_,e3⟩:=g5 b0 n0 rr hbk;rw[hbk]at hb;simp at hb
          rcases hb with⟨_,rfl⟩|hb
          · exact e1
          · have:=e3 b n hb;omega
      subst hnx;exact⟨_,cp,by rw[yB5],hc,.inl ⟨b,rfl,hb,by rwa [zZm]at hs'⟩⟩
  obtain⟨bd,cp,hcs,hcp,hdr⟩:=hdr
  have hop:∀{v w'},(Builtin.append_ #[T,T] y0 #[a.eval s,a.eval x]).run P w= .ok v w'->(execOp a.eval ⟨d0,.call ⟨.builtin .append, #[s,x], #[T,T]⟩,y0,p0,f0,g0⟩).run P w= .ok (.value v) w':=λhv=>by
    simp[execOp,resolve,invoke,builtin,hv]
  rw[hlen];by_cases hnil:ys=[]
  ·
    subst hnil;rw[hop (by rw[hcs,hc];exact hG hP hT hd he w y0 bd ad xs.length cp cap hcp)]
    have G:=xK.step (w':=w) HH k (.arr sz (xs++[]) ⟨st',ne⟩) (β k) (zX7 _) (λ_ _ _=>rfl) Z Z Z (λb n hm=> .inl ⟨n,hm⟩) (λ_ _ _=>rfl) (λe he=>by rw[hk']at he;cases he;exact .inr ⟨⟨_,_,rfl,by simp⟩,λ_ n hm=>⟨n,zX7 _,hm⟩⟩)
      (λE=>⟨g1,by simpa using g2,λh=>by rw[zZ];exact g3 TJ,λi y hy=>g4 i y (by simpa using hy),λb n r hr=>by
        rw[zZ]at hr;obtain⟨q1,_,q3⟩:=g5 b n r hr
        exact⟨by simpa using q1,λh b' n' hm=>by have:=q3 b' n' hm;rw[hst h]at this;simp at this,by simpa using q3⟩,fs,λi y j v hy hv=>⟨(g6.toV i y j v (by simpa using hy) hv).evo E,λhn=>(g6.toF (hsl hn) i y j v (by simpa using hy) hv).evo E.size E.fz⟩,λi j hi hj=>g7 i j LY hj,λb n hm=>by rw[zZ]at hm;exact g8 b n hm⟩)
    exact⟨_,G,(hcs▸h1:yB w (xO X β) h β (.ref k 0 xs.length) (.slice bd xs.length cp)).evo G.evo⟩
  · obtain ⟨b2, q,f,rfl,hS⟩:=hsrc hnil
    have hpos:0<ys.length:=by cases ys with|nil=>exact absurd Z hnil|cons _ _=>simp
    obtain⟨hf1,hf2⟩:=hS.flat g1
    have hbk:β k=[]∨∃b0 rr,β k=(b0,xs.length)::rr:=by
      cases hbk:β k with
      |nil=>exact .inl Z
      |cons q rr=>obtain⟨b0,n0⟩:=q;obtain⟨q1,_⟩:=g5 b0 n0 rr hbk;exact .inr ⟨b0,rr,by rw[q1]⟩
    let f':Nat->Nat->Value:=λi j=>if i<xs.length then fs i j else f (i-xs.length) j
    have hat:∀(i:Nat) y,(xs++ys)[i]? =some y->(i<xs.length/\xs[i]? =some y)∨(¬i<xs.length/\ys[i-xs.length]? =some y):=λi y hy=>by
      by_cases hi:i<xs.length
      · rw[zY0 hi]at hy;exact .inl ⟨hi,hy⟩
      · rw[zYt (by omega)]at hy;exact .inr ⟨hi,hy⟩
    have hwide:∀(i:Nat) (y:AV),(xs++ys)[i]? =some y->y.cells.length=sz:=λi y hy=>by
      rcases hat i y hy with⟨_,h⟩|⟨_,h⟩
      · exact g4 i y h
      · exact hS.wide _ y h
    have hone:∀i j,i<(xs++ys).length->j<sz->(f' i j).oneCell'=true:=λi j hi hj=>by
      simp only[f'];split
      · exact g7 i j ‹_› hj
      · exact hS.one _ _ (by rw[hlen]at hi;omega) hj
    have hrep:∀{w':World} {D':Nat->Prop} {h':yJ} {β':uW},GM w (xO X β) h β w' D' h' β'->gD w' D' h' β' ne (xs++ys) f':=λE i y j v hy hv=>by
      simp only[f']
      rcases hat i y hy with⟨hi,h⟩|⟨hi,h⟩
      · rw[zX3 hi];exact⟨(g6.toV i y j v h hv).evo E,λhn=>(g6.toF (hsl hn) i y j v h hv).evo E.size E.fz⟩
      · rw[zX2 hi];exact⟨(hS.rep.toV _ y j v h hv).evo E,λhn=>(hS.rep.toF hn _ y j v h hv).evo E.size E.fz⟩
    by_cases hroom:xs.length+ys.length<=cp
    ·
      rcases hdr with⟨b,rfl,hm,hbs⟩|⟨hx0,hc0⟩
      case inr=>omega
      obtain⟨cur,el,c1,c2,c3,c4⟩:=g8 b _ hm
      have hcb:cp*sz<=cur.size:=by
        have:wG w b=cur.size:=by unfold wG World.shape?;rw[c1];rfl
        omega
      have hfit:(xs.length+ys.length)*sz<=cur.size:=zY9 (zYo _ hroom) hcb
      have hrun:=bL hP hT hd he w y0 b 0 xs.length cp cur el c1 ⟨b2,q,none⟩ ys.length cap (flat f ys.length sz) (by rw[zQ,hss]) hf1 hf2 hroom (by
        rw[zQ,<-hss,zZm,<-zY8];exact hfit)
      rw[hop (by rw[hcs,hc];exact hrun)];generalize hcur':(cur.toList.take (0+xs.length*te.size)++flat f ys.length sz++cur.toList.drop (0+xs.length*te.size+(flat f ys.length sz).length)).toArray=cur'
      have hsz':cur'.size=cur.size:=by
        rw[<-hcur'];simp only[yA6,zX4,zYn,zYv,yA2,zQ,zZm,<-hss];rw[zY8]at hfit;omega
      have hone2:∀q,q<cur'.size->(cur'.getD q undef).oneCell'=true:=by
        rw[<-hcur'];refine qT.get (qT.arr λv hv=>?_);have hc4:=qT.of c4
        rcases zYy.1 hv with hv|hv
        · rcases zYy.1 hv with hv|hv
          · exact hc4 v (zZl hv)
          · exact hf2 v hv
        · exact hc4 v (zY1 hv)
      have hcell:∀i j,i<xs.length+ys.length->j<sz->cur'[i*sz+j]? =some (f' i j):=λi j hi hj=>by
        rw[<-hcur'];simp only[f',yAx,zZm,<-hss];rw[zY8]at hfit;by_cases hix:i<xs.length
        · have hlt:i*sz+j<xs.length*sz:=by
            have:=zYo sz (show i+1<=xs.length by omega);rw[zY8,zZ3]at this;omega
          rw[zX3 hix,zY0 xX,zY0 xX,zZi,zX3 hlt];simpa using c3 i j hix hj
        · have hge:xs.length*sz<=i*sz:=zYo _ (by omega);have e4:i*sz+j-xs.length*sz=(i-xs.length)*sz+j:=by rw[yC4];omega
          have hlt:(i-xs.length)*sz+j<ys.length*sz:=by
            have:=zYo sz (show(i-xs.length)+1<=ys.length by omega);rw[zY8,zZ3]at this;omega
          rw[zX2 hix,zY0 (by simp[zQ];omega),zYt xX];have e5:(List.take (xs.length*sz) cur.toList).length=xs.length*sz:=by simp;omega
          rw[e5,e4];exact kD f (by omega) hj
      obtain⟨b0,rr,hbk⟩:=hbk.resolve_left (λh0=>by rw[h0]at hm;simp at hm)
      have hb0:b0=b:=by
        rw[hbk]at hm;simp at hm
        rcases hm with rfl|hm
        · rfl
        · have:=(g5 b0 _ rr hbk).2.2 b _ hm;omega
      subst hb0
      have G := xK.step (w' := w.setRow b0 cur') HH k (.arr sz (xs++ys) ⟨st',ne⟩) ((b0,xs.length+ys.length)::rr) zW (λj hj hn=>setRow_other w b0 j cur' (λe=>hn xs.length DO)) Z Z Z
        (λb n hm=>by
          simp at hm
          rcases hm with⟨rfl,_⟩|hm
          · exact .inl ⟨xs.length,by rw[hbk];simp⟩
          · exact .inl ⟨n,by rw[hbk];simp[hm]⟩) (λb n _=>qO c1 hsz' b)
        (λe he=>by
          rw[hk']at he;cases he;refine .inr ⟨⟨_,_,rfl,by rw[hlen];omega⟩,λb n hm=>?_⟩;rw[hbk]at hm;simp at hm
          rcases hm with⟨rfl,rfl⟩|hm
          · exact⟨xs.length+ys.length,by omega,by simp⟩
          · exact⟨n,zX7 _,by simp[hm]⟩)
        (λE=>⟨g1,by rw[hlen];unfold cU;omega,λ_=>by rw[zZ];simp,hwide,λb n r hr=>by
          rw[zZ]at hr;simp at hr;obtain⟨⟨rfl,rfl⟩,rfl⟩:=hr
          exact⟨hlen.symm,λh b' n' hm=>by have:=(g5 b0 _ rr hbk).2.2 b' n' hm;rw[hst h]at this;simp at this,λb' n' hm=>by have:=(g5 b0 _ rr hbk).2.2 b' n' hm;rw[hlen];omega⟩,f',hrep E,hone,λb n hm=>by
          rw[zZ]at hm;simp at hm;by_cases hbb:b=b0
          · subst hbb
            have hnn:n<=xs.length+ys.length:=by
              rcases hm with⟨_,rfl⟩|hm
              · omega
              · have:=(g5 b _ rr hbk).2.2 b n hm;omega
            exact⟨cur',el,setRow_heap w _ _ _ _ _ c1,by rw[hsz'];exact zY9 (zYo _ hnn) hfit,λi j hi hj=>hcell i j (by omega) hj,hone2⟩
          · have hm : (b, n) ∈ rr := by rcases hm with⟨h,_⟩|hm;· exact absurd h hbb
                                        · exact hm
            obtain⟨c',el',d1,d2,d3,d4⟩:=g8 b n (by rw[hbk];simp[hm]);have hnn:=(g5 b0 _ rr hbk).2.2 b n hm
            exact⟨c',el',(setRow_other w b0 b cur' hbb).trans d1,d2,λi j hi hj=>by simp only[f'];rw[zX3 (by omega)];exact d3 i j hi hj,d4⟩⟩)
      refine⟨_,G,?_⟩
      have:=yB.ref (w:=w.setRow b0 cur') (D:=xO X (bD β k ((b0,xs.length+ys.length)::rr))) (h:=over [(k,.arr sz (xs++ys) ⟨st',ne⟩)] h) (β:=bD β k ((b0,xs.length+ys.length)::rr)) k 0 (xs.length+ys.length) sz (xs++ys) ⟨st',ne⟩ b0 (xs.length+ys.length) cp (kC _ _ _)
        (by rw[zZ];simp) (by omega) hroom (by rw[qO c1 hsz',zZm];exact hbs)
      rwa [yB5]at this
    ·
      have hbytes:(xs.length+ys.length)*i.bytes<=140737488355328:=by
        have:=yAz hn (show i.bytes<=65536 by omega);omega
      have hge:=grownCap_ge w (xs.length+ys.length) cp e;have hzs:z.cells.size=te.zero.length:=by rw[<-e3];simp
      have hgrow:∃olds:List Value,(∀u∈olds,u.oneCell'=true)/\olds.length=xs.length*sz/\(∀i j,i<xs.length->j<sz->olds[i*sz+j]? =some (fs i j))/\
          (Builtin.append_ #[T,T] y0 #[.slice bd xs.length cp,.slice (some ⟨b2,q,none⟩) ys.length cap]).run P w= .ok (.slice (some ⟨w.heap.size,0,none⟩) (xs.length+ys.length) (grownCap w (xs.length+ys.length) cp e))
            (w.drew.alloc (.cells (olds.toArray++(flat f ys.length sz).toArray++Builtin.zeroCells z.cells (grownCap w (xs.length+ys.length) cp e-(xs.length+ys.length))) e)):=by
        rcases hdr with⟨b,rfl,hm,_⟩|⟨rfl,rfl⟩
        · obtain⟨cur,el,c1,c2,c3,_⟩:=g8 b _ hm;have hS0:Src w (xO X β) h β ne xs sz b 0 fs:=⟨g4,λi j hi hj=>by rw[uX c1,zZm];exact c3 i j hi hj,g7,λi x j v hx hv=>⟨g6.toV i x j v hx hv,λhn=>g6.toF (hsl hn) i x j v hx hv⟩⟩;obtain⟨q1,q2⟩:=hS0.flat g1;exact⟨flat fs xs.length sz,q2,zQ _ _ _,λi j hi hj=>kD fs hi hj,run_append_grow (P:=P) w T y0 e i z hu hi hzz ⟨b,0,none⟩ xs.length cp (flat fs xs.length sz) (by rw[zQ,hss,e1]) q1 ⟨b2,q,none⟩ ys.length cap (flat f ys.length sz) (by rw[zQ,hss,e1]) hf1 (by omega) (by omega) (growslice_fits (by omega) hbytes)⟩
        · refine⟨[],(λu hu=>by simp at hu),by simp,λi j hi _=>by simp at hi,?_⟩
          cases bd with
          | none=>
            have:=run_append_nil (P:=P) w T y0 e i z hu hi hzz ⟨b2,q,none⟩ ys.length cap (flat f ys.length sz) (by rw[zQ,hss,e1]) hf1 hpos (by omega) (by simp only[zZc,zZm]at hbytes;omega);simpa using this
          | some ad=>
            have:=run_append_grow (P:=P) w T y0 e i z hu hi hzz ad 0 0 [] zW zW ⟨b2,q,none⟩ ys.length cap (flat f ys.length sz) (by rw[zQ,hss,e1]) hf1 (by omega) (by omega) (growslice_fits (by omega) (by simpa using hbytes));simpa using this
      obtain⟨olds,ho0,ho1,ho2,hrun⟩:=hgrow;rw[hop (by rw[hcs,hc];exact hrun)];generalize hgc:grownCap w (xs.length+ys.length) cp e=gc at *;generalize hcur':olds.toArray++(flat f ys.length sz).toArray++Builtin.zeroCells z.cells (gc-(xs.length+ys.length))=cur'
      have hone2:∀q,q<cur'.size->(cur'.getD q undef).oneCell'=true:=by
        rw[<-hcur'];exact qT.get (((qT.arr ho0).app (qT.arr hf2)).app (qT.zero (λv hv=>zYi.1 hz1 v OX) _))
      have hsz':cur'.size=gc*sz:=by
        rw[<-hcur'];simp only[yC2,yA6,zQ,size_zeroCells,hzs,hz,<-hss,ho1,<-zY8]
        congr 1
        omega
      have hcell:∀i j,i<xs.length+ys.length->j<sz->cur'[i*sz+j]? =some (f' i j):=λi j hi hj=>by
        have hlt:i*sz+j<(xs.length+ys.length)*sz:=by
          have:=zYo sz (show i+1<=xs.length+ys.length by omega);rw[zY8,zZ3]at this;omega
        rw[zY8]at hlt;rw[<-hcur',zZ9 (by simp[zQ,ho1];omega)];simp only[f'];by_cases hix:i<xs.length
        · have hlt:i*sz+j<xs.length*sz:=by
            have:=zYo sz (show i+1<=xs.length by omega);rw[zY8,zZ3]at this;omega
          rw[zX3 hix,zZ9 (by simp[ho1];omega)];simpa using ho2 i j hix hj
        · have hge:xs.length*sz<=i*sz:=zYo _ (by omega);have e4:i*sz+j-xs.length*sz=(i-xs.length)*sz+j:=by rw[yC4];omega
          rw[zX2 hix,yB3 (by simp[ho1];omega)];simp only[yA6,ho1,e4,yAx];exact kD f (by omega) hj
      have HD:=HH.drew (w.drawn+1);have dr:∀{w':World} {D':Nat->Prop} {h':yJ} {β':uW},GM w.drew (xO X β) h β w' D' h' β'->GM w (xO X β) h β w' D' h' β':=λE=>⟨E.size,E.fz,E.bs,E.key⟩
      have hgt:=grownCap_ge w (xs.length+ys.length) cp e;have hone':=hone
      have G := xK.step (w:=w.drew) (w':=w.drew.alloc (.cells cur' e)) HD k (.arr sz (xs++ys) ⟨st',ne⟩) ((w.heap.size,xs.length+ys.length)::β k) zW (λj hj _=>heap_alloc_old w.drew _ j hj) Z Z Z
        (λb n hm=>by
          simp at hm
          rcases hm with⟨rfl,_⟩|hm
          · exact .inr zW
          · exact .inl ⟨n,hm⟩) (λb n hm=>by
          unfold wG World.shape?
          rw[heap_alloc_old w.drew _ b (HH.lt b (.inr ⟨k,n,hm⟩))])
        (λe he=>by
          rw[hk']at he;cases he
          exact .inr ⟨⟨_,_,rfl,by rw[hlen];omega⟩,λb n hm=>⟨n,zX7 _,by simp[hm]⟩⟩)
        (λE=>⟨g1,by rw[hlen];unfold cU;omega,λ_=>by rw[zZ];simp,hwide,λb n r hr=>by
          rw[zZ]at hr;simp at hr;obtain⟨⟨rfl,rfl⟩,rfl⟩:=hr;refine⟨hlen.symm,λh b' n' hm=>?_,λb' n' hm=>?_⟩
          · have hx0:xs.length=0:=by rw[hst h];rfl
            rcases hbk with h0|⟨b0,rr,h0⟩
            · rw[h0]at hm;simp at hm
            · rw[h0]at hm;simp at hm
              rcases hm with⟨_,rfl⟩|hm
              · exact hx0
              · have:=(g5 b0 _ rr h0).2.2 b' n' hm;omega
          rw[hlen]
          rcases hbk with h0|⟨b0,rr,h0⟩
          · rw[h0]at hm;simp at hm
          · rw[h0]at hm;simp at hm
            rcases hm with⟨_,rfl⟩|hm
            · omega
            · have:=(g5 b0 _ rr h0).2.2 b' n' hm;omega,f',hrep (w':=w.drew.alloc (.cells cur' e)) (dr E),hone',λb n hm=>by
          rw[zZ]at hm;simp at hm
          rcases hm with⟨rfl,rfl⟩|hm
          · exact⟨cur',e,heap_alloc_new w.drew _,by rw[hsz'];exact zYo _ (by omega),λi j hi hj=>hcell i j hi hj,hone2⟩
          · obtain⟨c',el',d1,d2,d3,d4⟩:=g8 b n hm
            have hnn:n<=xs.length:=by
              rcases hbk with h0|⟨b0,rr,h0⟩
              · rw[h0]at hm;simp at hm
              · rw[h0]at hm;simp at hm
                rcases hm with⟨_,rfl⟩|hm
                · omega
                · exact yC0 ((g5 b0 _ rr h0).2.2 b n hm)
            exact⟨c',el',(heap_alloc_old w.drew _ b (HH.lt b (.inr ⟨k,n,hm⟩))).trans d1,d2,λi j hi hj=>by simp only[f'];rw[zX3 (by omega)];exact d3 i j hi hj,d4⟩⟩)
      refine⟨_,xK.trans HH (xK.drew HH (w.drawn+1)) G,?_⟩
      have:=yB.ref (w:=w.drew.alloc (.cells cur' e)) (D:=xO X (bD β k ((w.heap.size,xs.length+ys.length)::β k))) (h:=over [(k,.arr sz (xs++ys) ⟨st',ne⟩)] h) (β:=bD β k ((w.heap.size,xs.length+ys.length)::β k)) k 0 (xs.length+ys.length) sz (xs++ys) ⟨st',ne⟩ w.heap.size (xs.length+ys.length) gc (kC _ _ _)
        (by rw[zZ];simp) (by omega) (by omega) (by
          have:wG (w.drew.alloc (.cells cur' e)) w.heap.size=cur'.size:=by
            unfold wG World.shape?;rw[show(w.drew.alloc (.cells cur' e)).heap[w.heap.size]? =_ from heap_alloc_new w.drew _];rfl
          rw[this,hsz',zZm])
      rwa [yB5]at this
def OZ (hP:uZ P TT) {T e:Nat} {s x:Operand} {ti te:TI} {k sz:Nat} {xs:List AV} {sb:Bool} {xv:AV} {ys:List AV} (hs:yM (zG st.tm) s= .ref k 0 xs.length) (hk:zC st.h k=some (.arr sz xs ⟨sb,false⟩)) (hx:yM (zG st.tm) x=xv) (hT:TT[T]? =some ti) (hd:ti.d= .slice e) (he:TT[e]? =some te)
  (hys:DY (zC st.h) xv=some ys) (hsz:∀y,ys[0]? =some y->y.cells.length=sz) (hss:Nat.beq sz te.size=true) (hb:Nat.ble te.bytes 65536=true) (hz:Nat.beq te.zero.length te.size=true) (hz1:te.zero.all (·.oneCell')=true) (hn:xs.length+ys.length<=1073741824):
  wV P st (.call ⟨.builtin .append, #[s,x], #[T,T]⟩) (.ref k 0 (xs++ys).length) [(k,.arr sz (xs++ys) true)] (k::PH xv) []:=
 uR true false hP hs hk hx hT hd he (λ_=>rfl) hys hsz hss hb hz hz1 hn (λh=>by cases h)
def QN (hP:uZ P TT) {T e:Nat} {s x:Operand} {ti te:TI} {k sz:Nat} {xs:List AV} {sl:Fl} {xv:AV} {ys:List AV} (hs:yM (zG st.tm) s= .ref k 0 xs.length) (hk:zC st.h k=some (.arr sz xs sl)) (hx:yM (zG st.tm) x=xv) (hT:TT[T]? =some ti) (hd:ti.d= .slice e) (he:TT[e]? =some te)
  (hys:TP true (zC st.h) xv=some ys) (hsz:∀y,ys[0]? =some y->y.cells.length=sz) (hss:Nat.beq sz te.size=true) (hb:Nat.ble te.bytes 65536=true) (hz:Nat.beq te.zero.length te.size=true) (hz1:te.zero.all (·.oneCell')=true) (hn:xs.length+ys.length<=1073741824):
  wV P st (.call ⟨.builtin .append, #[s,x], #[T,T]⟩) (.ref k 0 (xs++ys).length) [(k,.arr sz (xs++ys) ⟨true,true⟩)] (k::PH xv) []:=
 uR true true hP hs hk hx hT hd he (λh=>by cases h) hys hsz hss hb hz hz1 hn (λh=>by cases h)
end ops
end
section
def NA (places:Nat->Option (Nat×Nat)):List AV->List (Nat×AV)->Option (List AV)
 |cells,[]=>some cells
 |cells,(i,v)::rest=>match places i with
  |none=>none
  |some (off,size)=>bif Nat.beq v.cells.length size&&(Nat.ble (off+size) cells.length&&v.ok)then NA places (TM cells off v.cells) rest else none
theorem NB {w:World} {D:Nat->Prop} {h:yJ} {β:uW} (places:Nat->Option (Nat×Nat)):∀(parts:List (Nat×AV)) (parts':List (Nat×Value)) (cs:List AV) (c:Array Value) (cs':List AV),NA places cs parts=some cs'->
  parts'.length=parts.length->(∀(j:Nat) p p',parts[j]? =some p->parts'[j]? =some p'->p'.1=p.1/\yB w D h β p.2 p'.2)->
  c.size=cs.length->(∀i,i<c.size->(c.getD i undef).oneCell'=true)->(∀(i:Nat) u,cs[i]? =some u->yB w D h β u (c.getD i undef))->
  ∃c',Instr.fill places c parts'=some c'/\c'.size=cs'.length/\(∀i,i<c'.size->(c'.getD i undef).oneCell'=true)/\∀(i:Nat) u,cs'[i]? =some u->yB w D h β u (c'.getD i undef)
 | [],parts',cs,c,cs',hf,hl,_,h1,h2,h3=>by
  obtain rfl:parts'=[]:=zYz DL;cases hf;exact⟨c,rfl,h1,h2,h3⟩
 | (i, v)::rest,parts',cs,c,cs',hf,hl,hp,h1,h2,h3=>by
  cases parts' with
  |nil=>simp at hl
  | cons p' rest'=>
   obtain⟨e1,e2⟩:=hp 0 (i,v) p' Z Z;obtain⟨i',v'⟩:=p';dsimp only at e1 e2;subst e1;unfold NA at hf
   cases hpl:places i' with
   |none=>simp[hpl]at hf
   | some q=>
    obtain⟨off,size⟩:=q;simp only[hpl]at hf
    cases hc:Nat.beq v.cells.length size&&(Nat.ble (off+size) cs.length&&v.ok)with
    |false=>simp[hc]at hf
    | true=>
     simp only[hc,zZo]at hf;simp only[zYg]at hc;have q1:=zY2 hc.1;have q2:=zYm hc.2.1;obtain⟨r1,r2,r3⟩:=e2.cells hc.2.2;obtain⟨s1,s2⟩:=Great.foldl_set off v'.cells.toList 0 c
     have hfold:v'.cells.zipIdx.foldl (λcs (x:Value×Nat)=>cs.setIfInBounds (off+x.2) x.1) c=(v'.cells.toList.zipIdx 0).foldl (λcs (x:Value×Nat)=>cs.setIfInBounds (off+x.2) x.1) c:=by
      rw[<-Array.foldl_toList,Array.toList_zipIdx]
     generalize hc2:(v'.cells.toList.zipIdx 0).foldl (λcs (x:Value×Nat)=>cs.setIfInBounds (off+x.2) x.1) c=c2 at*
     have hat:∀k,c2.getD k undef=if off<=k/\k<off+size then v'.cells.getD (k-off) undef else c.getD k undef:=λk=>by
      have hk:=s2 k;simp only[yBa,yA2]at hk;by_cases hin:off<=k/\k<off+size
      ·rw[zX3 hin];rw[zX3 (by omega)]at hk;apply gV;rw[hk];have:=kW v'.cells (k-off) (by omega);simpa using this
      ·rw[zX2 hin];rw[zX2 (by omega)]at hk;simp[zY7,hk]
     obtain⟨c',t1,t2,t3,t4⟩:=NB places rest rest' (TM cs off v.cells) c2 cs' hf DL (λj p p' hj hj'=>hp (j+1) p p' (by simpa using hj) (by simpa using hj'))
      (by rw[s1,bE];exact h1) (λk hk=>by
       rw[hat];split
       ·exact r2 _ (by omega)
       ·exact h2 k (by omega)) (λk u hu=>by
       rw[XF _ _ _ _ (by omega),q1]at hu;rw[hat];split
       ·rename_i hin;rw[zX3 hin]at hu;exact r3 _ u hu
       ·rename_i hin;rw[zX2 hin]at hu
        exact h3 k u hu)
     refine⟨c',?_,t2,t3,t4⟩;unfold Instr.fill;simp only[hpl];rw[zX2 xX,hfold];exact t1
def zAx (TT:List TI):List (Nat×Nat)->Option (List (Nat×Nat))
 | []=>some []
 |(o,t)::r=>match TT[t]?,zAx TT r with
  |some ti,some l=>some ((o,ti.size)::l)
  |_,_=>none
theorem DZ {P:Program} {TT:List TI} (hP:uZ P TT):∀(fs:List Field) (l:List (Nat×Nat)),zAx TT (fs.map λf=>(f.offset,f.type))=some l->fs.mapM (λf=>(P.info? f.type).map λi=>(f.offset,i.size))=some l
 | [],l,h=>by simp[zAx]at h;simp[h]
 | f::fs,l,h=>by
  simp only[zZj,zAx]at h
  cases ht:TT[f.type]? with
  |none=>simp[ht]at h
  | some ti=>
   cases hr:zAx TT (fs.map λf=>(f.offset,f.type))with
   |none=>simp[ht,hr]at h
   |some l'=>
    simp[ht,hr]at h;subst h;obtain⟨i,_,_,hi,_,_,_,hs,_⟩:=uM (hP _ _ ht);simp[yDz,hi,DZ hP fs l' hr,hs]
section ops
variable {P:Program} {TT:List TI} {st:St}
def aX (st:St) (ps:Array (Nat×Operand)):List (Nat×AV):=ps.toList.map λp=>(p.1,yM (zG st.tm) p.2)
def CA {w:World} {D:Nat->Prop} {h:yJ} {β:uW} {op:Op} {tm:Nat->AV} {a:Act} (H:∀t,yB w D h β (tm t) (a.eval (.tmp t))) (hg:∀t,t∈eV op->tm t=zG st.tm t) {ps:Array (Nat×Operand)} (hps:∀p∈ps.toList,p.2∈op.operands)
  (j:Nat) (p:Nat×AV) (p':Nat×Value) (h1:(aX st ps)[j]? =some p) (h2:(ps.map λx=>(x.1,a.eval x.2)).toList[j]? =some p'):p'.1=p.1/\yB w D h β p.2 p'.2:=by
 simp only[aX,zX8,zYf]at h1;obtain⟨q,hq,rfl⟩:=h1;simp only[yC5,zX8,hq,Option.map_some,zZh]at h2;subst h2;exact⟨rfl,gU H hg (hps q (zZk hq)) Z⟩
def CB {w:World} {D:Nat->Prop} {h:yJ} {β:uW} (z:Value) (zs:List Value) (hz:z.cells.toList=zs) (h1:zs.all (·.oneCell')=true):
  z.cells.size=(zs.map AV.s).length/\(∀i,i<z.cells.size->(z.cells.getD i undef).oneCell'=true)/\∀(i:Nat) u,(zs.map AV.s)[i]? =some u->yB w D h β u (z.cells.getD i undef):=by
 subst hz;refine⟨by simp,λi hi=>zYi.1 h1 _ (zZk (by simpa using kW _ i hi)),λi u hu=>?_⟩;simp only[zX8,zYf]at hu;obtain⟨v,hv,rfl⟩:=hu;rw[gV DN];exact .fz _ _ (.s _)
def zEz (hP:uZ P TT) {T:Nat} {ps:Array (Nat×Operand)} {ti:TI} {fs pl:List (Nat×Nat)} {cs:List AV} (hT:TT[T]? =some ti) (hd:ti.d= .str fs) (h1:ti.zero.all (·.oneCell')=true) (hpl:zAx TT fs=some pl)
  (hf:NA (pl[·]?) (ti.zero.map .s) (aX st ps)=some cs):wV P st (.build T ps) (.agg cs) [] [] []:=
 yO λoo X tm h w β a ho hg hr HH Ht=>by
  obtain⟨d0,o0,y0,p0,f0,g0⟩:=oo;dsimp only at ho;subst ho;obtain⟨i,u,z,hi,hu,hz,hd',_,_,hzz⟩:=uM (hP _ _ hT);obtain⟨fields,rfl,hm⟩:=zJx (hd'.symm.trans hd);have hpl':=DZ hP fields.toList pl (by rw[hm];exact hpl);obtain⟨z1,z2,z3⟩:=CB (w:=w) (D:=xO X β) (h:=h) (β:=β) z ti.zero hzz.symm h1
  obtain⟨c',f1,f2,f3,f4⟩:=NB (w:=w) (D:=xO X β) (h:=h) (β:=β) (pl[·]?) (aX st ps) (ps.map λx=>(x.1,a.eval x.2)).toList _ _ cs hf (by simp[aX]) (CA (op:= .build T ps) Ht hg λp hp=>by
   simp only[Op.operands,yDs]
   exact zZn.2 ⟨p,hp,rfl⟩) z1 z2 z3
  have hb:P.built T (ps.map λx=>(x.1,a.eval x.2)).toList=some c':=by
   simp only[Program.built,hi,hu,hz,hpl'];simpa using f1
  exact⟨_,by simp only[execOp,Sem.run_bind,run_build w T _ c' hb,Result.andThen_ok,Sem.run_pure],.agg _ _ f2 f3 f4⟩
def MX (hP:uZ P TT) {T n e:Nat} {ps:Array (Nat×Operand)} {ti te:TI} {cs:List AV} (hT:TT[T]? =some ti) (hd:ti.d= .arr n e) (he:TT[e]? =some te) (h1:ti.zero.all (·.oneCell')=true)
  (hf:NA (λi=>some (i*te.size,te.size)) (ti.zero.map .s) (aX st ps)=some cs):wV P st (.build T ps) (.agg cs) [] [] []:=
 yO λoo X tm h w β a ho hg hr HH Ht=>by
  obtain⟨d0,o0,y0,p0,f0,g0⟩:=oo;dsimp only at ho;subst ho;obtain⟨i,u,z,hi,hu,hz,hd',_,_,hzz⟩:=uM (hP _ _ hT);obtain rfl:=zAs (hd'.symm.trans hd);obtain⟨ie,_,_,hie,_,_,_,hse,_,_⟩:=uM (hP _ _ he);obtain⟨z1,z2,z3⟩:=CB (w:=w) (D:=xO X β) (h:=h) (β:=β) z ti.zero hzz.symm h1
  obtain⟨c',f1,f2,f3,f4⟩:=NB (w:=w) (D:=xO X β) (h:=h) (β:=β) (λi=>some (i*te.size,te.size)) (aX st ps) (ps.map λx=>(x.1,a.eval x.2)).toList _ _ cs hf (by simp[aX]) (CA (op:= .build T ps) Ht hg λp hp=>by
   simp only[Op.operands,yDs]
   exact zZn.2 ⟨p,hp,rfl⟩) z1 z2 z3
  have hb:P.built T (ps.map λx=>(x.1,a.eval x.2)).toList=some c':=by
   simp only[Program.built,hi,hu,hz,hie,<-hse];exact f1
  exact⟨_,by simp only[execOp,Sem.run_bind,run_build w T _ c' hb,Result.andThen_ok,Sem.run_pure],.agg _ _ f2 f3 f4⟩
theorem NC (ne:Bool) (hP:uZ P TT) {T e len:Nat} {ps:Array (Nat×Operand)} {ti te:TI} {xs:List AV} (hT:TT[T]? =some ti) (hd:ti.d= .slice e) (he:TT[e]? =some te) (hp:Nat.ble 1 te.size=true) (hps:aX st ps=(xs.zipIdx 0).map λx=>(x.2,x.1)) (hl:Nat.beq xs.length len=true)
  (hw:xs.all (λx=>Nat.beq x.cells.length te.size&&(x.ok&&(ne||x.nokey)))=true) (hb:Nat.ble (len*te.size) 65536=true) (hzl:Nat.beq te.zero.length te.size=true):
  ∀ (o:Oper) (X:Nat->Prop) (tm:Nat->AV) (h:yJ) (w:World) (β:uW) (a:Act),o.op= .buildSlice T len ps->(∀t,t∈eV (.buildSlice T len ps)->tm t=zG st.tm t)->(∀t,yB w (xO X β) h β (tm t) (a.eval (.tmp t)))->
   ∃(C:Array Value) (f:Nat->Nat->Value),(execOp a.eval o).run P w= .ok (.value (.slice (some ⟨w.heap.size,0,none⟩) xs.length xs.length)) (w.alloc (.cells C e))/\C.size=xs.length*te.size/\xs.length<=cU/\xs.length=len/\
    (∀(i:Nat) (x:AV),xs[i]? =some x->x.cells.length=te.size)/\(∀i j,i<xs.length->j<te.size->C[i*te.size+j]? =some (f i j))/\(∀i j,i<xs.length->j<te.size->(f i j).oneCell'=true)/\
    gD w (xO X β) h β ne xs f:=by
 intro o X tm h w β a ho hg Ht;obtain⟨d0,o0,y0,p0,f0,g0⟩:=o;dsimp only at ho;subst ho;have hp:=zYm hp;have hl:=zY2 hl;have hb:=zYm hb;have hzl:=zY2 hzl;subst hl;obtain⟨i,z,hu,hi,hz,e1,e2,e3⟩:=wX hP hT hd he
 have hxs:∀(j:Nat) (x:AV),xs[j]? =some x->x.cells.length=te.size/\x.ok=true/\(ne||x.nokey)=true:=λj x hx=>by
  have:=zYi.1 hw x (zZk hx);simp only[zYg]at this;exact⟨zY2 this.1,this.2⟩
 have hlen:ps.toList.length=xs.length:=by
  have:=zY3 List.length hps;simpa [aX]using this
 let vs:List Value:=ps.toList.map λp=>a.eval p.2
 have hvl:vs.length=xs.length:=by simp[vs];simpa using hlen
 have hpx:∀(j:Nat) (x:AV),xs[j]? =some x->∃p,ps.toList[j]? =some p/\p.1=j/\yM (zG st.tm) p.2=x:=λj x hx=>by
  have hj:=zY3 (·[j]?) hps;simp only[aX,zX8,yCn,hx,Option.map_some,zZm]at hj
  cases hpj:ps.toList[j]? with
  |none=>simp[hpj]at hj
  |some p=>
   simp only[hpj,Option.map_some,zZh,zZ2]at hj;exact⟨p,rfl,hj.1,hj.2⟩
 have hvs:∀(j:Nat) (x:AV),xs[j]? =some x->∃v,vs[j]? =some v/\yB w (xO X β) h β x v:=λj x hx=>by
  obtain⟨p,hp1,_,hp3⟩:=hpx j x hx;refine⟨a.eval p.2,by simp only[vs,zX8,hp1,Option.map_some],gU (op:= .buildSlice T xs.length ps) Ht hg ?_ hp3⟩;simp only[Op.operands,yDs];exact zZn.2 ⟨p,zZk hp1,rfl⟩
 have hpe:(ps.map λx=>(x.1,a.eval x.2)).toList=(vs.zipIdx 0).map λx=>(x.2,x.1):=by
  apply zZf;intro j;simp only[yC5,zX8,yCn,vs,zZm];by_cases hj:j<xs.length
  ·obtain⟨p,hp1,hp2,_⟩:=hpx j xs[j] (by simp[hj]);simp[hp1,hp2]
  ·have:ps.toList[j]? =none:=zYx (by omega);simp[this]
 have hvc:∀v∈vs,v.cells.size=te.size:=λv hv=>by
  obtain⟨j,hj⟩:=yBx hv;have hjx:j<xs.length:=by rw[<-hvl];exact(zYu.1 hj).1
  obtain⟨v',h1,h2⟩:=hvs j xs[j] (by simp[hjx]);rw[hj]at h1;cases h1;obtain⟨q1,q2,_⟩:=hxs j xs[j] (by simp[hjx]);rw[(h2.cells q2).1,q1]
 have hzs:z.cells.size=te.size:=by rw[<-hzl,<-e3];simp
 have hfill:=Great.fill_whole (s:=te.size) (by omega) vs ((Array.range (xs.length*te.size)).map (z.cells[· % z.cells.size]!)) hvc (by simp[hvl]);have hflat:=Great.flat_get (s:=te.size) (by omega) vs hvc;generalize hC:(vs.flatMap λv=>v.cells.toList).toArray=C at hfill
 have hCs:C.size=xs.length*te.size:=by
  rw[<-hC]
  have:∀l:List Value,(∀v∈l,v.cells.size=te.size)->(l.flatMap λv=>v.cells.toList).length=l.length*te.size:=by
   intro l
   induction l with
   |nil=>simp
   |cons v l ih=>
    intro hv;rw[List.flatMap_cons,zX4,ih λu hu=>hv u (by simp[hu])];have:=hv v zW;simp only[yA2,this,zYh,zY8,zZ3];omega
  simpa [hvl]using this vs hvc
 have hrun:(execOp a.eval ⟨d0,.buildSlice T xs.length ps,y0,p0,f0,g0⟩).run P w= .ok (.value (.slice (some ⟨w.heap.size,0,none⟩) xs.length xs.length)) (w.alloc (.cells C e)):=by
  have h24:¬xs.length*te.size>2 ^ 24:=by omega
  have hs:=qA (hP _ _ he) w;simp only[execOp,Instr.buildSlice,Sem.run_bind,DQ w hu,Result.andThen_ok,hs];by_cases h0:xs.length*te.size=0
  ·have hx0:xs=[]:=by
    rcases Nat.mul_eq_zero.1 h0 with h|h
    ·exact zYz h
    ·omega
   subst hx0
   have hps0:ps= #[]:=by
    have:ps.toList.length=0:=by simpa using hlen
    exact Array.eq_empty_of_size_eq_zero zC9
   subst hps0;have hC0:C= #[]:=by simpa using hCs
   subst hC0;simp[Instr.fill,newRow,Array.range_zero']
  ·have hpe':(ps.map λx=>(x.1,a.eval x.2)).toList=(vs.zipIdx 0).map λx=>(x.2,x.1):=hpe
   simp only[zX2 h24,Sem.run_pure,Result.andThen_ok,zX2 h0,Sem.run_bind,zeroValue,typeInfo,run_program,hi,hz,hpe'];rw[hfill];simp[newRow]
 have hcells:∀(j:Nat) (x:AV),xs[j]? =some x->∃v,vs[j]? =some v/\v.cells.size=te.size/\(∀q,q<te.size->C[j*te.size+q]? =some (v.cells.getD q undef))/\(∀q,q<te.size->(v.cells.getD q undef).oneCell'=true)/\
   ∀(q:Nat) u,x.cells[q]? =some u->yB w (xO X β) h β u (v.cells.getD q undef)/\(ne=false->xE w (xO X β) u (v.cells.getD q undef)):=λj x hx=>by
  obtain⟨v,h1,h2⟩:=hvs j x hx;obtain⟨q1,q2,q3⟩:=hxs j x hx;obtain⟨r1,r2,r3⟩:=h2.cells q2;refine⟨v,h1,by omega,λq hq=>?_,λq hq=>r2 q (by omega),λq u hu=>⟨r3 q u hu,λhn=>(r3 q u hu).toF ?_⟩⟩
  ·have hd':(j*te.size+q)/te.size=j:=Nat.div_eq_of_lt_le (by omega) (by rw[zY8,zZ3];omega);have hm':(j*te.size+q) % te.size=q:=by rw[yCm,yCv];exact yAs hq
   have:=hflat (j*te.size+q);rw[hd',hm',h1]at this;rw[<-hC];simp only[yAx,this,Option.bind_some];exact kW _ _ (by omega)
  ·rw[hn,yA7]at q3
   cases x<;>first
    |(simp[AV.cells]at hu;cases q<;>simp at hu;subst hu;exact q3)
    |(exact jL (by simpa [AV.nokey,AV.cells]using q3) hu)
 refine⟨C,λj q=>(vs.getD j undef).cells.getD q undef,hrun,hCs,?_,rfl,λj x hx=>(hxs j x hx).1,?_,?_,?_⟩
 ·have:xs.length*1<=xs.length*te.size:=Nat.mul_le_mul_left _ hp;unfold cU;omega
 ·intro j q hj hq;obtain⟨v,h1,_,h3,_⟩:=hcells j xs[j] (by simp[hj]);have:vs.getD j undef=v:=by simp[List.getD,h1]
  dsimp only;rw[this];exact h3 q hq
 ·intro j q hj hq;obtain⟨v,h1,_,_,h4,_⟩:=hcells j xs[j] (by simp[hj]);have:vs.getD j undef=v:=by simp[List.getD,h1]
  dsimp only;rw[this];exact h4 q hq
 ·intro j x q u hx hu;obtain⟨v,h1,_,_,_,h5⟩:=hcells j x hx;have:vs.getD j undef=v:=by simp[List.getD,h1]
  dsimp only;rw[this];exact h5 q u hu
def yK (hP:uZ P TT) {T e len:Nat} {ps:Array (Nat×Operand)} {ti te:TI} {xs:List AV} (k:Nat) (hT:TT[T]? =some ti) (hd:ti.d= .slice e) (he:TT[e]? =some te) (hp:Nat.ble 1 te.size=true) (hps:aX st ps=(xs.zipIdx 0).map λx=>(x.2,x.1)) (hl:Nat.beq xs.length len=true)
  (hw:xs.all (λx=>Nat.beq x.cells.length te.size&&(x.ok&&x.nokey))=true) (hb:Nat.ble (len*te.size) 65536=true) (hzl:Nat.beq te.zero.length te.size=true):
  wV P st (.buildSlice T len ps) (.ref k 0 len) [(k,.arr te.size xs false)] [] [k]:=by
 refine⟨?_⟩;intro X tm h hg _ hn o a w β ho HH Ht;obtain⟨C,f,hrun,hCs,hmx,hl',q1,q2,q3,q4⟩:=NC false hP hT hd he hp hps hl hw hb hzl o X tm h w β a ho hg Ht;rw[hrun];subst hl';obtain⟨β',G,hv⟩:=xK.newArr HH (hn k zW) C e te.size xs xs.length f (zYm hp) hmx (zX7 _) (by rw[hCs]) (DU hCs (zYm hp) q2 q3) q1 q2 q3 (q4.toF Z);exact⟨β',G,hv⟩
def QO (hP:uZ P TT) {T e len:Nat} {ps:Array (Nat×Operand)} {ti te:TI} {xs:List AV} (k:Nat) (hT:TT[T]? =some ti) (hd:ti.d= .slice e) (he:TT[e]? =some te) (hp:Nat.ble 1 te.size=true) (hps:aX st ps=(xs.zipIdx 0).map λx=>(x.2,x.1)) (hl:Nat.beq xs.length len=true)
  (hw:xs.all (λx=>Nat.beq x.cells.length te.size&&x.ok)=true) (hb:Nat.ble (len*te.size) 65536=true) (hzl:Nat.beq te.zero.length te.size=true):
  wV P st (.buildSlice T len ps) (.ref k 0 len) [(k,.arr te.size xs ⟨false,true⟩)] [] [k]:=by
 refine⟨?_⟩;intro X tm h hg _ hn o a w β ho HH Ht;obtain⟨C,f,hrun,hCs,hmx,hl',q1,q2,q3,q4⟩:=NC true hP hT hd he hp hps hl (by simpa using hw) hb hzl o X tm h w β a ho hg Ht;rw[hrun];subst hl';obtain⟨β',G,hv⟩:=xK.newArrN HH (hn k zW) C e te.size xs xs.length f (zYm hp) hmx (zX7 _) (by rw[hCs]) (DU hCs (zYm hp) q2 q3) q1 q2 q3 (q4.toV);exact⟨β',G,hv⟩
def QP (hP:uZ P TT) {T e len:Nat} {ps:Array (Nat×Operand)} {ti te:TI} {xs:List AV} (hT:TT[T]? =some ti) (hd:ti.d= .slice e) (he:TT[e]? =some te) (hp:Nat.ble 1 te.size=true) (hps:aX st ps=(xs.zipIdx 0).map λx=>(x.2,x.1)) (hl:Nat.beq xs.length len=true)
  (hw:xs.all (λx=>Nat.beq x.cells.length te.size&&(x.ok&&x.nokey))=true) (hb:Nat.ble (len*te.size) 65536=true) (hzl:Nat.beq te.zero.length te.size=true):
  wV P st (.buildSlice T len ps) (.sl true xs) [] [] []:=by
 refine⟨?_⟩;intro X tm h hg _ hn o a w β ho HH Ht;obtain⟨C,f,hrun,hCs,hmx,hl',q1,q2,q3,q4⟩:=NC false hP hT hd he hp hps hl hw hb hzl o X tm h w β a ho hg Ht;rw[hrun];rw[cM];exact⟨β,xK.newFz HH C e,.fz _ _ (xE.newArr HH C e te.size xs xs.length f (zYm hp) hmx (zX7 _) q1 q2 q3 (q4.toF Z))⟩
def uN (ti:TI):AV:=bif ti.d.agg then .agg (ti.zero.map .s)else match ti.zero with
 | [v]=> .s v
 |_=> .bot
theorem XZ (hP:uZ P TT) {T e n:Nat} {x y:Operand} {ti te:TI} {kx ky:IntKind} {nx ny:Int} (k:Nat) (hx:yM (zG st.tm) x= .s (.int kx nx)) (hy:yM (zG st.tm) y= .s (.int ky ny)) (hT:TT[T]? =some ti) (hd:ti.d= .slice e) (he:TT[e]? =some te)
  (hnx:nx=(n:Int)) (hny:nx<=ny) (hmax:ny<=1073741824) (hb:Nat.ble te.bytes 65536=true) (hp:Nat.ble 1 te.size=true) (hzl:Nat.beq te.zero.length te.size=true) (hz1:te.zero.all (·.oneCell')=true) (hzc:Nat.beq (uN te).cells.length te.size=true) (hzc2:(uN te).cells=te.zero.map .s):
  wV P st (.makeSlice T x y) (.ref k 0 n) [(k,.arr te.size (List.replicate n (uN te)) false)] [] [k]:=by
 refine⟨?_⟩;intro X tm h hg _ hn o a w β ho HH Ht;obtain⟨d0,o0,y0,p0,f0,g0⟩:=o;dsimp only at ho;subst ho;have h1:=vV Ht hg (x:=x) uT hx;have h2:=vV Ht hg (x:=y) uT hy;have hp:=zYm hp;have hb:=zYm hb;have hzl:=zY2 hzl;have hzc:=zY2 hzc;subst hnx;obtain⟨i,z,hu,hi,hz,e1,e2,e3⟩:=wX hP hT hd he
 have hbytes:(i.bytes:Int)*ny<=281474976710656:=by
  obtain⟨m,rfl⟩:=zZz (show 0<=ny by omega);have:i.bytes*m<=65536*1073741824:=yAz (by omega) (by omega);have h3:(i.bytes:Int)*(m:Int)=((i.bytes*m:Nat):Int):=by simp
  rw[h3];omega
 have hrun:=run_make (P:=P) w T e i z hu hi hz kx ky (n:Int) ny (by omega) hny hbytes (by omega)
 have hex:(execOp a.eval ⟨d0,.makeSlice T x y,y0,p0,f0,g0⟩).run P w= .ok (.value (.slice (some ⟨w.heap.size,0,none⟩) n ny.toNat)) (w.alloc (.cells (madeCells z.cells (ny.toNat*i.size)) e)):=by
  simp only[execOp,h1,h2,Sem.run_bind,hrun,Result.andThen_ok,Sem.run_pure];rfl
 rw[hex];have hzs:z.cells.size=te.size:=by rw[<-hzl,<-e3];simp
 have hrl:(List.replicate n (uN te)).length=n:=by simp
 have hat:∀(j:Nat) v,(List.replicate n (uN te))[j]? =some v->v=uN te:=λj v hv=>by
  rw[zZ0]at hv;split at hv
  ·exact(yAh hv).symm
  ·cases hv
 have hzat:∀j,j<te.size->∃v,te.zero[j]? =some v/\z.cells.getD j undef=v:=λj hj=>by
  have:=kW z.cells j (by omega);refine⟨_,?_,rfl⟩;rw[<-e3];simpa using this
 have:=xK.newArr HH (hn k zW) (madeCells z.cells (ny.toNat*i.size)) e te.size (List.replicate n (uN te)) ny.toNat (λ_ j=>z.cells.getD j undef) hp (by rw[hrl];unfold cU;omega) (by rw[hrl];omega) (by rw[size_madeCells,e1]) (qT.get (qT.made (λv hv=>zYi.1 hz1 v OX) (by omega) _))
  (λj v hv=>by rw[hat j v hv];exact hzc) (λi' j hi' hj=>by
   rw[hrl]at hi'
   have hlt:i'*te.size+j<ny.toNat*te.size:=by
    have:=zYo te.size (show i'+1<=ny.toNat by omega);rw[zY8,zZ3]at this;omega
   have hm':(i'*te.size+j) % te.size=j:=by rw[yCm,yCv];exact yAs hj
   simp only[madeCells,e1,yDg,yC9,hlt,yDq,Option.map_some,hzs,hm']
   congr 1
   have hj':j<z.cells.size:=by omega
   simp[zY7,hj']) (λi' j _ hj=>by
   obtain⟨v,hv,hv'⟩:=hzat j hj;rw[hv']
   exact zYi.1 hz1 v (zZk hv)) (λi' v j u hv hu=>by
   rw[hat i' v hv,hzc2]at hu;simp only[zX8,zYf]at hu;obtain⟨q,hq,rfl⟩:=hu;have hj:j<te.size:=by rw[<-hzl];exact(zYu.1 hq).1
   obtain⟨v',hv1,hv2⟩:=hzat j hj;rw[hv2];rw[hq]at hv1;cases hv1
   exact .s _)
 obtain⟨β',G,hv⟩:=this;rw[hrl]at hv;exact⟨β',G,hv⟩
def zOw {T1 T2:Nat} {x y:Operand} {k:IntKind} {m n:Int} (hx:yM (zG st.tm) x= .s (.int k m)) (hy:yM (zG st.tm) y= .s (.int k n)):wV P st (.call ⟨.builtin .max, #[x,y], #[T1,T2]⟩) (.s (.int k (max m n))) [] [] []:=
 yO λoo X tm h w β a ho hg hr HH Ht=>by
  obtain⟨d0,o0,y0,p0,f0,g0⟩:=oo;dsimp only at ho;subst ho;have h1:=vV Ht hg (x:=x) kJ hx;have h2:=vV Ht hg (x:=y) kJ hy;refine⟨.int k (max m n),?_,.fz _ _ (.s _)⟩;have:(if n>m then n else m)=max m n:=by omega
  simp[execOp,resolve,invoke,builtin,Builtin.max_,Builtin.max2,h1,h2,this]
def zOx {T1 T2:Nat} {x y:Operand} {k:IntKind} {m n:Int} (hx:yM (zG st.tm) x= .s (.int k m)) (hy:yM (zG st.tm) y= .s (.int k n)):wV P st (.call ⟨.builtin .min, #[x,y], #[T1,T2]⟩) (.s (.int k (min m n))) [] [] []:=
 yO λoo X tm h w β a ho hg hr HH Ht=>by
  obtain⟨d0,o0,y0,p0,f0,g0⟩:=oo;dsimp only at ho;subst ho;have h1:=vV Ht hg (x:=x) kJ hx;have h2:=vV Ht hg (x:=y) kJ hy;refine⟨.int k (min m n),?_,.fz _ _ (.s _)⟩;have:(if n<m then n else m)=min m n:=by omega
  simp[execOp,resolve,invoke,builtin,Builtin.min_,Builtin.min2,h1,h2,this]
def VK (h:yJ):AV->Bool
 | .sl true _=>true
 | .sl false (_::_)=>true
 | .ref k _ (_+1)=>match h k with
  |some (.arr _ _ _)=>true
  |_=>false
 |_=>false
def QA (hP:uZ P TT) {T e:Nat} {ti:TI} (hT:TT[T]? =some ti) (hd:ti.d= .slice e) (w:World) (b:Option Addr) (n c:Nat):(Op.equal T (.slice b n c) (.slice none 0 0)).run P w= .ok b.isNone w:=by
 obtain⟨_,u,_,_,hu,_,hd',_⟩:=uM (hP _ _ hT);obtain rfl:=vX (hd'.symm.trans hd)
 show(Op.equalIn (9999+1) T _ _).run P w=_
 unfold Op.equalIn
 cases b<;>simp[DQ w hu]
def yG (hP:uZ P TT) {T ty e:Nat} {x:Operand} {ti:TI} {xv:AV} {op:BinOp} {v:Bool} (hop:op= .eql/\v=false∨op= .neq/\v=true) (hx:yM (zG st.tm) x=xv) (hT:TT[T]? =some ti) (hd:ti.d= .slice e) (hn:VK (zC st.h) xv=true):
  wV P st (.binOp op T x (.const (.slice none 0 0)) ty) (.s (.bool v)) [] (PH xv) []:=
 yO λoo X tm h w β a ho hg hr HH Ht=>by
  obtain⟨d0,o0,y0,p0,f0,g0⟩:=oo;dsimp only at ho;subst ho;have h1:=gU Ht hg (x:=x) uT hx
  obtain⟨b,n,c,hc⟩:∃b n c,a.eval x= .slice (some b) n c:=by
   generalize a.eval x=cx at h1
   cases h1 with
   |fz _ _ hf=>
    cases hf with
    |nil a cap=>simp[VK]at hn
    |nil1 a cap=>exact⟨_,_,_,rfl⟩
    |sl _ _ b o sz cap f hne hL hc hh=>exact⟨_,_,_,rfl⟩
    |_=>simp[VK]at hn
   |ref _ _ _ _ _ _ _ _ _ _ _ _ _ _=>exact⟨_,_,_,rfl⟩
   |ref0 _ _ _ _ _ _ _ _=>simp[VK]at hn
   |dref k off len _ hk _=>
    have:=hr k (by simp[PH])
    cases len with
    |zero=>simp[VK]at hn
    |succ m=>simp[VK,<-this,hk]at hn
   |_=>simp[VK]at hn
  have he:=QA hP hT hd w (some b) n c;refine⟨.bool v,?_,.fz _ _ (.s _)⟩
  rcases hop with⟨rfl,rfl⟩|⟨rfl,rfl⟩<;>simp[execOp,hc,show a.eval (.const (.slice none 0 0))= .slice none 0 0 from Z,eqGuard,binOp,he]
def kK (hP:uZ P TT) {T ty e:Nat} {x:Operand} {ti:TI} {op:BinOp} {v:Bool} {n c:Nat} (hop:op= .eql/\v=true∨op= .neq/\v=false) (hx:yM (zG st.tm) x= .s (.slice none n c)) (hT:TT[T]? =some ti) (hd:ti.d= .slice e):
  wV P st (.binOp op T x (.const (.slice none 0 0)) ty) (.s (.bool v)) [] [] []:=
 yO λoo X tm h w β a ho hg hr HH Ht=>by
  obtain⟨d0,o0,y0,p0,f0,g0⟩:=oo;dsimp only at ho;subst ho;have hc:=vV Ht hg (x:=x) uT hx;have he:=QA hP hT hd w none n c;refine⟨.bool v,?_,.fz _ _ (.s _)⟩
  rcases hop with⟨rfl,rfl⟩|⟨rfl,rfl⟩<;>simp[execOp,hc,show a.eval (.const (.slice none 0 0))= .slice none 0 0 from Z,eqGuard,binOp,he]
def QB {op:BinOp} {tx ty:Nat} {x y:Operand} {p q:ByteArray} {v:Bool} (hx:yM (zG st.tm) x= .s (.string p)) (hy:yM (zG st.tm) y= .s (.string q))
  (hop:op= .eql/\v=(p.toList==q.toList)∨op= .neq/\v= !(p.toList==q.toList)):wV P st (.binOp op tx x y ty) (.s (.bool v)) [] [] []:=
 yO λo X tm h w β a ho hg _ _ Ht=>by
  obtain⟨d0,o0,y0,p0,f0,g0⟩:=o;dsimp only at ho;subst ho;have h1:=vV Ht hg (x:=x) uT hx;have h2:=vV Ht hg (x:=y) uT hy;refine⟨.bool v,?_,.fz _ _ (.s _)⟩
  rcases hop with⟨rfl,rfl⟩|⟨rfl,rfl⟩<;>simp[execOp,h1,h2,eqGuard,binOp,Op.stringOp]
end ops
end
end Av
end Go.Proofs.YteajjdidebfcjaaGreat
