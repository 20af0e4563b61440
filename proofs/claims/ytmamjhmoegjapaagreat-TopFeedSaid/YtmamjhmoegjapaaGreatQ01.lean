/- Part 1. -/
import Derived.Below
import Derived.Orders
import Derived.LoopN
import Derived.Laws.Sem
import Derived.KernelRfl
import Derived.Laws.AppendOwn
import Derived.Laws.CopyRow
import Derived.IntWalk
import Derived.Laws.MakeOwn
namespace Go.Proofs.YtmamjhmoegjapaaGreat
namespace Av
set_option linter.all false
def zW8:=@if_neg
def zW9:=@if_pos
def zXa:=@List.length_map
def zXb:=@List.length_append
def zXc:=@Nat.le_refl
def zXd:=@List.getElem?_map
def zXe:=@List.take_length
def zXf:=@List.map_append
def zXg:=@decide_eq_true
def zXh:=@List.getD_eq_getElem?_getD
def zXi:=@decide_eq_true_eq
def zXj:=@decide_eq_false
def zXk:=@List.take_of_length_le
def zXl:=@List.length_cons
def zXm:=@List.all_eq_true
def zXn:=@Option.map_eq_some_iff
def zXo:=@Bool.and_eq_true
def zXp:=@Nat.zero_le
def zXq:=@Nat.le_of_ble_eq_true
def zXr:=@List.getElem?_eq_getElem
def zXs:=@List.mem_append
def zXt:=@Nat.mul_le_mul_right
def zXu:=@decide_eq_false_iff_not
def zXv:=@List.getElem?_eq_some_iff
def zXw:=@List.length_take
def zXx:=@Bool.false_ne_true
def zXy:=@List.append_assoc
def zXz:=@List.mem_range
def zX0:=@List.getElem?_eq_none
def zX1:=@Bool.true_and
def zX2:=@List.getElem?_append_right
def zX3:=@List.getElem?_append_left
def zX4:=@Nat.eq_of_beq_eq_true
def zX5:=@Array.getD_eq_getD_getElem?
def zX6:=@List.getElem?_range
def zX7:=@congrArg
def zX8:=@List.append_nil
def zX9:=@List.mem_singleton
def zYa:=@List.length_nil
def zYb:=@Nat.add_mul
def zYc:=@List.eq_nil_of_length_eq_zero
def zYd:=@List.length_drop
def zYe:=@Nat.zero_add
def zYf:=@List.drop_zero
def zYg:=@Nat.le_trans
def zYh:=@Nat.lt_of_lt_of_le
def zYi:=@List.map_cons
def zYj:=@Option.some.injEq
def zYk:=@cond_true
def zYl:=@List.mem_of_mem_drop
def zYm:=@beq_eq_false_iff_ne
def zYn:=@Int.tmod_eq_emod_of_nonneg
def zYo:=@List.mem_map
def zYp:=@List.ext_getElem?
def zYq:=@List.mem_cons
def zYr:=@beq_iff_eq
def zYs:=@Int.toNat_natCast
def zYt:=@List.mem_of_getElem?
def zYu:=@List.length_range
def zYv:=@List.any_eq_true
def zYw:=@List.getElem?_set_self
def zYx:=@List.getElem?_take
def zYy:=@bne_eq_false_iff_eq
def zYz:=@List.length_replicate
def zY0:=@Int.tdiv_eq_ediv_of_nonneg
def zY1:=@List.mem_of_mem_take
def zY2:=@Bool.false_and
def zY3:=@List.length_set
def zY4:=@List.getElem?_replicate
def zY5:=@List.contains_iff_mem
def zY6:=@List.map_nil
def zY7:=@Prod.mk.injEq
def zY8:=@cond_false
def zY9:=@Nat.one_mul
def zZa:=@Nat.le_of_eq
def zZb:=@List.getElem?_drop
def zZc:=@Array.getElem?_append_left
def zZd:=@Array.getElem?_eq_some_iff
def zZe:=@Bool.or_eq_true
def zZf:=@Int.le_refl
def zZg:=@Option.getD_some
def zZh:=@List.map_set
def zZi:=@List.getElem?_set
def zZj:=@List.nil_append
def zZk:=@List.getElem_of_mem
def zZl:=@Bool.not_eq_true'
def zZm:=@Int.fdiv_eq_ediv_of_nonneg
def zZn:=@List.length_filter_le
def zZo:=@Nat.sub_self
def zZp:=@List.range_succ
def zZq:=@Nat.not_lt_zero
def zZr:=@Option.some.inj
def zZs:=@bne_iff_ne
def zZt:=@Nat.mod_eq_of_lt
def zZu:=@Bool.or_true
def zZv:=@List.take_add_one
def zZw:=@List.take_append_of_le_length
def zZx:=@List.cons_append
def zZy:=@List.getElem_mem
def zZz:=@List.getElem?_toArray
def zZ0:=@List.length_singleton
def zZ1:=@List.take_append_drop
def zZ2:=@Int.eq_ofNat_of_zero_le
def zZ3:=@Bool.true_or
def zZ4:=@Bool.not_eq_true
def zZ5:=@List.drop_eq_getElem_cons
def zZ6:=@Array.length_toList
def zZ7:=@List.all_eq_false
def zZ8:=@List.any_eq_false
def zZ9:=@List.flatten_cons
def yAa:=@List.size_toArray
def yAb:=@List.set_append_right
def yAc:=@List.take_zero
def yAd:=@Nat.add_zero
def yAe:=@Nat.mul_le_mul
def yAf:=@Option.map_none
def yAg:=@List.take_succ_eq_append_getElem
def yAh:=@List.flatten_append
def yAi:=@Classical.byContradiction
def yAj:=@List.mem_filter
def yAk:=@List.mem_or_eq_of_mem_set
def yAl:=@BitVec.toNat_ofNat
def yAm:=@BitVec.ofInt_natCast
def yAn:=@List.getElem?_of_mem
def yAo:=@List.drop_succ_cons
def yAp:=@List.map_congr_left
def yAq:=@List.zipWith_cons_cons
def yAr:=@Bool.false_or
def yAs:=@Int.emod_lt_of_pos
def yAt:=@ne_eq
def yAu:=@List.replicate_succ
def yAv:=@List.mem_flatten
def yAw:=@List.drop_eq_nil_of_le
def yAx:=@Array.getElem?_append_right
def yAy:=@Int.natCast_nonneg
def yAz:=@List.filter_append
def yA0:=@List.map_replicate
def yA1:=@Nat.zero_mul
def yA2:=@Int.emod_nonneg
def yA3:=@List.singleton_append
def yA4:=@List.map_drop
def yA5:=@List.map_take
def yA6:=@Decidable.not_not
def yA7:=@List.mem_iff_getElem
def yA8:=@List.pairwise_append
def yA9:=@Nat.pow_le_pow_right
def yBa:=@Bool.and_false
def yBb:=@List.drop_length
def yBc:=@List.map_map
def yBd:=@List.not_mem_nil
def yBe:=@List.length_zipWith
def yBf:=@Bool.and_true
def yBg:=@Nat.lt_irrefl
def yBh:=@Int.natCast_mul
def yBi:=@List.mem_replicate
def yBj:=@List.pairwise_cons
def yBk:=@List.set_cons_zero
def yBl:=@List.drop_of_length_le
def yBm:=@List.drop_append_of_le_length
def yBn:=@Nat.shiftLeft_add_eq_or_of_lt
def yBo:=@Bool.eq_false_iff
def yBp:=@of_decide_eq_true
def yBq:=@Nat.ble_eq_true_of_le
def yBr:=@Nat.mul_comm
def yBs:=@List.getElem?_set_ne
def yBt:=@List.getElem?_zipIdx
def yBu:=@Nat.le_of_mul_le_mul_right
def yBv:=@List.replicate_zero
def yBw:=@List.take_succ_cons
def yBx:=@Bool.eq_iff_iff
def yBy:=@List.mem_of_find?_eq_some
def yBz:=@Nat.mul_add_mod
def yB0:=@List.find?_eq_none
def yB1:=@List.set_set
def yB2:=@List.take_append_getElem
def yB3:=@Nat.le_of_lt
def yB4:=@Nat.sub_zero
def yB5:=@Bool.not_false
def yB6:=@Array.size_append
def yB7:=@Nat.sub_mul
def yB8:=@Bool.not_true
def yB9:=@Nat.add_assoc
def yCa:=@Array.toList_map
def yCb:=@List.getElem?_zipWith
def yCc:=@List.set_getElem_self
def yCd:=@Array.getElem?_range
def yCe:=@Int.natCast_add
def yCf:=@Int.not_le
def yCg:=@Int.not_lt
def yCh:=@Int.pow_succ
def yCi:=@List.replicate_succ'
def yCj:=@Nat.min_eq_left
def yCk:=@Int.toNat_of_nonneg
def yCl:=@List.filter_eq_self
def yCm:=@List.nodup_nil
def yCn:=@dif_pos
def yCo:=@or_false
def yCp:=@Int.one_mul
def yCq:=@Array.getElem?_map
def yCr:=@Int.tmod_lt_of_pos
def yCs:=@Option.toList_some
def yCt:=@Bool.or_false
def yCu:=@Array.all_eq_true
def yCv:=@List.find?_append
def yCw:=@Nat.or_lt_two_pow
def yCx:=@not_true_eq_false
def yCy:=@if_true
def yCz:=@List.mem_toArray
def yC0:=@Nat.shiftLeft_eq
def yC1:=@BitVec.toNat_or
def yC2:=@Int.tmod_nonneg
def yC3:=@List.find?_cons
def yC4:=@List.find?_some
def yC5:=@List.take_left'
def yC6:=@Int.mul_nonneg
def yC7:=@List.drop_left
def yC8:=@List.mapM_cons
def yC9:=@List.take_left
def yDa:=@Nat.testBit_or
def yDb:=@Nat.mod_lt
def yDc:=@List.all_cons
def yDd:=@Int.min_self
def yDe:=@Int.mul_comm
def yDf:=@and_false
def yDg:=@decide_false
theorem zS {p:Prop} (h:p:=by simp):p:=h
theorem xL {p:Prop} (h:p:=by decide):p:=h
theorem wQ {p:Prop} (h:p:=by(simp;omega)):p:=h
theorem uE {p:Prop} (h:p:=by simp[Op.operands]):p:=h
theorem qF {p:Prop} (h:p:=by simp[Op.operands,Call.operands]):p:=h
theorem cB {p:Prop} (h:p:=by(first|rfl|assumption)):p:=h
theorem bY {p:Prop} (h:p:=by simp[List.getD,hi']):p:=h
theorem PP {p:Prop} (h:p:=by(rw[zYd];omega)):p:=h
theorem NS {p:Prop} (h:p:=by simpa using h):p:=h
theorem NT {p:Prop} (h:p:=by(have:=H.vl;omega)):p:=h
theorem VK {p:Prop} (h:p:=by simp[hx]):p:=h
theorem VL {p:Prop} (h:p:=by kernel_rfl):p:=h
theorem VM {p:Prop} (h:p:=by simp[hi]):p:=h
theorem PQ {p:Prop} (h:p:=by simp[hk]):p:=h
theorem PR {p:Prop} (h:p:=by(rw[<-e3];exact hv)):p:=h
theorem PS {p:Prop} (h:p:=by(rw[hh j hj];exact hk')):p:=h
theorem PU {p:Prop} (h:p:=by(dsimp only;omega)):p:=h
theorem MS {p:Prop} (h:p:=by(rw[hk];rfl)):p:=h
theorem MT {p:Prop} (h:p:=by(rw[hk];exact q1)):p:=h
theorem MU {p:Prop} (h:p:=by simpa using h2):p:=h
theorem EP {p:Prop} (h:p:=by simpa using hn):p:=h
theorem EQ {p:Prop} (h:p:=by simpa using hi):p:=h
theorem ER {p:Prop} (h:p:=by simpa using hv):p:=h
theorem ES {p:Prop} (h:p:=by simpa using hl):p:=h
theorem ET {p:Prop} (h:p:=by simpa using h1):p:=h
theorem EU {p:Prop} (h:p:=by simpa using this):p:=h
theorem EV {p:Prop} (h:p:=by(rw[hbk,e];simp)):p:=h
theorem zBr {p:Prop} (h:p:=by(have:=J.n;omega)):p:=h
theorem zBs {p:Prop} (h:p:=by(rw[hl]at hi;omega)):p:=h
theorem zBt {p:Prop} (h:p:=by(rw[hβ j hj];exact hb)):p:=h
theorem zBu {p:Prop} (h:p:=by(rw[zXi];exact hs)):p:=h
theorem zI2 {p:Prop} (h:p:=by rw[zYf,zXe]):p:=h
theorem zI3 {p:Prop} (h:p:=by(rw[hh j hk];exact hk')):p:=h
theorem zI4 {p:Prop} (h:p:=by(rw[zY3,zXa];exact zXc _)):p:=h
theorem zPx {p:Prop} (h:p:=by(rcases hk with hk|hk|hk|hk<;>rw[hk]<;>rfl)):p:=h
theorem zPy {p:Prop} (h:p:=by(rw[zXw,zYd];omega)):p:=h
theorem zPz {p:Prop} (h:p:=by rw[hN,zYf,<-hz3l,zXe]):p:=h
theorem zP0 {p:Prop} (h:p:=by(simp[List.getD];rw[zXr zB];simp)):p:=h
theorem zP1 {p:Prop} (h:p:=by rw[<-zZ5 hi,zZ1]):p:=h
inductive AV where
 |bot
 |gh (n:Nat)
 |s (v:Value)
 |agg (cs:List AV)
 |sl (nn:Bool) (xs:List AV)
 |slc (cap:Nat) (xs:List AV)
 |ref (k off len:Nat)
 |ptr (k i off:Nat)
 |fp (xs:List AV) (i off:Nat)
 |fn (f:Nat) (caps:List AV)
 |tup (vs:List AV)
 deriving Inhabited
def AV.cells:AV->List AV
 | .agg cs=>cs
 |v=>[v]
def AV.isAgg:AV->Bool
 | .agg _=>true
 |_=>false
def cC:Nat:=9223372036854775807
structure Lay (w:World) (D:Nat->Prop) (xs:List AV) (b o sz:Nat) (f:Nat->Nat->Value):Prop where
 lt:b<w.heap.size
 nd:¬D b
 pos:1<=sz
 max:xs.length<=cC
 wide:∀(i:Nat) (x:AV),xs[i]? =some x->x.cells.length=sz
 cell:∀i j,i<xs.length->j<sz->w.cell? ⟨b,o+i*sz+j,none⟩=some (f i j)
 one:∀i j,i<xs.length->j<sz->(f i j).oneCell'=true
inductive xE (w:World) (D:Nat->Prop):AV->Value->Prop
 |bot (c:Value):xE w D .bot c
 |gh (n:Nat) (c:Value):xE w D (.gh n) c
 |s (v:Value):xE w D (.s v) v
 |agg (cs:List AV) (c:Array Value) (hl:c.size=cs.length) (h1:∀i,i<c.size->(c.getD i undef).oneCell'=true) (h:∀(i:Nat) v,cs[i]? =some v->xE w D v (c.getD i undef)):xE w D (.agg cs) (.agg c)
 |nil (a:Option Addr) (cap:Nat):xE w D (.sl false []) (.slice a 0 cap)
 |nil1 (a:Addr) (cap:Nat):xE w D (.sl true []) (.slice (some a) 0 cap)
 |sl (nn:Bool) (xs:List AV) (b o sz cap:Nat) (f:Nat->Nat->Value) (hx:xs≠[]) (hL:Lay w D xs b o sz f) (hc:xs.length<=cap)
  (h:∀(i:Nat) (x:AV) (j:Nat) v,xs[i]? =some x->x.cells[j]? =some v->xE w D v (f i j)):xE w D (.sl nn xs) (.slice (some ⟨b,o,none⟩) xs.length cap)
 |slc (cap:Nat) (xs:List AV) (b o sz:Nat) (f:Nat->Nat->Value) (hL:Lay w D xs b o sz f) (hc:xs.length<=cap)
  (h:∀(i:Nat) (x:AV) (j:Nat) v,xs[i]? =some x->x.cells[j]? =some v->xE w D v (f i j)):xE w D (.slc cap xs) (.slice (some ⟨b,o,none⟩) xs.length cap)
 |fp (xs:List AV) (b o sz i off:Nat) (f:Nat->Nat->Value) (hL:Lay w D xs b o sz f) (hi:i<xs.length) (ho:off<sz)
  (h:∀(i:Nat) (x:AV) (j:Nat) v,xs[i]? =some x->x.cells[j]? =some v->xE w D v (f i j)):xE w D (.fp xs i off) (.pointer (some ⟨b,o+i*sz+off,none⟩))
structure Fl where
 stale:Bool
 nest:Bool
instance:Coe Bool Fl:=⟨λb=>⟨b,false⟩⟩
inductive xN where
 |box (cs:List AV)
 |arr (sz:Nat) (xs:List AV) (fl:Fl)
 |dead
abbrev yH:=Nat->Option xN
abbrev uB:=Nat->List (Nat×Nat)
def xX (w:World) (b:Nat):Nat:=((w.shape? b).map (·.2)).getD 0
inductive zV (w:World) (D:Nat->Prop) (h:yH) (β:uB):AV->Value->Prop
 |fz (v:AV) (c:Value) (hf:xE w D v c):zV w D h β v c
 |agg (cs:List AV) (c:Array Value) (hl:c.size=cs.length) (h1:∀i,i<c.size->(c.getD i undef).oneCell'=true) (hh:∀(i:Nat) v,cs[i]? =some v->zV w D h β v (c.getD i undef)):zV w D h β (.agg cs) (.agg c)
 |fn (f:Nat) (caps:List AV) (c:Array Value) (hl:c.size=caps.length) (hh:∀(i:Nat) v,caps[i]? =some v->zV w D h β v (c.getD i undef)):zV w D h β (.fn f caps) (.func (.func f) #[] c)
 |tup (vs:List AV) (c:Array Value) (hl:c.size=vs.length) (hh:∀(i:Nat) v,vs[i]? =some v->zV w D h β v (c.getD i undef)):zV w D h β (.tup vs) (.tuple c)
 |dref (k off len:Nat) (c:Value) (hk:h k=some .dead) (h1:c.oneCell'=true):zV w D h β (.ref k off len) c
 |dptr (k i off:Nat) (c:Value) (hk:h k=some .dead) (h1:c.oneCell'=true):zV w D h β (.ptr k i off) c
 |ref (k off len sz:Nat) (xs:List AV) (st:Fl) (b n cap:Nat) (hk:h k=some (.arr sz xs st)) (hb:(b,n)∈β k) (hn:off+len<=n) (hc:len<=cap) (hs:(off+cap)*sz=xX w b):
  zV w D h β (.ref k off len) (.slice (some ⟨b,off*sz,none⟩) len cap)
 |ref0 (k off sz:Nat) (xs:List AV) (st:Fl) (a:Option Addr) (hk:h k=some (.arr sz xs st)) (hn:off<=xs.length):zV w D h β (.ref k off 0) (.slice a 0 0)
 |pbox (k off:Nat) (cs:List AV) (b n:Nat) (hk:h k=some (.box cs)) (hb:(b,n)∈β k):zV w D h β (.ptr k 0 off) (.pointer (some ⟨b,off,none⟩))
 |parr (k i off sz:Nat) (xs:List AV) (st:Fl) (b n:Nat) (hk:h k=some (.arr sz xs st)) (hb:(b,n)∈β k) (hi:i<n) (ho:off<sz):
  zV w D h β (.ptr k i off) (.pointer (some ⟨b,i*sz+off,none⟩))
def xF (X:Nat->Prop) (β:uB) (b:Nat):Prop:=X b∨∃k n,(b,n)∈β k
def jX (w:World) (D:Nat->Prop) (h:yH) (β:uB) (nest:Bool) (xs:List AV) (f:Nat->Nat->Value):Prop:=
 ∀(i:Nat) (x:AV) (j:Nat) v,xs[i]? =some x->x.cells[j]? =some v->zV w D h β v (f i j)/\(nest=false->xE w D v (f i j))
theorem jX.ofF {w:World} {D:Nat->Prop} {h:yH} {β:uB} {nest:Bool} {xs:List AV} {f:Nat->Nat->Value} (H:∀(i:Nat) (x:AV) (j:Nat) v,xs[i]? =some x->x.cells[j]? =some v->xE w D v (f i j)):jX w D h β nest xs f:=
 λi x j v hx hv=>⟨.fz _ _ (H i x j v hx hv),λ_=>H i x j v hx hv⟩
theorem jX.toF {w:World} {D:Nat->Prop} {h:yH} {β:uB} {nest:Bool} {xs:List AV} {f:Nat->Nat->Value} (H:jX w D h β nest xs f) (hn:nest=false) (i:Nat) (x:AV) (j:Nat) (v:AV) (hx:xs[i]? =some x) (hv:x.cells[j]? =some v):xE w D v (f i j):=
 (H i x j v hx hv).2 hn
theorem jX.toV {w:World} {D:Nat->Prop} {h:yH} {β:uB} {nest:Bool} {xs:List AV} {f:Nat->Nat->Value} (H:jX w D h β nest xs f) (i:Nat) (x:AV) (j:Nat) (v:AV) (hx:xs[i]? =some x) (hv:x.cells[j]? =some v):zV w D h β v (f i j):=
 (H i x j v hx hv).1
def VN (w:World) (D:Nat->Prop) (h:yH) (β:uB) (k:Nat):xN->Prop
 | .box cs=>∃b c el,β k=[(b,0)]/\w.heap[b]? =some (.cells c el (0,0))/\c.size=cs.length/\(∀i,i<c.size->(c.getD i undef).oneCell'=true)/\∀(i:Nat) v,cs[i]? =some v->zV w D h β v (c.getD i undef)
 | .arr sz xs st=>1<=sz/\xs.length<=cC/\(xs≠[]->β k≠[])/\(∀(i:Nat) (x:AV),xs[i]? =some x->x.cells.length=sz)/\
  (∀b n r,β k=(b,n)::r->n=xs.length/\(st.stale=false->∀b' n',(b',n')∈r->n'=0)/\∀b' n',(b',n')∈r->n'<xs.length)/\
  ∃f:Nat->Nat->Value,jX w D h β st.nest xs f/\(∀i j,i<xs.length->j<sz->(f i j).oneCell'=true)/\
   ∀b n,(b,n)∈β k->∃c el,w.heap[b]? =some (.cells c el (0,0))/\n*sz<=c.size/\(∀i j,i<n->j<sz->c[i*sz+j]? =some (f i j))/\∀i,i<c.size->(c.getD i undef).oneCell'=true
 | .dead=>β k=[]
structure kI (X:Nat->Prop) (h:yH) (β:uB) (w:World):Prop where
 ent:∀k e,h k=some e->VN w (xF X β) h β k e
 off:∀k,h k=none->β k=[]
 disj:∀k k' b n n',(b,n)∈β k->(b,n')∈β k'->k=k'
 free:∀k b n,(b,n)∈β k->¬X b
 lt:∀b,xF X β b->b<w.heap.size
structure JP (w:World) (D:Nat->Prop) (h:yH) (β:uB) (w':World) (D':Nat->Prop) (h':yH) (β':uB):Prop where
 size:w.heap.size<=w'.heap.size
 fz:∀b,b<w.heap.size->¬D b->w'.heap[b]? =w.heap[b]? /\¬D' b
 bs:∀k b n,(b,n)∈β k->xX w' b=xX w b
 key:∀k e,h k=some e->h' k=some .dead∨match e with
  | .dead=>False
  | .box _=>(∃cs',h' k=some (.box cs'))/\∀b n,(b,n)∈β k->(b,n)∈β' k
  | .arr sz xs _=>(∃xs' st',h' k=some (.arr sz xs' st')/\xs.length<=xs'.length)/\∀b n,(b,n)∈β k->∃n',n<=n'/\(b,n')∈β' k
theorem Lay.evo {w w':World} {D D':Nat->Prop} {xs:List AV} {b o sz:Nat} {f:Nat->Nat->Value} (hL:Lay w D xs b o sz f) (hs:w.heap.size<=w'.heap.size)
  (hf:∀b,b<w.heap.size->¬D b->w'.heap[b]? =w.heap[b]? /\¬D' b):Lay w' D' xs b o sz f:=
 ⟨zYh hL.lt hs,(hf b hL.lt hL.nd).2,hL.pos,hL.max,hL.wide,λi j hi hj=>(World.cell?_of_block (a:=⟨b,o+i*sz+j,none⟩) (hf b hL.lt hL.nd).1).trans (hL.cell i j hi hj),hL.one⟩
theorem xE.evo {w w':World} {D D':Nat->Prop} (hs:w.heap.size<=w'.heap.size) (hf:∀b,b<w.heap.size->¬D b->w'.heap[b]? =w.heap[b]? /\¬D' b)
  {v:AV} {c:Value} (h:xE w D v c):xE w' D' v c:=by
 induction h with
 |bot c=>exact .bot c
 |gh n c=>exact .gh n c
 |s v=>exact .s v
 |agg cs c hl h1 _ ih=>exact .agg cs c hl h1 ih
 |nil a cap=>exact .nil a cap
 |nil1 a cap=>exact .nil1 a cap
 |sl nn xs b o sz cap f hx hL hc _ ih=>exact .sl nn xs b o sz cap f hx (hL.evo hs hf) hc ih
 |slc cap xs b o sz f hL hc _ ih=>exact .slc cap xs b o sz f (hL.evo hs hf) hc ih
 |fp xs b o sz i off f hL hi ho _ ih=>exact .fp xs b o sz i off f (hL.evo hs hf) hi ho ih
theorem zV.evo {w w':World} {D D':Nat->Prop} {h h':yH} {β β':uB} (E:JP w D h β w' D' h' β') {v:AV} {c:Value} (hv:zV w D h β v c):zV w' D' h' β' v c:=by
 induction hv with
 |fz v c hf=>exact .fz v c (hf.evo E.size E.fz)
 |agg cs c hl h1 _ ih=>exact .agg cs c hl h1 ih
 |fn f caps c hl _ ih=>exact .fn f caps c hl ih
 |tup vs c hl _ ih=>exact .tup vs c hl ih
 |dref k off len c hk h1=>exact .dref _ _ _ _ ((E.key k _ hk).resolve_right (λf=>f)) h1
 |dptr k i off c hk h1=>exact .dptr _ _ _ _ ((E.key k _ hk).resolve_right (λf=>f)) h1
 |ref k off len sz xs st b n cap hk hb hn hc hs=>
  rcases E.key k _ hk with hd|⟨⟨xs',st',hk',_⟩,hm⟩
  ·exact .dref _ _ _ _ hd rfl
  ·obtain⟨n',hn',hb'⟩:=hm b n hb;exact .ref k off len sz xs' st' b n' cap hk' hb' (zYg hn hn') hc (by rw[E.bs k b n hb];exact hs)
 |ref0 k off sz xs st a hk hn=>
  rcases E.key k _ hk with hd|⟨⟨xs',st',hk',hl⟩,hm⟩
  ·exact .dref _ _ _ _ hd rfl
  ·exact .ref0 k off sz xs' st' a hk' (zYg hn hl)
 |pbox k off cs b n hk hb=>
  rcases E.key k _ hk with hd|⟨⟨cs',hk'⟩,hm⟩
  ·exact .dptr _ _ _ _ hd rfl
  ·exact .pbox k off cs' b n hk' (hm b n hb)
 |parr k i off sz xs st b n hk hb hi ho=>
  rcases E.key k _ hk with hd|⟨⟨xs',st',hk',hl⟩,hm⟩
  ·exact .dptr _ _ _ _ hd rfl
  ·obtain⟨n',hn',hb'⟩:=hm b n hb;exact .parr k i off sz xs' st' b n' hk' hb' (zYh hi hn') ho
theorem jX.evo {w w':World} {D D':Nat->Prop} {h h':yH} {β β':uB} (E:JP w D h β w' D' h' β') {nest:Bool} {xs:List AV} {f:Nat->Nat->Value} (H:jX w D h β nest xs f):jX w' D' h' β' nest xs f:=
 λi x j v hx hv=>⟨(H i x j v hx hv).1.evo E,λhn=>((H i x j v hx hv).2 hn).evo E.size E.fz⟩
structure xM (X:Nat->Prop) (w:World) (h:yH) (β:uB) (w':World) (h':yH) (β':uB):Prop where
 size:w.heap.size<=w'.heap.size
 keep:∀b,b<w.heap.size->(∀k n,(b,n)∉β k)->w'.heap[b]? =w.heap[b]?
 own:∀k b n,(b,n)∈β' k->(∃k' n',(b,n')∈β k')∨w.heap.size<=b
 bs:∀k b n,(b,n)∈β k->xX w' b=xX w b
 key:∀k e,h k=some e->h' k=some .dead∨match e with
  | .dead=>False
  | .box _=>(∃cs',h' k=some (.box cs'))/\∀b n,(b,n)∈β k->(b,n)∈β' k
  | .arr sz xs _=>(∃xs' st',h' k=some (.arr sz xs' st')/\xs.length<=xs'.length)/\∀b n,(b,n)∈β k->∃n',n<=n'/\(b,n')∈β' k
 hok:kI X h' β' w'
 os:w'.os=w.os
 tape:w'.tape=w.tape
 output:w'.output=w.output
theorem xM.evo {X:Nat->Prop} {w w':World} {h h':yH} {β β':uB} (G:xM X w h β w' h' β'):JP w (xF X β) h β w' (xF X β') h' β' where
 size:=G.size
 fz b hb hd:=by
  have h1:∀k n,(b,n)∉β k:=λk n hm=>hd (.inr ⟨k,n,hm⟩)
  refine⟨G.keep b hb h1,?_⟩;rintro(hx|⟨k,n,hm⟩)
  ·exact hd (.inl hx)
  ·rcases G.own k b n hm with⟨k',n',h2⟩|h2
   ·exact h1 _ _ h2
   ·omega
 bs:=G.bs
 key:=G.key
theorem qS (h:yH) (β:uB):∀k e,h k=some e->h k=some .dead∨match e with
  | .dead=>False
  | .box _=>(∃cs',h k=some (.box cs'))/\∀b n,(b,n)∈β k->(b,n)∈β k
  | .arr sz xs _=>(∃xs' st',h k=some (.arr sz xs' st')/\xs.length<=xs'.length)/\∀b n,(b,n)∈β k->∃n',n<=n'/\(b,n')∈β k:=by
 intro k e he
 cases e with
 |dead=>exact .inl he
 |box cs=>exact .inr ⟨⟨cs,he⟩,λ_ _ h=>h⟩
 |arr sz xs st=>exact .inr ⟨⟨xs,st,he,zXc _⟩,λ_ n h=>⟨n,zXc _,h⟩⟩
theorem xM.refl {X:Nat->Prop} {h:yH} {β:uB} {w:World} (H:kI X h β w):xM X w h β w h β:=
 ⟨zXc _,λ_ _ _=>rfl,λk _ n hm=> .inl ⟨k,n,hm⟩,λ_ _ _ _=>rfl,qS h β,H,rfl,rfl,rfl⟩
theorem kI.drew {X:Nat->Prop} {h:yH} {β:uB} {w:World} (H:kI X h β w) (n:Nat):kI X h β {w with drawn:=n}:=by
 have ev:∀{v c},zV w (xF X β) h β v c->zV {w with drawn:=n} (xF X β) h β v c:=λhv=>
  zV.evo (w:=w) (w':={w with drawn:=n}) (D':=xF X β) (h':=h) (β':=β) ⟨zXc _,λ_ _ hd=>⟨rfl,hd⟩,λ_ _ _ _=>rfl,qS h β⟩ hv
 have ef:∀{v c},xE w (xF X β) v c->xE {w with drawn:=n} (xF X β) v c:=λhv=>xE.evo (w:=w) (w':={w with drawn:=n}) (D':=xF X β) (zXc _) (λ_ _ hd=>⟨rfl,hd⟩) hv
 refine⟨λk e he=>?_,H.off,H.disj,H.free,H.lt⟩;have:=H.ent k e he
 cases e with
 |dead=>exact this
 |box cs=>
  obtain⟨b,c,el,h1,h2,h3,h4,h5⟩:=this;exact⟨b,c,el,h1,h2,h3,h4,λi v hv=>ev (h5 i v hv)⟩
 |arr sz xs st=>
  obtain⟨h1,h2,h3,h4,h5,f,h6,h7⟩:=this;exact⟨h1,h2,h3,h4,h5,f,λi x j v hx hv=>⟨ev (h6 i x j v hx hv).1,λhn=>ef ((h6 i x j v hx hv).2 hn)⟩,h7⟩
theorem xM.drew {X:Nat->Prop} {h:yH} {β:uB} {w:World} (H:kI X h β w) (n:Nat):xM X w h β {w with drawn:=n} h β:=
 ⟨zXc _,λ_ _ _=>rfl,λk _ n hm=> .inl ⟨k,n,hm⟩,λ_ _ _ _=>rfl,qS h β,H.drew n,rfl,rfl,rfl⟩
theorem xM.trans {X:Nat->Prop} {w w' w'':World} {h h' h'':yH} {β β' β'':uB} (H:kI X h β w) (G:xM X w h β w' h' β') (K:xM X w' h' β' w'' h'' β''):xM X w h β w'' h'' β'' where
 size:=zYg G.size K.size
 keep b hb hn:=by
  rw[K.keep b (zYh hb G.size),G.keep b hb hn];intro k n hm
  rcases G.own k b n hm with⟨k',n',h2⟩|h2
  ·exact hn _ _ h2
  ·omega
 own k b n hm:=by
  rcases K.own k b n hm with⟨k',n',h2⟩|h2
  ·exact G.own k' b n' h2
  ·exact .inr (zYg G.size h2)
 bs k b n hm:=by
  have hb:=H.lt b (.inr ⟨k,n,hm⟩);by_cases hd:∃k n,(b,n)∈β' k
  ·obtain⟨k',n',hm'⟩:=hd;rw[K.bs k' b n' hm',G.bs k b n hm]
  ·rw[<-G.bs k b n hm];unfold xX World.shape?;rw[K.keep b (zYh hb G.size) λk n hm=>hd ⟨k,n,hm⟩]
 key k e he:=by
  rcases G.key k e he with h1|h1
  ·rcases K.key k _ h1 with h2|h2
   ·exact .inl h2
   ·exact h2.elim
  ·cases e with
   |dead=>exact h1.elim
   |box cs=>
    obtain⟨⟨cs',h2⟩,h3⟩:=h1
    rcases K.key k _ h2 with h4|⟨h4,h5⟩
    ·exact .inl h4
    ·exact .inr ⟨h4,λb n hm=>h5 b n (h3 b n hm)⟩
   |arr sz xs st=>
    obtain⟨⟨xs',st',h2,hl⟩,h3⟩:=h1
    rcases K.key k _ h2 with h4|⟨⟨xs'',st'',h4,hl'⟩,h5⟩
    ·exact .inl h4
    ·refine .inr ⟨⟨xs'',st'',h4,zYg hl hl'⟩,λb n hm=>?_⟩;obtain⟨n',hn',hm'⟩:=h3 b n hm;obtain⟨n'',hn'',hm''⟩:=h5 b n' hm';exact⟨n'',zYg hn' hn'',hm''⟩
 hok:=K.hok
 os:=K.os.trans G.os
 tape:=K.tape.trans G.tape
 output:=K.output.trans G.output
section
inductive TD where
 |str (fs:List (Nat×Nat))
 |slice (e:Nat)
 |arr (n e:Nat)
 |int (k:IntKind)
 |bool
 |string
 |ptr (e:Nat)
 |func
 |other
structure TI where
 d:TD
 size:Nat
 bytes:Nat
 zero:List Value
def TD.agg:TD->Bool
 | .str _| .arr _ _=>true
 |_=>false
def YH:TypeDesc->TD
 | .struct fs=> .str (fs.toList.map λf=>(f.offset,f.type))
 | .slice e=> .slice e
 | .array n e=> .arr n e
 | .int k=> .int k
 | .bool=> .bool
 | .string=> .string
 | .pointer e=> .ptr e
 | .func .. => .func
 |_=> .other
def zI5 (P:Program) (t:Nat):Option TI:=
 match P.info? t,P.underlying t with
 |some i,some u=>i.zero.map λz=>⟨YH u,i.size,i.bytes,z.cells.toList⟩
 |_,_=>none
def uL (P:Program) (TT:List TI):Prop:=∀(t:Nat) ti,TT[t]? =some ti->zI5 P t=some ti
theorem vV {P:Program} {t:Nat} {ti:TI} (h:zI5 P t=some ti):∃i u z,P.info? t=some i/\P.underlying t=some u/\i.zero=some z/\ti.d=YH u/\ti.size=i.size/\ti.bytes=i.bytes/\ti.zero=z.cells.toList:=by
 unfold zI5 at h;split at h
 ·rename_i i u hi hu
  cases hz:i.zero with
  |none=>simp[hz]at h
  |some z=>
   simp[hz]at h;exact⟨i,u,z,hi,hu,hz,by rw[<-h],by rw[<-h],by rw[<-h],by rw[<-h]⟩
 ·cases h
section runs
variable {P:Program} {t:Nat} {ti:TI} (h:zI5 P t=some ti) (w:World)
include h
theorem EW:∃i z,(typeInfo t).run P w= .ok i w/\i.size=ti.size/\i.bytes=ti.bytes/\i.zero=some z/\z.cells.toList=ti.zero:=by
 obtain⟨i,u,z,hi,_,hz,_,hs,hb,hzz⟩:=vV h;exact⟨i,z,by simp[typeInfo,hi],hs.symm,hb.symm,hz,hzz.symm⟩
theorem uQ:(sizeOf t).run P w= .ok ti.size w:=by
 obtain⟨i,z,hr,hs,_⟩:=EW h w;simp[sizeOf,hr,hs]
theorem zI6:∃z,(zeroValue t).run P w= .ok z w/\z.cells.toList=ti.zero:=by
 obtain⟨i,z,hr,_,_,hz,hzz⟩:=EW h w;exact⟨z,by simp[zeroValue,hr,hz],hzz⟩
theorem xY:∃u,(underlying t).run P w= .ok u w/\YH u=ti.d:=by
 obtain⟨i,u,z,_,hu,_,hd,_⟩:=vV h;exact⟨u,by simp[underlying,hu],hd.symm⟩
theorem zBv:(isAgg t).run P w= .ok ti.d.agg w:=by
 obtain⟨u,hr,hd⟩:=xY h w;rw[<-hd];simp only[isAgg,Sem.run_bind,hr,Result.andThen_ok]
 cases u<;>rfl
end runs
theorem EX {P:Program} {t:Nat} (w:World) {u:TypeDesc} (hu:P.underlying t=some u):(underlying t).run P w= .ok u w:=by simp[underlying,hu]
theorem vQ {u:TypeDesc} {e:Nat} (h:YH u= .slice e):u= .slice e:=by cases u<;>simp[YH]at h;rw[h]
theorem zI7 {u:TypeDesc} {n e:Nat} (h:YH u= .arr n e):u= .array n e:=by cases u<;>simp[YH]at h;rw[h.1,h.2]
theorem JQ {u:TypeDesc} {k:IntKind} (h:YH u= .int k):u= .int k:=by cases u<;>simp[YH]at h;rw[h]
theorem zOa {u:TypeDesc} (h:YH u= .bool):u= .bool:=by cases u<;>simp[YH]at h;rfl
theorem zDs {u:TypeDesc} (h:YH u= .string):u= .string:=by cases u<;>simp[YH]at h;rfl
theorem zI8 {u:TypeDesc} {fs:List (Nat×Nat)} (h:YH u= .str fs):∃f,u= .struct f/\f.toList.map (λf=>(f.offset,f.type))=fs:=by
 cases u with
 |struct f=>exact⟨f,rfl,by simpa [YH]using h⟩
 |_=>simp[YH]at h
structure St where
 tm:List (Nat×AV)
 h:List (Nat×xN)
def zG:List (Nat×AV)->Nat->AV
 | [],_=> .bot
 |(k,v)::r,t=>bif Nat.beq t k then v else zG r t
def zC:List (Nat×xN)->Nat->Option xN
 | [],_=>none
 |(k,e)::r,t=>bif Nat.beq t k then some e else zC r t
def over (d:List (Nat×xN)) (h:yH):yH:=λk=>match zC d k with
 |some e=>some e
 |none=>h k
def yL (tm:Nat->AV):Operand->AV
 | .tmp t=>tm t
 | .const v=> .s v
 | .func f=> .fn f []
 | .global _=> .bot
def fK (op:Op):List Nat:=op.operands.toList.filterMap λ| .tmp t=>some t|_=>none
def bN (P:Program) (N:Value->World->Prop):Result Next->Prop
 | .ok (.value c) w'=>N c w'
 | .ok .skip w'=>N undef w'
 | .ok (.enter f args) w'=>Calls P f args w' λe w''=>∃c,e= .returned c/\N c w''
 |_=>False
def zVv (P:Program) (X:Nat->Prop) (tm:Nat->AV) (h:yH) (op:Op) (v:AV) (h':yH):Prop:=
 ∀(o:Oper) (a:Act) (w:World) (β:uB),o.op=op->kI X h β w->(∀t,zV w (xF X β) h β (tm t) (a.eval (.tmp t)))->
  bN P (λc w'=>∃β',xM X w h β w' h' β'/\zV w' (xF X β') h' β' v c) ((execOp a.eval o).run P w)
structure wR (P:Program) (st:St) (op:Op) (v:AV) (d:List (Nat×xN)) (r nw:List Nat):Prop where
 run:∀(X:Nat->Prop) (tm:Nat->AV) (h:yH),(∀t,t∈fK op->tm t=zG st.tm t)->(∀k,k∈r->h k=zC st.h k)->(∀k,k∈nw->h k=none)->zVv P X tm h op v (over d h)
section
variable {w:World} {D:Nat->Prop} {h:yH} {β:uB}
theorem RM {tm:Nat->AV} {a:Act} (H:∀t,zV w D h β (tm t) (a.eval (.tmp t))) (x:Operand):zV w D h β (yL tm x) (a.eval x):=by
 cases x with
 |tmp t=>exact H t
 |const v=>exact .fz _ _ (.s v)
 |global g=>exact .fz _ _ (.bot _)
 |func f=>exact .fn f [] #[] rfl (λi v hv=>by simp at hv)
theorem zDt {op:Op} {tm tm':Nat->AV} (H:∀t,t∈fK op->tm t=tm' t) {x:Operand} (hx:x∈op.operands):yL tm x=yL tm' x:=by
 cases x with
 |tmp t=>exact H t (by simp only[fK,List.mem_filterMap];exact⟨.tmp t,by simpa using hx,rfl⟩)
 |_=>rfl
theorem zV.s_inv {x c:Value} (hv:zV w D h β (.s x) c):c=x:=by
 cases hv with
 |fz _ _ hf=>cases hf;rfl
theorem jL {op:Op} {tm:Nat->AV} {st:St} {a:Act} (H:∀t,zV w D h β (tm t) (a.eval (.tmp t))) (hg:∀t,t∈fK op->tm t=zG st.tm t) {x:Operand} (hx:x∈op.operands) {v:AV}
  (hv:yL (zG st.tm) x=v):zV w D h β v (a.eval x):=by
 rw[<-hv,<-zDt hg hx];exact RM H x
theorem vI {op:Op} {tm:Nat->AV} {st:St} {a:Act} (H:∀t,zV w D h β (tm t) (a.eval (.tmp t))) (hg:∀t,t∈fK op->tm t=zG st.tm t) {x:Operand} (hx:x∈op.operands) {v:Value}
 (hv:yL (zG st.tm) x= .s v):a.eval x=v:=(jL H hg hx hv).s_inv
end
theorem dE (h:yH):over [] h=h:=rfl
theorem yQ {P:Program} {st:St} {op:Op} {v:AV} {r:List Nat}
  (H:∀(o:Oper) (X:Nat->Prop) (tm:Nat->AV) (h:yH) (w:World) (β:uB) (a:Act),o.op=op->(∀t,t∈fK op->tm t=zG st.tm t)->(∀k,k∈r->h k=zC st.h k)->kI X h β w->
   (∀t,zV w (xF X β) h β (tm t) (a.eval (.tmp t)))->∃c,(execOp a.eval o).run P w= .ok (.value c) w/\zV w (xF X β) h β v c):wR P st op v [] r []:=by
 refine⟨?_⟩;intro X tm h hg hr _ o a w β ho HH Ht;obtain⟨c,hc,hv⟩:=H o X tm h w β a ho hg hr HH Ht;rw[hc,dE];exact⟨β,xM.refl HH,hv⟩
section ops
variable {P:Program} {TT:List TI} {st:St}
theorem zI9 {x:Operand} {v:AV} (hv:yL (zG st.tm) x=v):wR P st (.move x) v [] [] []:=
 yQ λo X tm h w β a ho hg _ _ Ht=>by
  obtain⟨dst,op',type,pos,after,guard⟩:=o;dsimp only at ho;subst ho;exact⟨a.eval x,rfl,jL Ht hg uE hv⟩
theorem AS {x:Operand} {v:AV} (hv:yL (zG st.tm) x=v):wR P st (.assign x) v [] [] []:=
 yQ λo X tm h w β a ho hg _ _ Ht=>by
  obtain⟨dst,op',type,pos,after,guard⟩:=o;dsimp only at ho;subst ho;exact⟨a.eval x,rfl,jL Ht hg uE hv⟩
theorem zJa {c x y:Operand} {t:Bool} {v:AV} (hc:yL (zG st.tm) c= .s (.bool t)) (hv:(bif t then yL (zG st.tm) x else yL (zG st.tm) y)=v):wR P st (.pick c x y) v [] [] []:=
 yQ λo X tm h w β a ho hg _ _ Ht=>by
  obtain⟨dst,op',type,pos,after,guard⟩:=o;dsimp only at ho;subst ho;have h1:=vI Ht hg (x:=c) uE hc;refine⟨if t then a.eval x else a.eval y,by simp[execOp,h1,asBool],?_⟩;cases t
  ·exact jL Ht hg uE hv
  ·exact jL Ht hg uE hv
theorem EY {x:Operand} {vs:List AV} {i:Nat} {v:AV} (hx:yL (zG st.tm) x= .tup vs) (hv:vs[i]? =some v):wR P st (.extract x i) v [] [] []:=
 yQ λo X tm h w β a ho hg _ _ Ht=>by
  obtain⟨dst,op',type,pos,after,guard⟩:=o;dsimp only at ho;subst ho;have h1:=jL Ht hg (x:=x) uE hx;have hi:=(zXv.1 hv).1;generalize he:a.eval x=cx at h1
  cases h1 with
  |fz _ _ hf=>cases hf
  |tup _ c hl hh=>
   obtain⟨u,hc⟩:∃u,c[i]? =some u:=⟨c[i],by simp[show i<c.size by omega]⟩;have hu:c.getD i undef=u:=by simp[zX5,hc]
   exact⟨u,by simp[execOp,Instr.extract,he,hc],hu▸hh i v hv⟩
def YI:IntKind->Int->Prop
 | .i64,n=> -9223372036854775808<=n/\n<=9223372036854775807
 | .u8,n=>0<=n/\n<=255
 | .i32,n=> -2147483648<=n/\n<=2147483647
 | .u32,n=>0<=n/\n<=4294967295
 | .u64,n=>0<=n/\n<=18446744073709551615
 | .i8,n=> -128<=n/\n<=127
 | .i16,n=> -32768<=n/\n<=32767
 | .u16,n=>0<=n/\n<=65535
theorem qT {k:IntKind} {n:Int} (h:YI k n):k.wrap n=n:=by
 cases k<;>first
  |exact IntWalk.i64_in n h
  |exact IntWalk.u8_in n h
  |exact IntWalk.i32_in n h
  |exact IntWalk.u32_in n h
  |exact IntWalk.u64_in n h
  |exact IntWalk.i8_in n h
  |exact IntWalk.i16_in n h
  |exact IntWalk.u16_in n h
theorem uJ {op:BinOp} {tx ty:Nat} {x y:Operand} {k:IntKind} {m n:Int} {v:Value} (hx:yL (zG st.tm) x= .s (.int k m)) (hy:yL (zG st.tm) y= .s (.int k n))
  (H:∀w,(binOp op tx (.int k m) (.int k n)).run P w= .ok v w):wR P st (.binOp op tx x y ty) (.s v) [] [] []:=
 yQ λo X tm h w β a ho hg _ _ Ht=>by
  obtain⟨dst,op',type,pos,after,guard⟩:=o;dsimp only at ho;subst ho;have h1:=vI Ht hg (x:=x) uE hx;have h2:=vI Ht hg (x:=y) uE hy;refine⟨v,?_,.fz _ _ (.s v)⟩
  have hgd:(eqGuard op tx x y (.int k m) (.int k n)).run P w= .ok () w:=by
   unfold eqGuard;cases op<;>rfl
  simp only[execOp,h1,h2,Sem.run_bind,hgd,Result.andThen_ok,H,Sem.run_pure]
section
variable {tx ty:Nat} {x y:Operand} {k:IntKind} {m n:Int} (hx:yL (zG st.tm) x= .s (.int k m)) (hy:yL (zG st.tm) y= .s (.int k n))
include hx hy
theorem JR (hr:YI k (m+n)):wR P st (.binOp .add tx x y ty) (.s (.int k (m+n))) [] [] []:=uJ hx hy λw=>by simp[binOp,Op.intArith,qT hr]
theorem JT (hr:YI k (m-n)):wR P st (.binOp .sub tx x y ty) (.s (.int k (m-n))) [] [] []:=uJ hx hy λw=>by simp[binOp,Op.intArith,qT hr]
theorem JU (hr:YI k (m*n)):wR P st (.binOp .mul tx x y ty) (.s (.int k (m*n))) [] [] []:=uJ hx hy λw=>by simp[binOp,Op.intArith,qT hr]
theorem JW (hr:YI k (m.tdiv n)) (h0:n≠0):wR P st (.binOp .quo tx x y ty) (.s (.int k (m.tdiv n))) [] [] []:=uJ hx hy λw=>by simp[binOp,Op.intDiv,h0,qT hr]
theorem JX (h0:n≠0):wR P st (.binOp .rem tx x y ty) (.s (.int k (m.tmod n))) [] [] []:=uJ hx hy λw=>by simp[binOp,Op.intDiv,h0]
theorem RN:wR P st (.binOp .and tx x y ty) (.s (.int k (k.wrap (BitVec.ofInt k.bits m &&& BitVec.ofInt k.bits n).toNat))) [] [] []:=uJ hx hy λw=>by simp only[binOp,Op.intBits];simp
theorem JY:wR P st (.binOp .or tx x y ty) (.s (.int k (k.wrap (BitVec.ofInt k.bits m ||| BitVec.ofInt k.bits n).toNat))) [] [] []:=uJ hx hy λw=>by simp only[binOp,Op.intBits];simp
theorem JZ:wR P st (.binOp .xor tx x y ty) (.s (.int k (k.wrap (BitVec.ofInt k.bits m ^^^ BitVec.ofInt k.bits n).toNat))) [] [] []:=uJ hx hy λw=>by simp only[binOp,Op.intBits];simp
theorem AT:wR P st (.binOp .andNot tx x y ty) (.s (.int k (k.wrap (BitVec.ofInt k.bits m &&& ~~~BitVec.ofInt k.bits n).toNat))) [] [] []:=uJ hx hy λw=>by simp only[binOp,Op.intBits];simp
theorem IA:wR P st (.binOp .eql tx x y ty) (.s (.bool (m==n))) [] [] []:=uJ hx hy λw=>by simp[binOp,Op.intCmp]
theorem IB:wR P st (.binOp .neq tx x y ty) (.s (.bool (m != n))) [] [] []:=uJ hx hy λw=>by simp[binOp,Op.intCmp]
theorem IC:wR P st (.binOp .lss tx x y ty) (.s (.bool (decide (m<n)))) [] [] []:=uJ hx hy λw=>by simp[binOp,Op.intCmp]
theorem ID:wR P st (.binOp .leq tx x y ty) (.s (.bool (decide (m<=n)))) [] [] []:=uJ hx hy λw=>by simp[binOp,Op.intCmp]
theorem IE:wR P st (.binOp .gtr tx x y ty) (.s (.bool (decide (n<m)))) [] [] []:=uJ hx hy λw=>by simp[binOp,Op.intCmp]
theorem IF:wR P st (.binOp .geq tx x y ty) (.s (.bool (decide (n<=m)))) [] [] []:=uJ hx hy λw=>by simp[binOp,Op.intCmp]
end
theorem jH {op:BinOp} {tx ty:Nat} {x y:Operand} {k k':IntKind} {m n:Int} {v:Int} (hop:op= .shl/\v=k.wrap (m*2 ^ (min n.toNat k.bits))∨op= .shr/\v=m.fdiv (2 ^ (min n.toNat k.bits)))
  (hx:yL (zG st.tm) x= .s (.int k m)) (hy:yL (zG st.tm) y= .s (.int k' n)) (h0:0<=n):wR P st (.binOp op tx x y ty) (.s (.int k v)) [] [] []:=
 yQ λo X tm h w β a ho hg _ _ Ht=>by
  obtain⟨dst,op',type,pos,after,guard⟩:=o;dsimp only at ho;subst ho;have h1:=vI Ht hg (x:=x) uE hx;have h2:=vI Ht hg (x:=y) uE hy;have h3:¬n<0:=by omega
  refine⟨.int k v,?_,.fz _ _ (.s _)⟩
  rcases hop with⟨rfl,rfl⟩|⟨rfl,rfl⟩<;>simp[execOp,h1,h2,eqGuard,binOp,Op.shift,h3]
theorem zOb {tx:Nat} {x:Operand} {b:Bool} (hx:yL (zG st.tm) x= .s (.bool b)):wR P st (.unOp .not tx x) (.s (.bool !b)) [] [] []:=
 yQ λo X tm h w β a ho hg _ _ Ht=>by
  obtain⟨dst,op',type,pos,after,guard⟩:=o;dsimp only at ho;subst ho;have h1:=vI Ht hg (x:=x) uE hx;exact⟨_,by simp[execOp,h1,Op.unary],.fz _ _ (.s _)⟩
theorem IG {tx:Nat} {x:Operand} {k:IntKind} {n:Int} (hx:yL (zG st.tm) x= .s (.int k n)) (hr:YI k (-n)):wR P st (.unOp .neg tx x) (.s (.int k (-n))) [] [] []:=
 yQ λo X tm h w β a ho hg _ _ Ht=>by
  obtain⟨dst,op',type,pos,after,guard⟩:=o;dsimp only at ho;subst ho;have h1:=vI Ht hg (x:=x) uE hx;exact⟨.int k (-n),by simp[execOp,h1,Op.unary,Op.intArith,qT hr],.fz _ _ (.s _)⟩
theorem VO {src dst:Nat} {x:Operand} {k k':IntKind} {n:Int} {ts td:TI} (hP:uL P TT) (hs:TT[src]? =some ts) (hd:TT[dst]? =some td) (hk:td.d= .int k') (hx:yL (zG st.tm) x= .s (.int k n)):
  wR P st (.convert src dst x) (.s (.int k' (k'.wrap n))) [] [] []:=
 yQ λo X tm h w β a ho hg _ _ Ht=>by
  obtain⟨dst',op',type,pos,after,guard⟩:=o;dsimp only at ho;subst ho;have h1:=vI Ht hg (x:=x) uE hx;obtain⟨u,hu,_⟩:=xY (hP _ _ hs) w;obtain⟨u',hu',hd'⟩:=xY (hP _ _ hd) w;obtain rfl:=JQ (hd'.trans hk);exact⟨.int k' (k'.wrap n),by simp[execOp,convert,h1,hu,hu',Conv.intToInt],.fz _ _ (.s _)⟩
theorem fZ {op:BinOp} {tx ty:Nat} {x y:Operand} {p q:Bool} {v:Bool} {ti:TI} (hP:uL P TT) (ht:TT[tx]? =some ti) (hd:ti.d= .bool) (hx:yL (zG st.tm) x= .s (.bool p)) (hy:yL (zG st.tm) y= .s (.bool q))
  (hop:op= .eql/\v=(p==q)∨op= .neq/\v=(p != q)):wR P st (.binOp op tx x y ty) (.s (.bool v)) [] [] []:=
 yQ λo X tm h w β a ho hg _ _ Ht=>by
  obtain⟨dst,op',type,pos,after,guard⟩:=o;dsimp only at ho;subst ho;have h1:=vI Ht hg (x:=x) uE hx;have h2:=vI Ht hg (x:=y) uE hy;obtain⟨u,hu,hd'⟩:=xY (hP _ _ ht) w;obtain rfl:=zOa (hd'.trans hd)
  have he:(Op.equal tx (.bool p) (.bool q)).run P w= .ok (p==q) w:=by
   show(Op.equalIn (9999+1) tx (.bool p) (.bool q)).run P w=_
   unfold Op.equalIn;simp[hu]
  refine⟨.bool v,?_,.fz _ _ (.s _)⟩
  rcases hop with⟨rfl,rfl⟩|⟨rfl,rfl⟩<;>simp[execOp,h1,h2,eqGuard,binOp,he,bne]
theorem IH {f:Nat} {cap:Array Operand}:wR P st (.makeFunc (.func f) #[] cap) (.fn f (cap.toList.map (yL (zG st.tm)))) [] [] []:=
 yQ λo X tm h w β a ho hg _ _ Ht=>by
  obtain⟨dst,op',type,pos,after,guard⟩:=o;dsimp only at ho;subst ho;refine⟨.func (.func f) #[] (cap.map a.eval),by simp[execOp,Instr.makeFunc],.fn _ _ _ zS λi v hv=>?_⟩;simp only[zXd,zXn]at hv;obtain⟨x,hx,rfl⟩:=hv
  have:(cap.map a.eval).getD i undef=a.eval x:=by
   have:cap[i]? =some x:=by simpa using hx
   simp[zX5,this]
  rw[this];refine jL Ht hg ?_ rfl
  have:x∈cap:=by
   have:=zYt hx;simpa using this
  simp[Op.operands,this]
end ops
end
def cD (β:uB) (k:Nat) (l:List (Nat×Nat)):uB:=λj=>if j=k then l else β j
theorem zW (β:uB) (k:Nat) (l:List (Nat×Nat)):cD β k l k=l:=by simp[cD]
theorem qG (β:uB) {k j:Nat} (l:List (Nat×Nat)) (h:j≠k):cD β k l j=β j:=by simp[cD,h]
theorem zDu (k:Nat):Nat.beq k k=true:=by simp
theorem ZZ {j k:Nat} (h:j≠k):Nat.beq j k=false:=by
 cases e:Nat.beq j k with
 |false=>rfl
 |true=>exact absurd (zX4 e) h
theorem qH (k:Nat) (e:xN) (h:yH):over [(k,e)] h k=some e:=by simp[over,zC]
theorem bO {k j:Nat} (e:xN) (h:yH) (hj:j≠k):over [(k,e)] h j=h j:=by simp[over,zC,ZZ hj]
theorem VN.evo {w w':World} {D D':Nat->Prop} {h h':yH} {β β':uB} (E:JP w D h β w' D' h' β') {k:Nat} {e:xN} (hb:β' k=β k) (hk:∀b n,(b,n)∈β k->w'.heap[b]? =w.heap[b]?)
  (H:VN w D h β k e):VN w' D' h' β' k e:=by
 cases e with
 |dead=>exact hb.trans H
 |box cs=>
  obtain⟨b,c,el,h1,h2,h3,h4,h5⟩:=H;exact⟨b,c,el,hb.trans h1,(hk b 0 (by rw[h1];simp)).trans h2,h3,h4,λi v hv=>(h5 i v hv).evo E⟩
 |arr sz xs st=>
  obtain⟨h1,h2,h3,h4,h5,f,h6,h7,h8⟩:=H;refine⟨h1,h2,by rwa [hb],h4,by rwa [hb],f,h6.evo E,h7,λb n hm=>?_⟩;rw[hb]at hm;obtain⟨c,el,h9,h10⟩:=h8 b n hm;exact⟨c,el,(hk b n hm).trans h9,h10⟩
theorem xM.step {X:Nat->Prop} {h:yH} {β:uB} {w w':World} (H:kI X h β w) (k:Nat) (e':xN) (l:List (Nat×Nat)) (size:w.heap.size<=w'.heap.size)
  (keep:∀b,b<w.heap.size->(∀n,(b,n)∉β k)->w'.heap[b]? =w.heap[b]?) (os:w'.os=w.os) (tape:w'.tape=w.tape) (output:w'.output=w.output)
  (own:∀b n,(b,n)∈l->(∃n',(b,n')∈β k)∨(w.heap.size<=b/\b<w'.heap.size)) (bs:∀b n,(b,n)∈β k->xX w' b=xX w b)
  (key:∀e,h k=some e->e'= .dead∨match e with
   | .dead=>False
   | .box _=>(∃cs',e'= .box cs')/\∀b n,(b,n)∈β k->(b,n)∈l
   | .arr sz xs _=>(∃xs' st',e'= .arr sz xs' st'/\xs.length<=xs'.length)/\∀b n,(b,n)∈β k->∃n',n<=n'/\(b,n')∈l)
  (ent:JP w (xF X β) h β w' (xF X (cD β k l)) (over [(k,e')] h) (cD β k l)->VN w' (xF X (cD β k l)) (over [(k,e')] h) (cD β k l) k e'):
  xM X w h β w' (over [(k,e')] h) (cD β k l):=by
 have own':∀j b n,(b,n)∈cD β k l j->(∃k' n',(b,n')∈β k')∨w.heap.size<=b:=by
  intro j b n hm;by_cases hj:j=k
  ·subst hj;rw[zW]at hm
   rcases own b n hm with⟨n',h1⟩|⟨h1,_⟩
   ·exact .inl ⟨_,_,h1⟩
   ·exact .inr h1
  ·rw[qG _ _ hj]at hm;exact .inl ⟨_,_,hm⟩
 have apart:∀j b n n',j≠k->(b,n)∈β j->(b,n')∉β k:=λj b n n' hj h1 h2=>hj (H.disj _ _ _ _ _ h1 h2)
 have keep':∀b,b<w.heap.size->(∀k n,(b,n)∉β k)->w'.heap[b]? =w.heap[b]? :=λb hb hn=>keep b hb (hn k)
 have bs':∀j b n,(b,n)∈β j->xX w' b=xX w b:=by
  intro j b n hm;by_cases hj:j=k
  ·subst hj;exact bs b n hm
  ·unfold xX World.shape?;rw[keep b (H.lt b (.inr ⟨j,n,hm⟩)) λn' h1=>apart j b n n' hj hm h1]
 have key':∀j e,h j=some e->over [(k,e')] h j=some .dead∨match e with
   | .dead=>False
   | .box _=>(∃cs',over [(k,e')] h j=some (.box cs'))/\∀b n,(b,n)∈β j->(b,n)∈cD β k l j
   | .arr sz xs _=>(∃xs' st',over [(k,e')] h j=some (.arr sz xs' st')/\xs.length<=xs'.length)/\∀b n,(b,n)∈β j->∃n',n<=n'/\(b,n')∈cD β k l j:=by
  intro j e he;by_cases hj:j=k
  ·subst hj;rw[qH,zW]
   rcases key e he with h1|h1
   ·exact .inl (by rw[h1])
   ·cases e with
    |dead=>exact h1.elim
    |box cs=>obtain⟨⟨cs',h2⟩,h3⟩:=h1;exact .inr ⟨⟨cs',by rw[h2]⟩,h3⟩
    |arr sz xs st=>obtain⟨⟨xs',st',h2,h2'⟩,h3⟩:=h1;exact .inr ⟨⟨xs',st',by rw[h2],h2'⟩,h3⟩
  ·rw[bO _ _ hj,qG _ _ hj];exact qS h β j e he
 have E:JP w (xF X β) h β w' (xF X (cD β k l)) (over [(k,e')] h) (cD β k l):=by
  refine⟨size,λb hb hd=>?_,bs',key'⟩;have h1:∀k n,(b,n)∉β k:=λk n hm=>hd (.inr ⟨k,n,hm⟩)
  refine⟨keep' b hb h1,?_⟩;rintro(hx|⟨j,n,hm⟩)
  ·exact hd (.inl hx)
  ·rcases own' j b n hm with⟨k',n',h2⟩|h2
   ·exact h1 _ _ h2
   ·omega
 refine⟨size,keep',own',bs',key',⟨λj e he=>?_,λj he=>?_,λj j' b n n' h1 h2=>?_,λj b n hm hx=>?_,λb hd=>?_⟩,os,tape,output⟩
 ·by_cases hj:j=k
  ·subst hj;rw[qH]at he;cases he;exact ent E
  ·rw[bO _ _ hj]at he;exact(H.ent j e he).evo E (qG _ _ hj) λb n hm=>keep b (H.lt b (.inr ⟨j,n,hm⟩)) λn' h1=>apart j b n n' hj hm h1
 ·by_cases hj:j=k
  ·subst hj;rw[qH]at he;cases he
  ·rw[bO _ _ hj]at he;rw[qG _ _ hj];exact H.off j he
 ·by_cases hj:j=k<;>by_cases hj':j'=k
  ·rw[hj,hj']
  ·subst hj;rw[zW]at h1;rw[qG _ _ hj']at h2
   rcases own b n h1 with⟨m,h3⟩|⟨h3,_⟩
   ·exact absurd h3 (apart j' b n' m hj' h2)
   ·have:=H.lt b (.inr ⟨_,_,h2⟩);omega
  ·subst hj';rw[zW]at h2;rw[qG _ _ hj]at h1
   rcases own b n' h2 with⟨m,h3⟩|⟨h3,_⟩
   ·exact absurd h3 (apart j b n m hj h1)
   ·have:=H.lt b (.inr ⟨_,_,h1⟩);omega
  ·rw[qG _ _ hj]at h1;rw[qG _ _ hj']at h2;exact H.disj _ _ _ _ _ h1 h2
 ·by_cases hj:j=k
  ·subst hj;rw[zW]at hm
   rcases own b n hm with⟨m,h3⟩|⟨h3,_⟩
   ·exact H.free _ _ _ h3 hx
   ·have:=H.lt b (.inl hx);omega
  ·rw[qG _ _ hj]at hm;exact H.free _ _ _ hm hx
 ·rcases hd with hx|⟨j,n,hm⟩
  ·exact zYh (H.lt b (.inl hx)) size
  ·by_cases hj:j=k
   ·subst hj;rw[zW]at hm
    rcases own b n hm with⟨m,h3⟩|⟨_,h3⟩
    ·exact zYh (H.lt b (.inr ⟨_,_,h3⟩)) size
    ·exact h3
   ·rw[qG _ _ hj]at hm;exact zYh (H.lt b (.inr ⟨_,_,hm⟩)) size
theorem xM.new {X:Nat->Prop} {h:yH} {β:uB} {w:World} (H:kI X h β w) {k:Nat} (hk:h k=none) (e':xN) (n:Nat) (c:Array Value) (el:Nat)
  (ent:JP w (xF X β) h β (w.alloc (.cells c el)) (xF X (cD β k [(w.heap.size,n)])) (over [(k,e')] h) (cD β k [(w.heap.size,n)])->
   VN (w.alloc (.cells c el)) (xF X (cD β k [(w.heap.size,n)])) (over [(k,e')] h) (cD β k [(w.heap.size,n)]) k e'):
  xM X w h β (w.alloc (.cells c el)) (over [(k,e')] h) (cD β k [(w.heap.size,n)]):=by
 refine xM.step H k e' _ zS (λb hb _=>heap_alloc_old w _ b hb) rfl rfl rfl (λb n hm=>?_) (λb n hm=>?_) (λe he=>?_) ent
 ·simp at hm;refine .inr ?_;simp[hm.1]
 ·rw[H.off k hk]at hm;simp at hm
 ·rw[hk]at he;cases he
theorem xM.newBox {X:Nat->Prop} {h:yH} {β:uB} {w:World} (H:kI X h β w) {k:Nat} (hk:h k=none) (c:Array Value) (el:Nat) (cs:List AV) (hl:c.size=cs.length) (h1:∀i,i<c.size->(c.getD i undef).oneCell'=true)
  (hv:∀(i:Nat) v,cs[i]? =some v->zV w (xF X β) h β v (c.getD i undef)):
  ∃β',xM X w h β (w.alloc (.cells c el)) (over [(k,.box cs)] h) β'/\zV (w.alloc (.cells c el)) (xF X β') (over [(k,.box cs)] h) β' (.ptr k 0 0) (.pointer (some ⟨w.heap.size,0,none⟩)):=
 ⟨_,xM.new H hk (.box cs) 0 c el λE=>⟨_,c,el,zW _ _ _,heap_alloc_new w _,hl,h1,λi v hx=>(hv i v hx).evo E⟩,
  .pbox k 0 cs w.heap.size 0 (qH _ _ _) (by rw[zW];simp)⟩
def uR (c:Array Value):Prop:=∀v,v∈c.toList->v.oneCell'=true
theorem uR.get {c:Array Value} (h:uR c):∀i,i<c.size->(c.getD i undef).oneCell'=true:=λi hi=>by
 have e:c.getD i undef=c[i]:=by simp[Array.getD,hi]
 rw[e];exact h _ zS
theorem uR.of {c:Array Value} (h:∀i,i<c.size->(c.getD i undef).oneCell'=true):uR c:=λv hv=>by
 obtain⟨i,hi,rfl⟩:=zZk hv;have hi':i<c.size:=by simpa using hi
 have:=h i hi';simpa [Array.getD,hi']using this
theorem uR.app {a b:Array Value} (ha:uR a) (hb:uR b):uR (a++b):=λv hv=>by
 rw[Array.toList_append,zXs]at hv;exact hv.elim (ha v) (hb v)
theorem uR.arr {l:List Value} (h:∀v∈l,v.oneCell'=true):uR l.toArray:=λv hv=>h v ER
theorem EZ {z:Array Value} {i:Nat} (h:i<z.size):z[i]! ∈z.toList:=by
 rw[getElem!_pos z i h];simp
theorem uR.zero {z:Array Value} (h:∀v,v∈z.toList->v.oneCell'=true) (n:Nat):uR (Builtin.zeroCells z n):=λv hv=>by
 simp only[Builtin.zeroCells,yCa,Array.toList_range,zYo,zXz]at hv;obtain⟨i,hi,rfl⟩:=hv
 have hz:0<z.size:=by
  rcases Nat.eq_zero_or_pos z.size with h0|h0
  ·rw[h0,Nat.mul_zero]at hi;omega
  ·exact h0
 exact h _ (EZ (yDb _ hz))
theorem DA {c:Array Value} {n sz:Nat} {f:Nat->Nat->Value} (hs:c.size=n*sz) (hp:1<=sz) (hf:∀i j,i<n->j<sz->c[i*sz+j]? =some (f i j)) (h1:∀i j,i<n->j<sz->(f i j).oneCell'=true):∀i,i<c.size->(c.getD i undef).oneCell'=true:=λi hi=>by
 have hm:i % sz<sz:=yDb _ (by omega);have hd:i/sz<n:=by rw[Nat.div_lt_iff_lt_mul (by omega)];omega
 have e:i/sz*sz+i % sz=i:=by rw[yBr];exact Nat.div_add_mod i sz
 have h2:=hf (i/sz) (i % sz) hd hm;rw[e]at h2;have e2:c.getD i undef=f (i/sz) (i % sz):=by simp[zX5,h2]
 rw[e2];exact h1 _ _ hd hm
theorem uR.made {z:Array Value} (h:∀v,v∈z.toList->v.oneCell'=true) (hz:0<z.size) (n:Nat):uR (madeCells z n):=λv hv=>by
 simp only[madeCells,yCa,Array.toList_range,zYo,zXz]at hv;obtain⟨i,hi,rfl⟩:=hv;exact h _ (EZ (yDb _ hz))
theorem xM.newArr {X:Nat->Prop} {h:yH} {β:uB} {w:World} (H:kI X h β w) {k:Nat} (hk:h k=none) (c:Array Value) (el sz:Nat) (xs:List AV) (cap:Nat) (f:Nat->Nat->Value) (hp:1<=sz) (hm:xs.length<=cC)
  (hcap:xs.length<=cap) (hc:cap*sz=c.size) (hall:∀i,i<c.size->(c.getD i undef).oneCell'=true) (hw:∀(i:Nat) (x:AV),xs[i]? =some x->x.cells.length=sz) (hf:∀i j,i<xs.length->j<sz->c[i*sz+j]? =some (f i j)) (h1:∀i j,i<xs.length->j<sz->(f i j).oneCell'=true)
  (hv:∀(i:Nat) (x:AV) (j:Nat) v,xs[i]? =some x->x.cells[j]? =some v->xE w (xF X β) v (f i j)):
  ∃β',xM X w h β (w.alloc (.cells c el)) (over [(k,.arr sz xs false)] h) β'/\zV (w.alloc (.cells c el)) (xF X β') (over [(k,.arr sz xs false)] h) β' (.ref k 0 xs.length) (.slice (some ⟨w.heap.size,0,none⟩) xs.length cap):=by
 refine⟨_,xM.new H hk (.arr sz xs false) xs.length c el λE=>⟨hp,hm,λ_=>by rw[zW];simp,hw,λb n r hr=>?_,f,.ofF λi x j v hx hy=>(hv i x j v hx hy).evo E.size E.fz,h1,λb n hb=>?_⟩,?_⟩
 ·rw[zW]at hr;simp at hr;exact⟨hr.1.2.symm,λ_ b' n' hm=>by rw[hr.2]at hm;simp at hm,λb' n' hm=>by rw[hr.2]at hm;simp at hm⟩
 ·rw[zW]at hb;simp at hb;obtain⟨rfl,rfl⟩:=hb;exact⟨c,el,heap_alloc_new w _,zYg (zXt _ hcap) (zZa hc),hf,hall⟩
 ·have:=zV.ref (w:=w.alloc (.cells c el)) (D:=xF X (cD β k [(w.heap.size,xs.length)])) (h:=over [(k,.arr sz xs false)] h) (β:=cD β k [(w.heap.size,xs.length)]) k 0 xs.length sz xs false w.heap.size xs.length cap (qH _ _ _)
   (by rw[zW];simp) (by omega) hcap (by
    have:xX (w.alloc (.cells c el)) w.heap.size=c.size:=by
     unfold xX World.shape?;rw[heap_alloc_new];rfl
    rw[this];simpa using hc)
  simpa using this
theorem xM.newArrN {X:Nat->Prop} {h:yH} {β:uB} {w:World} (H:kI X h β w) {k:Nat} (hk:h k=none) (c:Array Value) (el sz:Nat) (xs:List AV) (cap:Nat) (f:Nat->Nat->Value) (hp:1<=sz) (hm:xs.length<=cC)
  (hcap:xs.length<=cap) (hc:cap*sz=c.size) (hall:∀i,i<c.size->(c.getD i undef).oneCell'=true) (hw:∀(i:Nat) (x:AV),xs[i]? =some x->x.cells.length=sz) (hf:∀i j,i<xs.length->j<sz->c[i*sz+j]? =some (f i j)) (h1:∀i j,i<xs.length->j<sz->(f i j).oneCell'=true)
  (hv:∀(i:Nat) (x:AV) (j:Nat) v,xs[i]? =some x->x.cells[j]? =some v->zV w (xF X β) h β v (f i j)):
  ∃β',xM X w h β (w.alloc (.cells c el)) (over [(k,.arr sz xs ⟨false,true⟩)] h) β'/\zV (w.alloc (.cells c el)) (xF X β') (over [(k,.arr sz xs ⟨false,true⟩)] h) β' (.ref k 0 xs.length) (.slice (some ⟨w.heap.size,0,none⟩) xs.length cap):=by
 refine⟨_,xM.new H hk (.arr sz xs ⟨false,true⟩) xs.length c el λE=>⟨hp,hm,λ_=>by rw[zW];simp,hw,λb n r hr=>?_,f,λi x j v hx hy=>⟨(hv i x j v hx hy).evo E,λh=>by cases h⟩,h1,λb n hb=>?_⟩,?_⟩
 ·rw[zW]at hr;simp at hr;exact⟨hr.1.2.symm,λ_ b' n' hm=>by rw[hr.2]at hm;simp at hm,λb' n' hm=>by rw[hr.2]at hm;simp at hm⟩
 ·rw[zW]at hb;simp at hb;obtain⟨rfl,rfl⟩:=hb;exact⟨c,el,heap_alloc_new w _,zYg (zXt _ hcap) (zZa hc),hf,hall⟩
 ·have:=zV.ref (w:=w.alloc (.cells c el)) (D:=xF X (cD β k [(w.heap.size,xs.length)])) (h:=over [(k,.arr sz xs ⟨false,true⟩)] h) (β:=cD β k [(w.heap.size,xs.length)]) k 0 xs.length sz xs ⟨false,true⟩ w.heap.size xs.length cap (qH _ _ _)
   (by rw[zW];simp) (by omega) hcap (by
    have:xX (w.alloc (.cells c el)) w.heap.size=c.size:=by
     unfold xX World.shape?;rw[heap_alloc_new];rfl
    rw[this];simpa using hc)
  simpa using this
theorem xM.newFz {X:Nat->Prop} {h:yH} {β:uB} {w:World} (H:kI X h β w) (c:Array Value) (el:Nat):xM X w h β (w.alloc (.cells c el)) h β:=by
 have hold:∀b,b<w.heap.size->(w.alloc (.cells c el)).heap[b]? =w.heap[b]? :=λb hb=>heap_alloc_old w _ b hb
 have hbs:∀k b n,(b,n)∈β k->xX (w.alloc (.cells c el)) b=xX w b:=λk b n hm=>by
  unfold xX World.shape?;rw[hold b (H.lt b (.inr ⟨k,n,hm⟩))]
 have E:JP w (xF X β) h β (w.alloc (.cells c el)) (xF X β) h β:=⟨by simp,λb hb hd=>⟨hold b hb,hd⟩,hbs,qS h β⟩;refine⟨by simp,λb hb _=>hold b hb,λk _ n hm=> .inl ⟨k,n,hm⟩,hbs,qS h β,⟨λk e he=>(H.ent k e he).evo E rfl λb n hm=>hold b (H.lt b (.inr ⟨k,n,hm⟩)),H.off,H.disj,H.free,λb hd=>?_⟩,rfl,rfl,rfl⟩;exact zYh (H.lt b hd) zS
theorem xE.newArr {X:Nat->Prop} {h:yH} {β:uB} {w:World} (H:kI X h β w) (c:Array Value) (el sz:Nat) (xs:List AV) (cap:Nat) (f:Nat->Nat->Value) (hp:1<=sz) (hm:xs.length<=cC)
  (hcap:xs.length<=cap) (hw:∀(i:Nat) (x:AV),xs[i]? =some x->x.cells.length=sz) (hf:∀i j,i<xs.length->j<sz->c[i*sz+j]? =some (f i j)) (h1:∀i j,i<xs.length->j<sz->(f i j).oneCell'=true)
  (hv:∀(i:Nat) (x:AV) (j:Nat) v,xs[i]? =some x->x.cells[j]? =some v->xE w (xF X β) v (f i j)):
  xE (w.alloc (.cells c el)) (xF X β) (.sl true xs) (.slice (some ⟨w.heap.size,0,none⟩) xs.length cap):=by
 have E:=(xM.newFz H c el).evo;by_cases hx:xs=[]
 ·subst hx;exact .nil1 _ _
 ·refine .sl true xs w.heap.size 0 sz cap f hx ⟨by simp,λhd=>?_,hp,hm,hw,λi j hi hj=>?_,h1⟩ hcap λi x j v hx hy=>(hv i x j v hx hy).evo E.size E.fz
  ·have:=H.lt _ hd;omega
  ·rw[zYe];simp only[World.cell?,heap_alloc_new];exact hf i j hi hj
theorem xE.wkF {w:World} {D:Nat->Prop} {nn:Bool} {xs:List AV} {c:Value} (h:xE w D (.sl nn xs) c):xE w D (.sl false xs) c:=by
 cases h with
 |nil a cap=>exact .nil a cap
 |nil1 a cap=>exact .nil _ cap
 |sl nn xs b o sz cap f hx hL hc hh=>exact .sl false xs b o sz cap f hx hL hc hh
end Av
end Go.Proofs.YtmamjhmoegjapaaGreat
