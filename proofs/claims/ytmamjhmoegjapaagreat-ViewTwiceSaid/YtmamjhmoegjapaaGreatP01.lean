/- Part 1. -/
import Derived.Below
import Derived.Orders
import Derived.LoopN
import Derived.Laws.Sem
import Derived.KernelRfl
import Derived.Laws.AppendOwn
import Derived.Laws.CopyRow
import Derived.IntWalk
import Derived.Laws.MakeOwn
namespace Go.Proofs.YtmamjhmoegjapaaGreat
namespace Av
set_option linter.all false
def zYo:=@if_neg
def zYp:=@if_pos
def zYq:=@List.length_map
def zYr:=@List.length_append
def zYs:=@Nat.le_refl
def zYt:=@List.getElem?_map
def zYu:=@decide_eq_true
def zYv:=@List.take_length
def zYw:=@decide_eq_false
def zYx:=@decide_eq_true_eq
def zYy:=@List.take_of_length_le
def zYz:=@List.map_append
def zY0:=@List.getD_eq_getElem?_getD
def zY1:=@Option.map_eq_some_iff
def zY2:=@List.length_cons
def zY3:=@List.all_eq_true
def zY4:=@Nat.zero_le
def zY5:=@List.length_take
def zY6:=@Bool.and_eq_true
def zY7:=@Nat.le_of_ble_eq_true
def zY8:=@Nat.mul_le_mul_right
def zY9:=@decide_eq_false_iff_not
def zZa:=@List.mem_append
def zZb:=@Bool.false_ne_true
def zZc:=@List.append_assoc
def zZd:=@List.getElem?_eq_getElem
def zZe:=@List.getElem?_append_right
def zZf:=@List.getElem?_append_left
def zZg:=@List.getElem?_eq_some_iff
def zZh:=@Bool.true_and
def zZi:=@List.mem_range
def zZj:=@List.getElem?_eq_none
def zZk:=@List.length_drop
def zZl:=@congrArg
def zZm:=@Nat.eq_of_beq_eq_true
def zZn:=@List.mem_of_mem_drop
def zZo:=@List.append_nil
def zZp:=@List.eq_nil_of_length_eq_zero
def zZq:=@Array.getD_eq_getD_getElem?
def zZr:=@List.getElem?_range
def zZs:=@Nat.add_mul
def zZt:=@Nat.zero_add
def zZu:=@List.mem_singleton
def zZv:=@List.drop_zero
def zZw:=@beq_eq_false_iff_ne
def zZx:=@Nat.lt_of_lt_of_le
def zZy:=@Nat.le_trans
def zZz:=@List.length_nil
def zZ0:=@List.length_replicate
def zZ1:=@List.mem_of_mem_take
def zZ2:=@List.getElem?_take
def zZ3:=@List.mem_map
def zZ4:=@List.mem_of_getElem?
def zZ5:=@List.mem_cons
def zZ6:=@Option.some.injEq
def zZ7:=@beq_iff_eq
def zZ8:=@cond_true
def zZ9:=@List.ext_getElem?
def yAa:=@List.map_cons
def yAb:=@bne_eq_false_iff_eq
def yAc:=@Int.toNat_natCast
def yAd:=@List.any_eq_true
def yAe:=@List.length_range
def yAf:=@Bool.false_and
def yAg:=@List.getElem?_set_self
def yAh:=@Int.tdiv_eq_ediv_of_nonneg
def yAi:=@Int.tmod_eq_emod_of_nonneg
def yAj:=@List.getElem?_drop
def yAk:=@List.length_set
def yAl:=@Nat.one_mul
def yAm:=@List.getElem?_replicate
def yAn:=@List.contains_iff_mem
def yAo:=@Prod.mk.injEq
def yAp:=@cond_false
def yAq:=@Nat.le_of_eq
def yAr:=@Array.getElem?_append_left
def yAs:=@Array.getElem?_eq_some_iff
def yAt:=@Bool.or_eq_true
def yAu:=@Int.le_refl
def yAv:=@List.length_filter_le
def yAw:=@List.map_set
def yAx:=@List.getElem?_set
def yAy:=@bne_iff_ne
def yAz:=@List.getElem_of_mem
def yA0:=@Nat.sub_self
def yA1:=@Option.getD_some
def yA2:=@Option.some.inj
def yA3:=@Bool.not_eq_true'
def yA4:=@Bool.true_or
def yA5:=@List.map_nil
def yA6:=@List.take_add_one
def yA7:=@List.getElem?_toArray
def yA8:=@List.length_singleton
def yA9:=@List.nil_append
def yBa:=@List.range_succ
def yBb:=@Nat.not_lt_zero
def yBc:=@Bool.not_eq_true
def yBd:=@List.cons_append
def yBe:=@Bool.or_true
def yBf:=@List.flatten_cons
def yBg:=@List.take_append_of_le_length
def yBh:=@Bool.false_or
def yBi:=@Nat.add_zero
def yBj:=@Array.length_toList
def yBk:=@List.size_toArray
def yBl:=@List.mem_filter
def yBm:=@List.getElem_mem
def yBn:=@Nat.mod_eq_of_lt
def yBo:=@List.drop_eq_getElem_cons
def yBp:=@List.all_eq_false
def yBq:=@List.any_eq_false
def yBr:=@List.set_append_right
def yBs:=@List.take_zero
def yBt:=@Option.map_none
def yBu:=@Int.emod_lt_of_pos
def yBv:=@List.filter_cons_of_pos
def yBw:=@Nat.mul_le_mul
def yBx:=@Classical.byContradiction
def yBy:=@List.mem_or_eq_of_mem_set
def yBz:=@List.filter_append
def yB0:=@List.getElem?_of_mem
def yB1:=@Int.eq_ofNat_of_zero_le
def yB2:=@List.filter_cons_of_neg
def yB3:=@Decidable.not_not
def yB4:=@Int.emod_nonneg
def yB5:=@ne_eq
def yB6:=@List.drop_succ_cons
def yB7:=@List.map_congr_left
def yB8:=@List.zipWith_cons_cons
def yB9:=@Int.fdiv_eq_ediv_of_nonneg
def yCa:=@List.map_drop
def yCb:=@List.map_take
def yCc:=@List.mem_flatten
def yCd:=@List.map_replicate
def yCe:=@List.take_append_drop
def yCf:=@List.drop_append_of_le_length
def yCg:=@List.replicate_succ
def yCh:=@Bool.and_false
def yCi:=@List.drop_length
def yCj:=@List.drop_eq_nil_of_le
def yCk:=@Array.getElem?_append_right
def yCl:=@BitVec.toNat_ofNat
def yCm:=@Nat.zero_mul
def yCn:=@Nat.min_eq_left
def yCo:=@Nat.lt_irrefl
def yCp:=@BitVec.ofInt_natCast
def yCq:=@List.mem_iff_getElem
def yCr:=@List.pairwise_append
def yCs:=@Nat.pow_le_pow_right
def yCt:=@List.not_mem_nil
def yCu:=@List.take_succ_eq_append_getElem
def yCv:=@List.length_zipWith
def yCw:=@List.take_succ_cons
def yCx:=@Bool.and_true
def yCy:=@List.mem_replicate
def yCz:=@List.pairwise_cons
def yC0:=@List.set_cons_zero
def yC1:=@List.drop_of_length_le
def yC2:=@Bool.eq_false_iff
def yC3:=@of_decide_eq_true
def yC4:=@List.map_map
def yC5:=@Nat.ble_eq_true_of_le
def yC6:=@Nat.mul_comm
def yC7:=@Int.not_le
def yC8:=@Int.not_lt
def yC9:=@List.getElem?_set_ne
def yDa:=@List.getElem?_zipIdx
def yDb:=@Nat.le_of_mul_le_mul_right
def yDc:=@Nat.sub_mul
def yDd:=@List.flatten_append
def yDe:=@List.replicate_zero
def yDf:=@Bool.eq_iff_iff
def yDg:=@List.mem_of_find?_eq_some
def yDh:=@List.take_left'
def yDi:=@Nat.mul_add_mod
def yDj:=@Int.natCast_nonneg
def yDk:=@List.find?_eq_none
def yDl:=@List.set_set
def yDm:=@List.take_append_getElem
def yDn:=@Nat.le_of_lt
def yDo:=@Nat.sub_zero
def yDp:=@Bool.not_false
def yDq:=@List.drop_left
def yDr:=@Array.size_append
def yDs:=@List.foldl_append
def yDt:=@Bool.not_true
def yDu:=@Nat.add_assoc
def yDv:=@Array.toList_map
def yDw:=@List.getElem?_zipWith
def yDx:=@List.set_getElem_self
def yDy:=@List.singleton_append
def yDz:=@Array.getElem?_range
def yD0:=@List.replicate_succ'
def yD1:=@Int.toNat_of_nonneg
def yD2:=@List.filter_eq_self
def yD3:=@List.nodup_nil
def yD4:=@List.take_take
def yD5:=@or_false
def yD6:=@Array.getElem?_map
def yD7:=@Int.tmod_lt_of_pos
def yD8:=@Option.toList_some
def yD9:=@Bool.or_false
def yEa:=@Array.all_eq_true
def yEb:=@List.find?_append
def yEc:=@not_true_eq_false
def yEd:=@if_true
def yEe:=@Int.pow_succ
def yEf:=@List.mem_toArray
def yEg:=@Int.natCast_add
def yEh:=@Int.tmod_nonneg
def yEi:=@List.drop_left'
def yEj:=@List.find?_cons
def yEk:=@List.find?_some
def yEl:=@List.drop_drop
def yEm:=@List.mapM_cons
def yEn:=@Nat.testBit_or
def yEo:=@dif_pos
def yEp:=@Nat.mod_lt
def yEq:=@List.all_cons
def yEr:=@Int.min_self
def yEs:=@and_false
def yEt:=@decide_false
theorem zU {p:Prop} (h:p:=by simp):p:=h
theorem xN {p:Prop} (h:p:=by decide):p:=h
theorem wI {p:Prop} (h:p:=by(simp;omega)):p:=h
theorem uG {p:Prop} (h:p:=by simp[Op.operands]):p:=h
theorem qH {p:Prop} (h:p:=by simp[Op.operands,Call.operands]):p:=h
theorem kC {p:Prop} (h:p:=by(first|rfl|assumption)):p:=h
theorem aH {p:Prop} (h:p:=by simp[List.getD,hi']):p:=h
theorem RP {p:Prop} (h:p:=by(rw[zZk];omega)):p:=h
theorem OE {p:Prop} (h:p:=by kernel_rfl):p:=h
theorem OF {p:Prop} (h:p:=by assumption):p:=h
theorem XA {p:Prop} (h:p:=by(have:=H.vl;omega)):p:=h
theorem VV {p:Prop} (h:p:=by simpa using h):p:=h
theorem VW {p:Prop} (h:p:=by simp[hi]):p:=h
theorem VX {p:Prop} (h:p:=by simp[hx]):p:=h
theorem OG {p:Prop} (h:p:=by simp[hk]):p:=h
theorem OH {p:Prop} (h:p:=by(rw[<-e3];exact hv)):p:=h
theorem OI {p:Prop} (h:p:=by(rw[hh j hj];exact hk')):p:=h
theorem LQ {p:Prop} (h:p:=by(rw[hk];rfl)):p:=h
theorem LR {p:Prop} (h:p:=by(rw[hk];exact q1)):p:=h
theorem LS {p:Prop} (h:p:=by simpa using h2):p:=h
theorem LT {p:Prop} (h:p:=by(rw[hbk,e];simp)):p:=h
theorem EK {p:Prop} (h:p:=by simpa using hl):p:=h
theorem EL {p:Prop} (h:p:=by simpa using hi):p:=h
theorem EM {p:Prop} (h:p:=by simpa using hv):p:=h
theorem EN {p:Prop} (h:p:=by simpa using h1):p:=h
theorem EO {p:Prop} (h:p:=by simpa using this):p:=h
theorem EP {p:Prop} (h:p:=by simpa using hn):p:=h
theorem zB4 {p:Prop} (h:p:=by(rw[hl]at hi;omega)):p:=h
theorem zB5 {p:Prop} (h:p:=by(rw[hβ j hj];exact hb)):p:=h
theorem zB6 {p:Prop} (h:p:=by(rw[zY5];omega)):p:=h
theorem zB7 {p:Prop} (h:p:=by(rw[zYx];exact hs)):p:=h
theorem zB8 {p:Prop} (h:p:=by(have:=J.n;omega)):p:=h
theorem zB9 {p:Prop} (h:p:=by rw[zYq,hp]):p:=h
theorem zHz {p:Prop} (h:p:=by(first|exact yCa.symm|rfl)):p:=h
theorem zH0 {p:Prop} (h:p:=by(first|exact yCb.symm|rfl)):p:=h
theorem zH1 {p:Prop} (h:p:=by(first|assumption|rfl)):p:=h
theorem zH2 {p:Prop} (h:p:=by(rw[hh j hk];exact hk')):p:=h
theorem zH3 {p:Prop} (h:p:=by rw[zZv,zYv]):p:=h
theorem zH4 {p:Prop} (h:p:=by(rw[yAk,zYq];exact zYs _)):p:=h
theorem zH5 {p:Prop} (h:p:=by(rw[hq];exact zZb)):p:=h
theorem zQ8 {p:Prop} (h:p:=by(rcases hk with hk|hk|hk|hk<;>rw[hk]<;>rfl)):p:=h
theorem zQ9 {p:Prop} (h:p:=by(simp[List.getD];rw[zZd zB];simp)):p:=h
theorem zRa {p:Prop} (h:p:=by rw[<-yBo hi,yCe]):p:=h
theorem zRb {p:Prop} (h:p:=by rw[hN,zZv,<-hz3l,zYv]):p:=h
theorem zRc {p:Prop} (h:p:=by(rw[zY5,zZk];omega)):p:=h
inductive AV where
 |bot
 |gh (n:Nat)
 |s (v:Value)
 |agg (cs:List AV)
 |sl (nn:Bool) (xs:List AV)
 |slc (cap:Nat) (xs:List AV)
 |ref (k off len:Nat)
 |ptr (k i off:Nat)
 |fp (xs:List AV) (i off:Nat)
 |fn (f:Nat) (caps:List AV)
 |tup (vs:List AV)
 deriving Inhabited
def AV.cells:AV->List AV
 | .agg cs=>cs
 |v=>[v]
def AV.isAgg:AV->Bool
 | .agg _=>true
 |_=>false
def dT:Nat:=9223372036854775807
structure Lay (w:World) (D:Nat->Prop) (xs:List AV) (b o sz:Nat) (f:Nat->Nat->Value):Prop where
 lt:b<w.heap.size
 nd:¬D b
 pos:1<=sz
 max:xs.length<=dT
 wide:∀(i:Nat) (x:AV),xs[i]? =some x->x.cells.length=sz
 cell:∀i j,i<xs.length->j<sz->w.cell? ⟨b,o+i*sz+j,none⟩=some (f i j)
 one:∀i j,i<xs.length->j<sz->(f i j).oneCell'=true
inductive xG (w:World) (D:Nat->Prop):AV->Value->Prop
 |bot (c:Value):xG w D .bot c
 |gh (n:Nat) (c:Value):xG w D (.gh n) c
 |s (v:Value):xG w D (.s v) v
 |agg (cs:List AV) (c:Array Value) (hl:c.size=cs.length) (h1:∀i,i<c.size->(c.getD i undef).oneCell'=true) (h:∀(i:Nat) v,cs[i]? =some v->xG w D v (c.getD i undef)):xG w D (.agg cs) (.agg c)
 |nil (a:Option Addr) (cap:Nat):xG w D (.sl false []) (.slice a 0 cap)
 |nil1 (a:Addr) (cap:Nat):xG w D (.sl true []) (.slice (some a) 0 cap)
 |sl (nn:Bool) (xs:List AV) (b o sz cap:Nat) (f:Nat->Nat->Value) (hx:xs≠[]) (hL:Lay w D xs b o sz f) (hc:xs.length<=cap)
  (h:∀(i:Nat) (x:AV) (j:Nat) v,xs[i]? =some x->x.cells[j]? =some v->xG w D v (f i j)):xG w D (.sl nn xs) (.slice (some ⟨b,o,none⟩) xs.length cap)
 |slc (cap:Nat) (xs:List AV) (b o sz:Nat) (f:Nat->Nat->Value) (hL:Lay w D xs b o sz f) (hc:xs.length<=cap)
  (h:∀(i:Nat) (x:AV) (j:Nat) v,xs[i]? =some x->x.cells[j]? =some v->xG w D v (f i j)):xG w D (.slc cap xs) (.slice (some ⟨b,o,none⟩) xs.length cap)
 |fp (xs:List AV) (b o sz i off:Nat) (f:Nat->Nat->Value) (hL:Lay w D xs b o sz f) (hi:i<xs.length) (ho:off<sz)
  (h:∀(i:Nat) (x:AV) (j:Nat) v,xs[i]? =some x->x.cells[j]? =some v->xG w D v (f i j)):xG w D (.fp xs i off) (.pointer (some ⟨b,o+i*sz+off,none⟩))
structure Fl where
 stale:Bool
 nest:Bool
instance:Coe Bool Fl:=⟨λb=>⟨b,false⟩⟩
inductive xP where
 |box (cs:List AV)
 |arr (sz:Nat) (xs:List AV) (fl:Fl)
 |dead
abbrev yI:=Nat->Option xP
abbrev uH:=Nat->List (Nat×Nat)
def xZ (w:World) (b:Nat):Nat:=((w.shape? b).map (·.2)).getD 0
inductive zX (w:World) (D:Nat->Prop) (h:yI) (β:uH):AV->Value->Prop
 |fz (v:AV) (c:Value) (hf:xG w D v c):zX w D h β v c
 |agg (cs:List AV) (c:Array Value) (hl:c.size=cs.length) (h1:∀i,i<c.size->(c.getD i undef).oneCell'=true) (hh:∀(i:Nat) v,cs[i]? =some v->zX w D h β v (c.getD i undef)):zX w D h β (.agg cs) (.agg c)
 |fn (f:Nat) (caps:List AV) (c:Array Value) (hl:c.size=caps.length) (hh:∀(i:Nat) v,caps[i]? =some v->zX w D h β v (c.getD i undef)):zX w D h β (.fn f caps) (.func (.func f) #[] c)
 |tup (vs:List AV) (c:Array Value) (hl:c.size=vs.length) (hh:∀(i:Nat) v,vs[i]? =some v->zX w D h β v (c.getD i undef)):zX w D h β (.tup vs) (.tuple c)
 |dref (k off len:Nat) (c:Value) (hk:h k=some .dead) (h1:c.oneCell'=true):zX w D h β (.ref k off len) c
 |dptr (k i off:Nat) (c:Value) (hk:h k=some .dead) (h1:c.oneCell'=true):zX w D h β (.ptr k i off) c
 |ref (k off len sz:Nat) (xs:List AV) (st:Fl) (b n cap:Nat) (hk:h k=some (.arr sz xs st)) (hb:(b,n)∈β k) (hn:off+len<=n) (hc:len<=cap) (hs:(off+cap)*sz=xZ w b):
  zX w D h β (.ref k off len) (.slice (some ⟨b,off*sz,none⟩) len cap)
 |ref0 (k off sz:Nat) (xs:List AV) (st:Fl) (a:Option Addr) (hk:h k=some (.arr sz xs st)) (hn:off<=xs.length):zX w D h β (.ref k off 0) (.slice a 0 0)
 |pbox (k off:Nat) (cs:List AV) (b n:Nat) (hk:h k=some (.box cs)) (hb:(b,n)∈β k):zX w D h β (.ptr k 0 off) (.pointer (some ⟨b,off,none⟩))
 |parr (k i off sz:Nat) (xs:List AV) (st:Fl) (b n:Nat) (hk:h k=some (.arr sz xs st)) (hb:(b,n)∈β k) (hi:i<n) (ho:off<sz):
  zX w D h β (.ptr k i off) (.pointer (some ⟨b,i*sz+off,none⟩))
def xH (X:Nat->Prop) (β:uH) (b:Nat):Prop:=X b∨∃k n,(b,n)∈β k
def jO (w:World) (D:Nat->Prop) (h:yI) (β:uH) (nest:Bool) (xs:List AV) (f:Nat->Nat->Value):Prop:=
 ∀(i:Nat) (x:AV) (j:Nat) v,xs[i]? =some x->x.cells[j]? =some v->zX w D h β v (f i j)/\(nest=false->xG w D v (f i j))
theorem jO.ofF {w:World} {D:Nat->Prop} {h:yI} {β:uH} {nest:Bool} {xs:List AV} {f:Nat->Nat->Value} (H:∀(i:Nat) (x:AV) (j:Nat) v,xs[i]? =some x->x.cells[j]? =some v->xG w D v (f i j)):jO w D h β nest xs f:=
 λi x j v hx hv=>⟨.fz _ _ (H i x j v hx hv),λ_=>H i x j v hx hv⟩
theorem jO.toF {w:World} {D:Nat->Prop} {h:yI} {β:uH} {nest:Bool} {xs:List AV} {f:Nat->Nat->Value} (H:jO w D h β nest xs f) (hn:nest=false) (i:Nat) (x:AV) (j:Nat) (v:AV) (hx:xs[i]? =some x) (hv:x.cells[j]? =some v):xG w D v (f i j):=
 (H i x j v hx hv).2 hn
theorem jO.toV {w:World} {D:Nat->Prop} {h:yI} {β:uH} {nest:Bool} {xs:List AV} {f:Nat->Nat->Value} (H:jO w D h β nest xs f) (i:Nat) (x:AV) (j:Nat) (v:AV) (hx:xs[i]? =some x) (hv:x.cells[j]? =some v):zX w D h β v (f i j):=
 (H i x j v hx hv).1
def VY (w:World) (D:Nat->Prop) (h:yI) (β:uH) (k:Nat):xP->Prop
 | .box cs=>∃b c el,β k=[(b,0)]/\w.heap[b]? =some (.cells c el (0,0))/\c.size=cs.length/\(∀i,i<c.size->(c.getD i undef).oneCell'=true)/\∀(i:Nat) v,cs[i]? =some v->zX w D h β v (c.getD i undef)
 | .arr sz xs st=>1<=sz/\xs.length<=dT/\(xs≠[]->β k≠[])/\(∀(i:Nat) (x:AV),xs[i]? =some x->x.cells.length=sz)/\
  (∀b n r,β k=(b,n)::r->n=xs.length/\(st.stale=false->∀b' n',(b',n')∈r->n'=0)/\∀b' n',(b',n')∈r->n'<xs.length)/\
  ∃f:Nat->Nat->Value,jO w D h β st.nest xs f/\(∀i j,i<xs.length->j<sz->(f i j).oneCell'=true)/\
   ∀b n,(b,n)∈β k->∃c el,w.heap[b]? =some (.cells c el (0,0))/\n*sz<=c.size/\(∀i j,i<n->j<sz->c[i*sz+j]? =some (f i j))/\∀i,i<c.size->(c.getD i undef).oneCell'=true
 | .dead=>β k=[]
structure kQ (X:Nat->Prop) (h:yI) (β:uH) (w:World):Prop where
 ent:∀k e,h k=some e->VY w (xH X β) h β k e
 off:∀k,h k=none->β k=[]
 disj:∀k k' b n n',(b,n)∈β k->(b,n')∈β k'->k=k'
 free:∀k b n,(b,n)∈β k->¬X b
 lt:∀b,xH X β b->b<w.heap.size
structure IF (w:World) (D:Nat->Prop) (h:yI) (β:uH) (w':World) (D':Nat->Prop) (h':yI) (β':uH):Prop where
 size:w.heap.size<=w'.heap.size
 fz:∀b,b<w.heap.size->¬D b->w'.heap[b]? =w.heap[b]? /\¬D' b
 bs:∀k b n,(b,n)∈β k->xZ w' b=xZ w b
 key:∀k e,h k=some e->h' k=some .dead∨match e with
  | .dead=>False
  | .box _=>(∃cs',h' k=some (.box cs'))/\∀b n,(b,n)∈β k->(b,n)∈β' k
  | .arr sz xs _=>(∃xs' st',h' k=some (.arr sz xs' st')/\xs.length<=xs'.length)/\∀b n,(b,n)∈β k->∃n',n<=n'/\(b,n')∈β' k
theorem Lay.evo {w w':World} {D D':Nat->Prop} {xs:List AV} {b o sz:Nat} {f:Nat->Nat->Value} (hL:Lay w D xs b o sz f) (hs:w.heap.size<=w'.heap.size)
  (hf:∀b,b<w.heap.size->¬D b->w'.heap[b]? =w.heap[b]? /\¬D' b):Lay w' D' xs b o sz f:=
 ⟨zZx hL.lt hs,(hf b hL.lt hL.nd).2,hL.pos,hL.max,hL.wide,λi j hi hj=>(World.cell?_of_block (a:=⟨b,o+i*sz+j,none⟩) (hf b hL.lt hL.nd).1).trans (hL.cell i j hi hj),hL.one⟩
theorem xG.evo {w w':World} {D D':Nat->Prop} (hs:w.heap.size<=w'.heap.size) (hf:∀b,b<w.heap.size->¬D b->w'.heap[b]? =w.heap[b]? /\¬D' b)
  {v:AV} {c:Value} (h:xG w D v c):xG w' D' v c:=by
 induction h with
 |bot c=>exact .bot c
 |gh n c=>exact .gh n c
 |s v=>exact .s v
 |agg cs c hl h1 _ ih=>exact .agg cs c hl h1 ih
 |nil a cap=>exact .nil a cap
 |nil1 a cap=>exact .nil1 a cap
 |sl nn xs b o sz cap f hx hL hc _ ih=>exact .sl nn xs b o sz cap f hx (hL.evo hs hf) hc ih
 |slc cap xs b o sz f hL hc _ ih=>exact .slc cap xs b o sz f (hL.evo hs hf) hc ih
 |fp xs b o sz i off f hL hi ho _ ih=>exact .fp xs b o sz i off f (hL.evo hs hf) hi ho ih
theorem zX.evo {w w':World} {D D':Nat->Prop} {h h':yI} {β β':uH} (E:IF w D h β w' D' h' β') {v:AV} {c:Value} (hv:zX w D h β v c):zX w' D' h' β' v c:=by
 induction hv with
 |fz v c hf=>exact .fz v c (hf.evo E.size E.fz)
 |agg cs c hl h1 _ ih=>exact .agg cs c hl h1 ih
 |fn f caps c hl _ ih=>exact .fn f caps c hl ih
 |tup vs c hl _ ih=>exact .tup vs c hl ih
 |dref k off len c hk h1=>exact .dref _ _ _ _ ((E.key k _ hk).resolve_right (λf=>f)) h1
 |dptr k i off c hk h1=>exact .dptr _ _ _ _ ((E.key k _ hk).resolve_right (λf=>f)) h1
 |ref k off len sz xs st b n cap hk hb hn hc hs=>
  rcases E.key k _ hk with hd|⟨⟨xs',st',hk',_⟩,hm⟩
  ·exact .dref _ _ _ _ hd rfl
  ·obtain⟨n',hn',hb'⟩:=hm b n hb;exact .ref k off len sz xs' st' b n' cap hk' hb' (zZy hn hn') hc (by rw[E.bs k b n hb];exact hs)
 |ref0 k off sz xs st a hk hn=>
  rcases E.key k _ hk with hd|⟨⟨xs',st',hk',hl⟩,hm⟩
  ·exact .dref _ _ _ _ hd rfl
  ·exact .ref0 k off sz xs' st' a hk' (zZy hn hl)
 |pbox k off cs b n hk hb=>
  rcases E.key k _ hk with hd|⟨⟨cs',hk'⟩,hm⟩
  ·exact .dptr _ _ _ _ hd rfl
  ·exact .pbox k off cs' b n hk' (hm b n hb)
 |parr k i off sz xs st b n hk hb hi ho=>
  rcases E.key k _ hk with hd|⟨⟨xs',st',hk',hl⟩,hm⟩
  ·exact .dptr _ _ _ _ hd rfl
  ·obtain⟨n',hn',hb'⟩:=hm b n hb;exact .parr k i off sz xs' st' b n' hk' hb' (zZx hi hn') ho
theorem jO.evo {w w':World} {D D':Nat->Prop} {h h':yI} {β β':uH} (E:IF w D h β w' D' h' β') {nest:Bool} {xs:List AV} {f:Nat->Nat->Value} (H:jO w D h β nest xs f):jO w' D' h' β' nest xs f:=
 λi x j v hx hv=>⟨(H i x j v hx hv).1.evo E,λhn=>((H i x j v hx hv).2 hn).evo E.size E.fz⟩
structure xL (X:Nat->Prop) (w:World) (h:yI) (β:uH) (w':World) (h':yI) (β':uH):Prop where
 size:w.heap.size<=w'.heap.size
 keep:∀b,b<w.heap.size->(∀k n,(b,n)∉β k)->w'.heap[b]? =w.heap[b]?
 own:∀k b n,(b,n)∈β' k->(∃k' n',(b,n')∈β k')∨w.heap.size<=b
 bs:∀k b n,(b,n)∈β k->xZ w' b=xZ w b
 key:∀k e,h k=some e->h' k=some .dead∨match e with
  | .dead=>False
  | .box _=>(∃cs',h' k=some (.box cs'))/\∀b n,(b,n)∈β k->(b,n)∈β' k
  | .arr sz xs _=>(∃xs' st',h' k=some (.arr sz xs' st')/\xs.length<=xs'.length)/\∀b n,(b,n)∈β k->∃n',n<=n'/\(b,n')∈β' k
 hok:kQ X h' β' w'
 os:w'.os=w.os
 tape:w'.tape=w.tape
 output:w'.output=w.output
theorem xL.evo {X:Nat->Prop} {w w':World} {h h':yI} {β β':uH} (G:xL X w h β w' h' β'):IF w (xH X β) h β w' (xH X β') h' β' where
 size:=G.size
 fz b hb hd:=by
  have h1:∀k n,(b,n)∉β k:=λk n hm=>hd (.inr ⟨k,n,hm⟩)
  refine⟨G.keep b hb h1,?_⟩;rintro(hx|⟨k,n,hm⟩)
  ·exact hd (.inl hx)
  ·rcases G.own k b n hm with⟨k',n',h2⟩|h2
   ·exact h1 _ _ h2
   ·omega
 bs:=G.bs
 key:=G.key
theorem kD (h:yI) (β:uH):∀k e,h k=some e->h k=some .dead∨match e with
  | .dead=>False
  | .box _=>(∃cs',h k=some (.box cs'))/\∀b n,(b,n)∈β k->(b,n)∈β k
  | .arr sz xs _=>(∃xs' st',h k=some (.arr sz xs' st')/\xs.length<=xs'.length)/\∀b n,(b,n)∈β k->∃n',n<=n'/\(b,n')∈β k:=by
 intro k e he
 cases e with
 |dead=>exact .inl he
 |box cs=>exact .inr ⟨⟨cs,he⟩,λ_ _ h=>h⟩
 |arr sz xs st=>exact .inr ⟨⟨xs,st,he,zYs _⟩,λ_ n h=>⟨n,zYs _,h⟩⟩
theorem xL.refl {X:Nat->Prop} {h:yI} {β:uH} {w:World} (H:kQ X h β w):xL X w h β w h β:=
 ⟨zYs _,λ_ _ _=>rfl,λk _ n hm=> .inl ⟨k,n,hm⟩,λ_ _ _ _=>rfl,kD h β,H,rfl,rfl,rfl⟩
theorem kQ.drew {X:Nat->Prop} {h:yI} {β:uH} {w:World} (H:kQ X h β w) (n:Nat):kQ X h β {w with drawn:=n}:=by
 have ev:∀{v c},zX w (xH X β) h β v c->zX {w with drawn:=n} (xH X β) h β v c:=λhv=>
  zX.evo (w:=w) (w':={w with drawn:=n}) (D':=xH X β) (h':=h) (β':=β) ⟨zYs _,λ_ _ hd=>⟨rfl,hd⟩,λ_ _ _ _=>rfl,kD h β⟩ hv
 have ef:∀{v c},xG w (xH X β) v c->xG {w with drawn:=n} (xH X β) v c:=λhv=>xG.evo (w:=w) (w':={w with drawn:=n}) (D':=xH X β) (zYs _) (λ_ _ hd=>⟨rfl,hd⟩) hv
 refine⟨λk e he=>?_,H.off,H.disj,H.free,H.lt⟩;have:=H.ent k e he
 cases e with
 |dead=>exact this
 |box cs=>
  obtain⟨b,c,el,h1,h2,h3,h4,h5⟩:=this;exact⟨b,c,el,h1,h2,h3,h4,λi v hv=>ev (h5 i v hv)⟩
 |arr sz xs st=>
  obtain⟨h1,h2,h3,h4,h5,f,h6,h7⟩:=this;exact⟨h1,h2,h3,h4,h5,f,λi x j v hx hv=>⟨ev (h6 i x j v hx hv).1,λhn=>ef ((h6 i x j v hx hv).2 hn)⟩,h7⟩
theorem xL.drew {X:Nat->Prop} {h:yI} {β:uH} {w:World} (H:kQ X h β w) (n:Nat):xL X w h β {w with drawn:=n} h β:=
 ⟨zYs _,λ_ _ _=>rfl,λk _ n hm=> .inl ⟨k,n,hm⟩,λ_ _ _ _=>rfl,kD h β,H.drew n,rfl,rfl,rfl⟩
theorem xL.trans {X:Nat->Prop} {w w' w'':World} {h h' h'':yI} {β β' β'':uH} (H:kQ X h β w) (G:xL X w h β w' h' β') (K:xL X w' h' β' w'' h'' β''):xL X w h β w'' h'' β'' where
 size:=zZy G.size K.size
 keep b hb hn:=by
  rw[K.keep b (zZx hb G.size),G.keep b hb hn];intro k n hm
  rcases G.own k b n hm with⟨k',n',h2⟩|h2
  ·exact hn _ _ h2
  ·omega
 own k b n hm:=by
  rcases K.own k b n hm with⟨k',n',h2⟩|h2
  ·exact G.own k' b n' h2
  ·exact .inr (zZy G.size h2)
 bs k b n hm:=by
  have hb:=H.lt b (.inr ⟨k,n,hm⟩);by_cases hd:∃k n,(b,n)∈β' k
  ·obtain⟨k',n',hm'⟩:=hd;rw[K.bs k' b n' hm',G.bs k b n hm]
  ·rw[<-G.bs k b n hm];unfold xZ World.shape?;rw[K.keep b (zZx hb G.size) λk n hm=>hd ⟨k,n,hm⟩]
 key k e he:=by
  rcases G.key k e he with h1|h1
  ·rcases K.key k _ h1 with h2|h2
   ·exact .inl h2
   ·exact h2.elim
  ·cases e with
   |dead=>exact h1.elim
   |box cs=>
    obtain⟨⟨cs',h2⟩,h3⟩:=h1
    rcases K.key k _ h2 with h4|⟨h4,h5⟩
    ·exact .inl h4
    ·exact .inr ⟨h4,λb n hm=>h5 b n (h3 b n hm)⟩
   |arr sz xs st=>
    obtain⟨⟨xs',st',h2,hl⟩,h3⟩:=h1
    rcases K.key k _ h2 with h4|⟨⟨xs'',st'',h4,hl'⟩,h5⟩
    ·exact .inl h4
    ·refine .inr ⟨⟨xs'',st'',h4,zZy hl hl'⟩,λb n hm=>?_⟩;obtain⟨n',hn',hm'⟩:=h3 b n hm;obtain⟨n'',hn'',hm''⟩:=h5 b n' hm';exact⟨n'',zZy hn' hn'',hm''⟩
 hok:=K.hok
 os:=K.os.trans G.os
 tape:=K.tape.trans G.tape
 output:=K.output.trans G.output
section
inductive TD where
 |str (fs:List (Nat×Nat))
 |slice (e:Nat)
 |arr (n e:Nat)
 |int (k:IntKind)
 |bool
 |string
 |ptr (e:Nat)
 |func
 |other
structure TI where
 d:TD
 size:Nat
 bytes:Nat
 zero:List Value
def TD.agg:TD->Bool
 | .str _| .arr _ _=>true
 |_=>false
def YT:TypeDesc->TD
 | .struct fs=> .str (fs.toList.map λf=>(f.offset,f.type))
 | .slice e=> .slice e
 | .array n e=> .arr n e
 | .int k=> .int k
 | .bool=> .bool
 | .string=> .string
 | .pointer e=> .ptr e
 | .func .. => .func
 |_=> .other
def zH6 (P:Program) (t:Nat):Option TI:=
 match P.info? t,P.underlying t with
 |some i,some u=>i.zero.map λz=>⟨YT u,i.size,i.bytes,z.cells.toList⟩
 |_,_=>none
def uN (P:Program) (TT:List TI):Prop:=∀(t:Nat) ti,TT[t]? =some ti->zH6 P t=some ti
theorem vY {P:Program} {t:Nat} {ti:TI} (h:zH6 P t=some ti):∃i u z,P.info? t=some i/\P.underlying t=some u/\i.zero=some z/\ti.d=YT u/\ti.size=i.size/\ti.bytes=i.bytes/\ti.zero=z.cells.toList:=by
 unfold zH6 at h;split at h
 ·rename_i i u hi hu
  cases hz:i.zero with
  |none=>simp[hz]at h
  |some z=>
   simp[hz]at h;exact⟨i,u,z,hi,hu,hz,by rw[<-h],by rw[<-h],by rw[<-h],by rw[<-h]⟩
 ·cases h
section runs
variable {P:Program} {t:Nat} {ti:TI} (h:zH6 P t=some ti) (w:World)
include h
theorem EQ:∃i z,(typeInfo t).run P w= .ok i w/\i.size=ti.size/\i.bytes=ti.bytes/\i.zero=some z/\z.cells.toList=ti.zero:=by
 obtain⟨i,u,z,hi,_,hz,_,hs,hb,hzz⟩:=vY h;exact⟨i,z,by simp[typeInfo,hi],hs.symm,hb.symm,hz,hzz.symm⟩
theorem uO:(sizeOf t).run P w= .ok ti.size w:=by
 obtain⟨i,z,hr,hs,_⟩:=EQ h w;simp[sizeOf,hr,hs]
theorem OJ:∃z,(zeroValue t).run P w= .ok z w/\z.cells.toList=ti.zero:=by
 obtain⟨i,z,hr,_,_,hz,hzz⟩:=EQ h w;exact⟨z,by simp[zeroValue,hr,hz],hzz⟩
theorem xU:∃u,(underlying t).run P w= .ok u w/\YT u=ti.d:=by
 obtain⟨i,u,z,_,hu,_,hd,_⟩:=vY h;exact⟨u,by simp[underlying,hu],hd.symm⟩
theorem zCa:(isAgg t).run P w= .ok ti.d.agg w:=by
 obtain⟨u,hr,hd⟩:=xU h w;rw[<-hd];simp only[isAgg,Sem.run_bind,hr,Result.andThen_ok]
 cases u<;>rfl
end runs
theorem ER {P:Program} {t:Nat} (w:World) {u:TypeDesc} (hu:P.underlying t=some u):(underlying t).run P w= .ok u w:=by simp[underlying,hu]
theorem vP {u:TypeDesc} {e:Nat} (h:YT u= .slice e):u= .slice e:=by cases u<;>simp[YT]at h;rw[h]
theorem zAj {u:TypeDesc} {n e:Nat} (h:YT u= .arr n e):u= .array n e:=by cases u<;>simp[YT]at h;rw[h.1,h.2]
theorem IG {u:TypeDesc} {k:IntKind} (h:YT u= .int k):u= .int k:=by cases u<;>simp[YT]at h;rw[h]
theorem zOh {u:TypeDesc} (h:YT u= .bool):u= .bool:=by cases u<;>simp[YT]at h;rfl
theorem zEn {u:TypeDesc} (h:YT u= .string):u= .string:=by cases u<;>simp[YT]at h;rfl
theorem zH7 {u:TypeDesc} {fs:List (Nat×Nat)} (h:YT u= .str fs):∃f,u= .struct f/\f.toList.map (λf=>(f.offset,f.type))=fs:=by
 cases u with
 |struct f=>exact⟨f,rfl,by simpa [YT]using h⟩
 |_=>simp[YT]at h
structure St where
 tm:List (Nat×AV)
 h:List (Nat×xP)
def zG:List (Nat×AV)->Nat->AV
 | [],_=> .bot
 |(k,v)::r,t=>bif Nat.beq t k then v else zG r t
def zC:List (Nat×xP)->Nat->Option xP
 | [],_=>none
 |(k,e)::r,t=>bif Nat.beq t k then some e else zC r t
def over (d:List (Nat×xP)) (h:yI):yI:=λk=>match zC d k with
 |some e=>some e
 |none=>h k
def yO (tm:Nat->AV):Operand->AV
 | .tmp t=>tm t
 | .const v=> .s v
 | .func f=> .fn f []
 | .global _=> .bot
def fQ (op:Op):List Nat:=op.operands.toList.filterMap λ| .tmp t=>some t|_=>none
def bP (P:Program) (N:Value->World->Prop):Result Next->Prop
 | .ok (.value c) w'=>N c w'
 | .ok .skip w'=>N undef w'
 | .ok (.enter f args) w'=>Calls P f args w' λe w''=>∃c,e= .returned c/\N c w''
 |_=>False
def zWj (P:Program) (X:Nat->Prop) (tm:Nat->AV) (h:yI) (op:Op) (v:AV) (h':yI):Prop:=
 ∀(o:Oper) (a:Act) (w:World) (β:uH),o.op=op->kQ X h β w->(∀t,zX w (xH X β) h β (tm t) (a.eval (.tmp t)))->
  bP P (λc w'=>∃β',xL X w h β w' h' β'/\zX w' (xH X β') h' β' v c) ((execOp a.eval o).run P w)
structure wR (P:Program) (st:St) (op:Op) (v:AV) (d:List (Nat×xP)) (r nw:List Nat):Prop where
 run:∀(X:Nat->Prop) (tm:Nat->AV) (h:yI),(∀t,t∈fQ op->tm t=zG st.tm t)->(∀k,k∈r->h k=zC st.h k)->(∀k,k∈nw->h k=none)->zWj P X tm h op v (over d h)
section
variable {w:World} {D:Nat->Prop} {h:yI} {β:uH}
theorem QE {tm:Nat->AV} {a:Act} (H:∀t,zX w D h β (tm t) (a.eval (.tmp t))) (x:Operand):zX w D h β (yO tm x) (a.eval x):=by
 cases x with
 |tmp t=>exact H t
 |const v=>exact .fz _ _ (.s v)
 |global g=>exact .fz _ _ (.bot _)
 |func f=>exact .fn f [] #[] rfl (λi v hv=>by simp at hv)
theorem zEo {op:Op} {tm tm':Nat->AV} (H:∀t,t∈fQ op->tm t=tm' t) {x:Operand} (hx:x∈op.operands):yO tm x=yO tm' x:=by
 cases x with
 |tmp t=>exact H t (by simp only[fQ,List.mem_filterMap];exact⟨.tmp t,by simpa using hx,rfl⟩)
 |_=>rfl
theorem zX.s_inv {x c:Value} (hv:zX w D h β (.s x) c):c=x:=by
 cases hv with
 |fz _ _ hf=>cases hf;rfl
theorem jP {op:Op} {tm:Nat->AV} {st:St} {a:Act} (H:∀t,zX w D h β (tm t) (a.eval (.tmp t))) (hg:∀t,t∈fQ op->tm t=zG st.tm t) {x:Operand} (hx:x∈op.operands) {v:AV}
  (hv:yO (zG st.tm) x=v):zX w D h β v (a.eval x):=by
 rw[<-hv,<-zEo hg hx];exact QE H x
theorem vN {op:Op} {tm:Nat->AV} {st:St} {a:Act} (H:∀t,zX w D h β (tm t) (a.eval (.tmp t))) (hg:∀t,t∈fQ op->tm t=zG st.tm t) {x:Operand} (hx:x∈op.operands) {v:Value}
 (hv:yO (zG st.tm) x= .s v):a.eval x=v:=(jP H hg hx hv).s_inv
end
theorem dH (h:yI):over [] h=h:=rfl
theorem yR {P:Program} {st:St} {op:Op} {v:AV} {r:List Nat}
  (H:∀(o:Oper) (X:Nat->Prop) (tm:Nat->AV) (h:yI) (w:World) (β:uH) (a:Act),o.op=op->(∀t,t∈fQ op->tm t=zG st.tm t)->(∀k,k∈r->h k=zC st.h k)->kQ X h β w->
   (∀t,zX w (xH X β) h β (tm t) (a.eval (.tmp t)))->∃c,(execOp a.eval o).run P w= .ok (.value c) w/\zX w (xH X β) h β v c):wR P st op v [] r []:=by
 refine⟨?_⟩;intro X tm h hg hr _ o a w β ho HH Ht;obtain⟨c,hc,hv⟩:=H o X tm h w β a ho hg hr HH Ht;rw[hc,dH];exact⟨β,xL.refl HH,hv⟩
section ops
variable {P:Program} {TT:List TI} {st:St}
theorem zH8 {x:Operand} {v:AV} (hv:yO (zG st.tm) x=v):wR P st (.move x) v [] [] []:=
 yR λo X tm h w β a ho hg _ _ Ht=>by
  obtain⟨dst,op',type,pos,after,guard⟩:=o;dsimp only at ho;subst ho;exact⟨a.eval x,rfl,jP Ht hg uG hv⟩
theorem zAk {x:Operand} {v:AV} (hv:yO (zG st.tm) x=v):wR P st (.assign x) v [] [] []:=
 yR λo X tm h w β a ho hg _ _ Ht=>by
  obtain⟨dst,op',type,pos,after,guard⟩:=o;dsimp only at ho;subst ho;exact⟨a.eval x,rfl,jP Ht hg uG hv⟩
theorem zH9 {c x y:Operand} {t:Bool} {v:AV} (hc:yO (zG st.tm) c= .s (.bool t)) (hv:(bif t then yO (zG st.tm) x else yO (zG st.tm) y)=v):wR P st (.pick c x y) v [] [] []:=
 yR λo X tm h w β a ho hg _ _ Ht=>by
  obtain⟨dst,op',type,pos,after,guard⟩:=o;dsimp only at ho;subst ho;have h1:=vN Ht hg (x:=c) uG hc;refine⟨if t then a.eval x else a.eval y,by simp[execOp,h1,asBool],?_⟩;cases t
  ·exact jP Ht hg uG hv
  ·exact jP Ht hg uG hv
theorem ES {x:Operand} {vs:List AV} {i:Nat} {v:AV} (hx:yO (zG st.tm) x= .tup vs) (hv:vs[i]? =some v):wR P st (.extract x i) v [] [] []:=
 yR λo X tm h w β a ho hg _ _ Ht=>by
  obtain⟨dst,op',type,pos,after,guard⟩:=o;dsimp only at ho;subst ho;have h1:=jP Ht hg (x:=x) uG hx;have hi:=(zZg.1 hv).1;generalize he:a.eval x=cx at h1
  cases h1 with
  |fz _ _ hf=>cases hf
  |tup _ c hl hh=>
   obtain⟨u,hc⟩:∃u,c[i]? =some u:=⟨c[i],by simp[show i<c.size by omega]⟩;have hu:c.getD i undef=u:=by simp[zZq,hc]
   exact⟨u,by simp[execOp,Instr.extract,he,hc],hu▸hh i v hv⟩
def XB:IntKind->Int->Prop
 | .i64,n=> -9223372036854775808<=n/\n<=9223372036854775807
 | .u8,n=>0<=n/\n<=255
 | .i32,n=> -2147483648<=n/\n<=2147483647
 | .u32,n=>0<=n/\n<=4294967295
 | .u64,n=>0<=n/\n<=18446744073709551615
 | .i8,n=> -128<=n/\n<=127
 | .i16,n=> -32768<=n/\n<=32767
 | .u16,n=>0<=n/\n<=65535
theorem kL {k:IntKind} {n:Int} (h:XB k n):k.wrap n=n:=by
 cases k<;>first
  |exact IntWalk.i64_in n h
  |exact IntWalk.u8_in n h
  |exact IntWalk.i32_in n h
  |exact IntWalk.u32_in n h
  |exact IntWalk.u64_in n h
  |exact IntWalk.i8_in n h
  |exact IntWalk.i16_in n h
  |exact IntWalk.u16_in n h
theorem uP {op:BinOp} {tx ty:Nat} {x y:Operand} {k:IntKind} {m n:Int} {v:Value} (hx:yO (zG st.tm) x= .s (.int k m)) (hy:yO (zG st.tm) y= .s (.int k n))
  (H:∀w,(binOp op tx (.int k m) (.int k n)).run P w= .ok v w):wR P st (.binOp op tx x y ty) (.s v) [] [] []:=
 yR λo X tm h w β a ho hg _ _ Ht=>by
  obtain⟨dst,op',type,pos,after,guard⟩:=o;dsimp only at ho;subst ho;have h1:=vN Ht hg (x:=x) uG hx;have h2:=vN Ht hg (x:=y) uG hy;refine⟨v,?_,.fz _ _ (.s v)⟩
  have hgd:(eqGuard op tx x y (.int k m) (.int k n)).run P w= .ok () w:=by
   unfold eqGuard;cases op<;>rfl
  simp only[execOp,h1,h2,Sem.run_bind,hgd,Result.andThen_ok,H,Sem.run_pure]
section
variable {tx ty:Nat} {x y:Operand} {k:IntKind} {m n:Int} (hx:yO (zG st.tm) x= .s (.int k m)) (hy:yO (zG st.tm) y= .s (.int k n))
include hx hy
theorem VZ (hr:XB k (m+n)):wR P st (.binOp .add tx x y ty) (.s (.int k (m+n))) [] [] []:=uP hx hy λw=>by simp[binOp,Op.intArith,kL hr]
theorem UA (hr:XB k (m-n)):wR P st (.binOp .sub tx x y ty) (.s (.int k (m-n))) [] [] []:=uP hx hy λw=>by simp[binOp,Op.intArith,kL hr]
theorem UB (hr:XB k (m*n)):wR P st (.binOp .mul tx x y ty) (.s (.int k (m*n))) [] [] []:=uP hx hy λw=>by simp[binOp,Op.intArith,kL hr]
theorem UC (hr:XB k (m.tdiv n)) (h0:n≠0):wR P st (.binOp .quo tx x y ty) (.s (.int k (m.tdiv n))) [] [] []:=uP hx hy λw=>by simp[binOp,Op.intDiv,h0,kL hr]
theorem UD (h0:n≠0):wR P st (.binOp .rem tx x y ty) (.s (.int k (m.tmod n))) [] [] []:=uP hx hy λw=>by simp[binOp,Op.intDiv,h0]
theorem QF:wR P st (.binOp .and tx x y ty) (.s (.int k (k.wrap (BitVec.ofInt k.bits m &&& BitVec.ofInt k.bits n).toNat))) [] [] []:=uP hx hy λw=>by simp only[binOp,Op.intBits];simp
theorem IH:wR P st (.binOp .or tx x y ty) (.s (.int k (k.wrap (BitVec.ofInt k.bits m ||| BitVec.ofInt k.bits n).toNat))) [] [] []:=uP hx hy λw=>by simp only[binOp,Op.intBits];simp
theorem UE:wR P st (.binOp .xor tx x y ty) (.s (.int k (k.wrap (BitVec.ofInt k.bits m ^^^ BitVec.ofInt k.bits n).toNat))) [] [] []:=uP hx hy λw=>by simp only[binOp,Op.intBits];simp
theorem zAl:wR P st (.binOp .andNot tx x y ty) (.s (.int k (k.wrap (BitVec.ofInt k.bits m &&& ~~~BitVec.ofInt k.bits n).toNat))) [] [] []:=uP hx hy λw=>by simp only[binOp,Op.intBits];simp
theorem II:wR P st (.binOp .eql tx x y ty) (.s (.bool (m==n))) [] [] []:=uP hx hy λw=>by simp[binOp,Op.intCmp]
theorem IJ:wR P st (.binOp .neq tx x y ty) (.s (.bool (m != n))) [] [] []:=uP hx hy λw=>by simp[binOp,Op.intCmp]
theorem IK:wR P st (.binOp .lss tx x y ty) (.s (.bool (decide (m<n)))) [] [] []:=uP hx hy λw=>by simp[binOp,Op.intCmp]
theorem IL:wR P st (.binOp .leq tx x y ty) (.s (.bool (decide (m<=n)))) [] [] []:=uP hx hy λw=>by simp[binOp,Op.intCmp]
theorem IM:wR P st (.binOp .gtr tx x y ty) (.s (.bool (decide (n<m)))) [] [] []:=uP hx hy λw=>by simp[binOp,Op.intCmp]
theorem IN:wR P st (.binOp .geq tx x y ty) (.s (.bool (decide (n<=m)))) [] [] []:=uP hx hy λw=>by simp[binOp,Op.intCmp]
end
theorem uU {op:BinOp} {tx ty:Nat} {x y:Operand} {k k':IntKind} {m n:Int} {v:Int} (hop:op= .shl/\v=k.wrap (m*2 ^ (min n.toNat k.bits))∨op= .shr/\v=m.fdiv (2 ^ (min n.toNat k.bits)))
  (hx:yO (zG st.tm) x= .s (.int k m)) (hy:yO (zG st.tm) y= .s (.int k' n)) (h0:0<=n):wR P st (.binOp op tx x y ty) (.s (.int k v)) [] [] []:=
 yR λo X tm h w β a ho hg _ _ Ht=>by
  obtain⟨dst,op',type,pos,after,guard⟩:=o;dsimp only at ho;subst ho;have h1:=vN Ht hg (x:=x) uG hx;have h2:=vN Ht hg (x:=y) uG hy;have h3:¬n<0:=by omega
  refine⟨.int k v,?_,.fz _ _ (.s _)⟩
  rcases hop with⟨rfl,rfl⟩|⟨rfl,rfl⟩<;>simp[execOp,h1,h2,eqGuard,binOp,Op.shift,h3]
theorem zOi {tx:Nat} {x:Operand} {b:Bool} (hx:yO (zG st.tm) x= .s (.bool b)):wR P st (.unOp .not tx x) (.s (.bool !b)) [] [] []:=
 yR λo X tm h w β a ho hg _ _ Ht=>by
  obtain⟨dst,op',type,pos,after,guard⟩:=o;dsimp only at ho;subst ho;have h1:=vN Ht hg (x:=x) uG hx;exact⟨_,by simp[execOp,h1,Op.unary],.fz _ _ (.s _)⟩
theorem UF {tx:Nat} {x:Operand} {k:IntKind} {n:Int} (hx:yO (zG st.tm) x= .s (.int k n)) (hr:XB k (-n)):wR P st (.unOp .neg tx x) (.s (.int k (-n))) [] [] []:=
 yR λo X tm h w β a ho hg _ _ Ht=>by
  obtain⟨dst,op',type,pos,after,guard⟩:=o;dsimp only at ho;subst ho;have h1:=vN Ht hg (x:=x) uG hx;exact⟨.int k (-n),by simp[execOp,h1,Op.unary,Op.intArith,kL hr],.fz _ _ (.s _)⟩
theorem cZ {src dst:Nat} {x:Operand} {k k':IntKind} {n:Int} {ts td:TI} (hP:uN P TT) (hs:TT[src]? =some ts) (hd:TT[dst]? =some td) (hk:td.d= .int k') (hx:yO (zG st.tm) x= .s (.int k n)):
  wR P st (.convert src dst x) (.s (.int k' (k'.wrap n))) [] [] []:=
 yR λo X tm h w β a ho hg _ _ Ht=>by
  obtain⟨dst',op',type,pos,after,guard⟩:=o;dsimp only at ho;subst ho;have h1:=vN Ht hg (x:=x) uG hx;obtain⟨u,hu,_⟩:=xU (hP _ _ hs) w;obtain⟨u',hu',hd'⟩:=xU (hP _ _ hd) w;obtain rfl:=IG (hd'.trans hk);exact⟨.int k' (k'.wrap n),by simp[execOp,convert,h1,hu,hu',Conv.intToInt],.fz _ _ (.s _)⟩
theorem kJ {op:BinOp} {tx ty:Nat} {x y:Operand} {p q:Bool} {v:Bool} {ti:TI} (hP:uN P TT) (ht:TT[tx]? =some ti) (hd:ti.d= .bool) (hx:yO (zG st.tm) x= .s (.bool p)) (hy:yO (zG st.tm) y= .s (.bool q))
  (hop:op= .eql/\v=(p==q)∨op= .neq/\v=(p != q)):wR P st (.binOp op tx x y ty) (.s (.bool v)) [] [] []:=
 yR λo X tm h w β a ho hg _ _ Ht=>by
  obtain⟨dst,op',type,pos,after,guard⟩:=o;dsimp only at ho;subst ho;have h1:=vN Ht hg (x:=x) uG hx;have h2:=vN Ht hg (x:=y) uG hy;obtain⟨u,hu,hd'⟩:=xU (hP _ _ ht) w;obtain rfl:=zOh (hd'.trans hd)
  have he:(Op.equal tx (.bool p) (.bool q)).run P w= .ok (p==q) w:=by
   show(Op.equalIn (9999+1) tx (.bool p) (.bool q)).run P w=_
   unfold Op.equalIn;simp[hu]
  refine⟨.bool v,?_,.fz _ _ (.s _)⟩
  rcases hop with⟨rfl,rfl⟩|⟨rfl,rfl⟩<;>simp[execOp,h1,h2,eqGuard,binOp,he,bne]
theorem IO {f:Nat} {cap:Array Operand}:wR P st (.makeFunc (.func f) #[] cap) (.fn f (cap.toList.map (yO (zG st.tm)))) [] [] []:=
 yR λo X tm h w β a ho hg _ _ Ht=>by
  obtain⟨dst,op',type,pos,after,guard⟩:=o;dsimp only at ho;subst ho;refine⟨.func (.func f) #[] (cap.map a.eval),by simp[execOp,Instr.makeFunc],.fn _ _ _ zU λi v hv=>?_⟩;simp only[zYt,zY1]at hv;obtain⟨x,hx,rfl⟩:=hv
  have:(cap.map a.eval).getD i undef=a.eval x:=by
   have:cap[i]? =some x:=by simpa using hx
   simp[zZq,this]
  rw[this];refine jP Ht hg ?_ rfl
  have:x∈cap:=by
   have:=zZ4 hx;simpa using this
  simp[Op.operands,this]
end ops
end
def cA (β:uH) (k:Nat) (l:List (Nat×Nat)):uH:=λj=>if j=k then l else β j
theorem zS (β:uH) (k:Nat) (l:List (Nat×Nat)):cA β k l k=l:=by simp[cA]
theorem qQ (β:uH) {k j:Nat} (l:List (Nat×Nat)) (h:j≠k):cA β k l j=β j:=by simp[cA,h]
theorem zEp (k:Nat):Nat.beq k k=true:=by simp
theorem YC {j k:Nat} (h:j≠k):Nat.beq j k=false:=by
 cases e:Nat.beq j k with
 |false=>rfl
 |true=>exact absurd (zZm e) h
theorem qR (k:Nat) (e:xP) (h:yI):over [(k,e)] h k=some e:=by simp[over,zC]
theorem bQ {k j:Nat} (e:xP) (h:yI) (hj:j≠k):over [(k,e)] h j=h j:=by simp[over,zC,YC hj]
theorem VY.evo {w w':World} {D D':Nat->Prop} {h h':yI} {β β':uH} (E:IF w D h β w' D' h' β') {k:Nat} {e:xP} (hb:β' k=β k) (hk:∀b n,(b,n)∈β k->w'.heap[b]? =w.heap[b]?)
  (H:VY w D h β k e):VY w' D' h' β' k e:=by
 cases e with
 |dead=>exact hb.trans H
 |box cs=>
  obtain⟨b,c,el,h1,h2,h3,h4,h5⟩:=H;exact⟨b,c,el,hb.trans h1,(hk b 0 (by rw[h1];simp)).trans h2,h3,h4,λi v hv=>(h5 i v hv).evo E⟩
 |arr sz xs st=>
  obtain⟨h1,h2,h3,h4,h5,f,h6,h7,h8⟩:=H;refine⟨h1,h2,by rwa [hb],h4,by rwa [hb],f,h6.evo E,h7,λb n hm=>?_⟩;rw[hb]at hm;obtain⟨c,el,h9,h10⟩:=h8 b n hm;exact⟨c,el,(hk b n hm).trans h9,h10⟩
theorem xL.step {X:Nat->Prop} {h:yI} {β:uH} {w w':World} (H:kQ X h β w) (k:Nat) (e':xP) (l:List (Nat×Nat)) (size:w.heap.size<=w'.heap.size)
  (keep:∀b,b<w.heap.size->(∀n,(b,n)∉β k)->w'.heap[b]? =w.heap[b]?) (os:w'.os=w.os) (tape:w'.tape=w.tape) (output:w'.output=w.output)
  (own:∀b n,(b,n)∈l->(∃n',(b,n')∈β k)∨(w.heap.size<=b/\b<w'.heap.size)) (bs:∀b n,(b,n)∈β k->xZ w' b=xZ w b)
  (key:∀e,h k=some e->e'= .dead∨match e with
   | .dead=>False
   | .box _=>(∃cs',e'= .box cs')/\∀b n,(b,n)∈β k->(b,n)∈l
   | .arr sz xs _=>(∃xs' st',e'= .arr sz xs' st'/\xs.length<=xs'.length)/\∀b n,(b,n)∈β k->∃n',n<=n'/\(b,n')∈l)
  (ent:IF w (xH X β) h β w' (xH X (cA β k l)) (over [(k,e')] h) (cA β k l)->VY w' (xH X (cA β k l)) (over [(k,e')] h) (cA β k l) k e'):
  xL X w h β w' (over [(k,e')] h) (cA β k l):=by
 have own':∀j b n,(b,n)∈cA β k l j->(∃k' n',(b,n')∈β k')∨w.heap.size<=b:=by
  intro j b n hm;by_cases hj:j=k
  ·subst hj;rw[zS]at hm
   rcases own b n hm with⟨n',h1⟩|⟨h1,_⟩
   ·exact .inl ⟨_,_,h1⟩
   ·exact .inr h1
  ·rw[qQ _ _ hj]at hm;exact .inl ⟨_,_,hm⟩
 have apart:∀j b n n',j≠k->(b,n)∈β j->(b,n')∉β k:=λj b n n' hj h1 h2=>hj (H.disj _ _ _ _ _ h1 h2)
 have keep':∀b,b<w.heap.size->(∀k n,(b,n)∉β k)->w'.heap[b]? =w.heap[b]? :=λb hb hn=>keep b hb (hn k)
 have bs':∀j b n,(b,n)∈β j->xZ w' b=xZ w b:=by
  intro j b n hm;by_cases hj:j=k
  ·subst hj;exact bs b n hm
  ·unfold xZ World.shape?;rw[keep b (H.lt b (.inr ⟨j,n,hm⟩)) λn' h1=>apart j b n n' hj hm h1]
 have key':∀j e,h j=some e->over [(k,e')] h j=some .dead∨match e with
   | .dead=>False
   | .box _=>(∃cs',over [(k,e')] h j=some (.box cs'))/\∀b n,(b,n)∈β j->(b,n)∈cA β k l j
   | .arr sz xs _=>(∃xs' st',over [(k,e')] h j=some (.arr sz xs' st')/\xs.length<=xs'.length)/\∀b n,(b,n)∈β j->∃n',n<=n'/\(b,n')∈cA β k l j:=by
  intro j e he;by_cases hj:j=k
  ·subst hj;rw[qR,zS]
   rcases key e he with h1|h1
   ·exact .inl (by rw[h1])
   ·cases e with
    |dead=>exact h1.elim
    |box cs=>obtain⟨⟨cs',h2⟩,h3⟩:=h1;exact .inr ⟨⟨cs',by rw[h2]⟩,h3⟩
    |arr sz xs st=>obtain⟨⟨xs',st',h2,h2'⟩,h3⟩:=h1;exact .inr ⟨⟨xs',st',by rw[h2],h2'⟩,h3⟩
  ·rw[bQ _ _ hj,qQ _ _ hj];exact kD h β j e he
 have E:IF w (xH X β) h β w' (xH X (cA β k l)) (over [(k,e')] h) (cA β k l):=by
  refine⟨size,λb hb hd=>?_,bs',key'⟩;have h1:∀k n,(b,n)∉β k:=λk n hm=>hd (.inr ⟨k,n,hm⟩)
  refine⟨keep' b hb h1,?_⟩;rintro(hx|⟨j,n,hm⟩)
  ·exact hd (.inl hx)
  ·rcases own' j b n hm with⟨k',n',h2⟩|h2
   ·exact h1 _ _ h2
   ·omega
 refine⟨size,keep',own',bs',key',⟨λj e he=>?_,λj he=>?_,λj j' b n n' h1 h2=>?_,λj b n hm hx=>?_,λb hd=>?_⟩,os,tape,output⟩
 ·by_cases hj:j=k
  ·subst hj;rw[qR]at he;cases he;exact ent E
  ·rw[bQ _ _ hj]at he;exact(H.ent j e he).evo E (qQ _ _ hj) λb n hm=>keep b (H.lt b (.inr ⟨j,n,hm⟩)) λn' h1=>apart j b n n' hj hm h1
 ·by_cases hj:j=k
  ·subst hj;rw[qR]at he;cases he
  ·rw[bQ _ _ hj]at he;rw[qQ _ _ hj];exact H.off j he
 ·by_cases hj:j=k<;>by_cases hj':j'=k
  ·rw[hj,hj']
  ·subst hj;rw[zS]at h1;rw[qQ _ _ hj']at h2
   rcases own b n h1 with⟨m,h3⟩|⟨h3,_⟩
   ·exact absurd h3 (apart j' b n' m hj' h2)
   ·have:=H.lt b (.inr ⟨_,_,h2⟩);omega
  ·subst hj';rw[zS]at h2;rw[qQ _ _ hj]at h1
   rcases own b n' h2 with⟨m,h3⟩|⟨h3,_⟩
   ·exact absurd h3 (apart j b n m hj h1)
   ·have:=H.lt b (.inr ⟨_,_,h1⟩);omega
  ·rw[qQ _ _ hj]at h1;rw[qQ _ _ hj']at h2;exact H.disj _ _ _ _ _ h1 h2
 ·by_cases hj:j=k
  ·subst hj;rw[zS]at hm
   rcases own b n hm with⟨m,h3⟩|⟨h3,_⟩
   ·exact H.free _ _ _ h3 hx
   ·have:=H.lt b (.inl hx);omega
  ·rw[qQ _ _ hj]at hm;exact H.free _ _ _ hm hx
 ·rcases hd with hx|⟨j,n,hm⟩
  ·exact zZx (H.lt b (.inl hx)) size
  ·by_cases hj:j=k
   ·subst hj;rw[zS]at hm
    rcases own b n hm with⟨m,h3⟩|⟨_,h3⟩
    ·exact zZx (H.lt b (.inr ⟨_,_,h3⟩)) size
    ·exact h3
   ·rw[qQ _ _ hj]at hm;exact zZx (H.lt b (.inr ⟨_,_,hm⟩)) size
theorem xL.new {X:Nat->Prop} {h:yI} {β:uH} {w:World} (H:kQ X h β w) {k:Nat} (hk:h k=none) (e':xP) (n:Nat) (c:Array Value) (el:Nat)
  (ent:IF w (xH X β) h β (w.alloc (.cells c el)) (xH X (cA β k [(w.heap.size,n)])) (over [(k,e')] h) (cA β k [(w.heap.size,n)])->
   VY (w.alloc (.cells c el)) (xH X (cA β k [(w.heap.size,n)])) (over [(k,e')] h) (cA β k [(w.heap.size,n)]) k e'):
  xL X w h β (w.alloc (.cells c el)) (over [(k,e')] h) (cA β k [(w.heap.size,n)]):=by
 refine xL.step H k e' _ zU (λb hb _=>heap_alloc_old w _ b hb) rfl rfl rfl (λb n hm=>?_) (λb n hm=>?_) (λe he=>?_) ent
 ·simp at hm;refine .inr ?_;simp[hm.1]
 ·rw[H.off k hk]at hm;simp at hm
 ·rw[hk]at he;cases he
theorem xL.newBox {X:Nat->Prop} {h:yI} {β:uH} {w:World} (H:kQ X h β w) {k:Nat} (hk:h k=none) (c:Array Value) (el:Nat) (cs:List AV) (hl:c.size=cs.length) (h1:∀i,i<c.size->(c.getD i undef).oneCell'=true)
  (hv:∀(i:Nat) v,cs[i]? =some v->zX w (xH X β) h β v (c.getD i undef)):
  ∃β',xL X w h β (w.alloc (.cells c el)) (over [(k,.box cs)] h) β'/\zX (w.alloc (.cells c el)) (xH X β') (over [(k,.box cs)] h) β' (.ptr k 0 0) (.pointer (some ⟨w.heap.size,0,none⟩)):=
 ⟨_,xL.new H hk (.box cs) 0 c el λE=>⟨_,c,el,zS _ _ _,heap_alloc_new w _,hl,h1,λi v hx=>(hv i v hx).evo E⟩,
  .pbox k 0 cs w.heap.size 0 (qR _ _ _) (by rw[zS];simp)⟩
def uS (c:Array Value):Prop:=∀v,v∈c.toList->v.oneCell'=true
theorem uS.get {c:Array Value} (h:uS c):∀i,i<c.size->(c.getD i undef).oneCell'=true:=λi hi=>by
 have e:c.getD i undef=c[i]:=by simp[Array.getD,hi]
 rw[e];exact h _ zU
theorem uS.of {c:Array Value} (h:∀i,i<c.size->(c.getD i undef).oneCell'=true):uS c:=λv hv=>by
 obtain⟨i,hi,rfl⟩:=yAz hv;have hi':i<c.size:=by simpa using hi
 have:=h i hi';simpa [Array.getD,hi']using this
theorem uS.app {a b:Array Value} (ha:uS a) (hb:uS b):uS (a++b):=λv hv=>by
 rw[Array.toList_append,zZa]at hv;exact hv.elim (ha v) (hb v)
theorem uS.arr {l:List Value} (h:∀v∈l,v.oneCell'=true):uS l.toArray:=λv hv=>h v EM
theorem ET {z:Array Value} {i:Nat} (h:i<z.size):z[i]! ∈z.toList:=by
 rw[getElem!_pos z i h];simp
theorem uS.zero {z:Array Value} (h:∀v,v∈z.toList->v.oneCell'=true) (n:Nat):uS (Builtin.zeroCells z n):=λv hv=>by
 simp only[Builtin.zeroCells,yDv,Array.toList_range,zZ3,zZi]at hv;obtain⟨i,hi,rfl⟩:=hv
 have hz:0<z.size:=by
  rcases Nat.eq_zero_or_pos z.size with h0|h0
  ·rw[h0,Nat.mul_zero]at hi;omega
  ·exact h0
 exact h _ (ET (yEp _ hz))
theorem EU {c:Array Value} {n sz:Nat} {f:Nat->Nat->Value} (hs:c.size=n*sz) (hp:1<=sz) (hf:∀i j,i<n->j<sz->c[i*sz+j]? =some (f i j)) (h1:∀i j,i<n->j<sz->(f i j).oneCell'=true):∀i,i<c.size->(c.getD i undef).oneCell'=true:=λi hi=>by
 have hm:i % sz<sz:=yEp _ (by omega);have hd:i/sz<n:=by rw[Nat.div_lt_iff_lt_mul (by omega)];omega
 have e:i/sz*sz+i % sz=i:=by rw[yC6];exact Nat.div_add_mod i sz
 have h2:=hf (i/sz) (i % sz) hd hm;rw[e]at h2;have e2:c.getD i undef=f (i/sz) (i % sz):=by simp[zZq,h2]
 rw[e2];exact h1 _ _ hd hm
theorem uS.made {z:Array Value} (h:∀v,v∈z.toList->v.oneCell'=true) (hz:0<z.size) (n:Nat):uS (madeCells z n):=λv hv=>by
 simp only[madeCells,yDv,Array.toList_range,zZ3,zZi]at hv;obtain⟨i,hi,rfl⟩:=hv;exact h _ (ET (yEp _ hz))
theorem xL.newArr {X:Nat->Prop} {h:yI} {β:uH} {w:World} (H:kQ X h β w) {k:Nat} (hk:h k=none) (c:Array Value) (el sz:Nat) (xs:List AV) (cap:Nat) (f:Nat->Nat->Value) (hp:1<=sz) (hm:xs.length<=dT)
  (hcap:xs.length<=cap) (hc:cap*sz=c.size) (hall:∀i,i<c.size->(c.getD i undef).oneCell'=true) (hw:∀(i:Nat) (x:AV),xs[i]? =some x->x.cells.length=sz) (hf:∀i j,i<xs.length->j<sz->c[i*sz+j]? =some (f i j)) (h1:∀i j,i<xs.length->j<sz->(f i j).oneCell'=true)
  (hv:∀(i:Nat) (x:AV) (j:Nat) v,xs[i]? =some x->x.cells[j]? =some v->xG w (xH X β) v (f i j)):
  ∃β',xL X w h β (w.alloc (.cells c el)) (over [(k,.arr sz xs false)] h) β'/\zX (w.alloc (.cells c el)) (xH X β') (over [(k,.arr sz xs false)] h) β' (.ref k 0 xs.length) (.slice (some ⟨w.heap.size,0,none⟩) xs.length cap):=by
 refine⟨_,xL.new H hk (.arr sz xs false) xs.length c el λE=>⟨hp,hm,λ_=>by rw[zS];simp,hw,λb n r hr=>?_,f,.ofF λi x j v hx hy=>(hv i x j v hx hy).evo E.size E.fz,h1,λb n hb=>?_⟩,?_⟩
 ·rw[zS]at hr;simp at hr;exact⟨hr.1.2.symm,λ_ b' n' hm=>by rw[hr.2]at hm;simp at hm,λb' n' hm=>by rw[hr.2]at hm;simp at hm⟩
 ·rw[zS]at hb;simp at hb;obtain⟨rfl,rfl⟩:=hb;exact⟨c,el,heap_alloc_new w _,zZy (zY8 _ hcap) (yAq hc),hf,hall⟩
 ·have:=zX.ref (w:=w.alloc (.cells c el)) (D:=xH X (cA β k [(w.heap.size,xs.length)])) (h:=over [(k,.arr sz xs false)] h) (β:=cA β k [(w.heap.size,xs.length)]) k 0 xs.length sz xs false w.heap.size xs.length cap (qR _ _ _)
   (by rw[zS];simp) (by omega) hcap (by
    have:xZ (w.alloc (.cells c el)) w.heap.size=c.size:=by
     unfold xZ World.shape?;rw[heap_alloc_new];rfl
    rw[this];simpa using hc)
  simpa using this
theorem xL.newArrN {X:Nat->Prop} {h:yI} {β:uH} {w:World} (H:kQ X h β w) {k:Nat} (hk:h k=none) (c:Array Value) (el sz:Nat) (xs:List AV) (cap:Nat) (f:Nat->Nat->Value) (hp:1<=sz) (hm:xs.length<=dT)
  (hcap:xs.length<=cap) (hc:cap*sz=c.size) (hall:∀i,i<c.size->(c.getD i undef).oneCell'=true) (hw:∀(i:Nat) (x:AV),xs[i]? =some x->x.cells.length=sz) (hf:∀i j,i<xs.length->j<sz->c[i*sz+j]? =some (f i j)) (h1:∀i j,i<xs.length->j<sz->(f i j).oneCell'=true)
  (hv:∀(i:Nat) (x:AV) (j:Nat) v,xs[i]? =some x->x.cells[j]? =some v->zX w (xH X β) h β v (f i j)):
  ∃β',xL X w h β (w.alloc (.cells c el)) (over [(k,.arr sz xs ⟨false,true⟩)] h) β'/\zX (w.alloc (.cells c el)) (xH X β') (over [(k,.arr sz xs ⟨false,true⟩)] h) β' (.ref k 0 xs.length) (.slice (some ⟨w.heap.size,0,none⟩) xs.length cap):=by
 refine⟨_,xL.new H hk (.arr sz xs ⟨false,true⟩) xs.length c el λE=>⟨hp,hm,λ_=>by rw[zS];simp,hw,λb n r hr=>?_,f,λi x j v hx hy=>⟨(hv i x j v hx hy).evo E,λh=>by cases h⟩,h1,λb n hb=>?_⟩,?_⟩
 ·rw[zS]at hr;simp at hr;exact⟨hr.1.2.symm,λ_ b' n' hm=>by rw[hr.2]at hm;simp at hm,λb' n' hm=>by rw[hr.2]at hm;simp at hm⟩
 ·rw[zS]at hb;simp at hb;obtain⟨rfl,rfl⟩:=hb;exact⟨c,el,heap_alloc_new w _,zZy (zY8 _ hcap) (yAq hc),hf,hall⟩
 ·have:=zX.ref (w:=w.alloc (.cells c el)) (D:=xH X (cA β k [(w.heap.size,xs.length)])) (h:=over [(k,.arr sz xs ⟨false,true⟩)] h) (β:=cA β k [(w.heap.size,xs.length)]) k 0 xs.length sz xs ⟨false,true⟩ w.heap.size xs.length cap (qR _ _ _)
   (by rw[zS];simp) (by omega) hcap (by
    have:xZ (w.alloc (.cells c el)) w.heap.size=c.size:=by
     unfold xZ World.shape?;rw[heap_alloc_new];rfl
    rw[this];simpa using hc)
  simpa using this
theorem xL.newFz {X:Nat->Prop} {h:yI} {β:uH} {w:World} (H:kQ X h β w) (c:Array Value) (el:Nat):xL X w h β (w.alloc (.cells c el)) h β:=by
 have hold:∀b,b<w.heap.size->(w.alloc (.cells c el)).heap[b]? =w.heap[b]? :=λb hb=>heap_alloc_old w _ b hb
 have hbs:∀k b n,(b,n)∈β k->xZ (w.alloc (.cells c el)) b=xZ w b:=λk b n hm=>by
  unfold xZ World.shape?;rw[hold b (H.lt b (.inr ⟨k,n,hm⟩))]
 have E:IF w (xH X β) h β (w.alloc (.cells c el)) (xH X β) h β:=⟨by simp,λb hb hd=>⟨hold b hb,hd⟩,hbs,kD h β⟩;refine⟨by simp,λb hb _=>hold b hb,λk _ n hm=> .inl ⟨k,n,hm⟩,hbs,kD h β,⟨λk e he=>(H.ent k e he).evo E rfl λb n hm=>hold b (H.lt b (.inr ⟨k,n,hm⟩)),H.off,H.disj,H.free,λb hd=>?_⟩,rfl,rfl,rfl⟩;exact zZx (H.lt b hd) zU
theorem xG.newArr {X:Nat->Prop} {h:yI} {β:uH} {w:World} (H:kQ X h β w) (c:Array Value) (el sz:Nat) (xs:List AV) (cap:Nat) (f:Nat->Nat->Value) (hp:1<=sz) (hm:xs.length<=dT)
  (hcap:xs.length<=cap) (hw:∀(i:Nat) (x:AV),xs[i]? =some x->x.cells.length=sz) (hf:∀i j,i<xs.length->j<sz->c[i*sz+j]? =some (f i j)) (h1:∀i j,i<xs.length->j<sz->(f i j).oneCell'=true)
  (hv:∀(i:Nat) (x:AV) (j:Nat) v,xs[i]? =some x->x.cells[j]? =some v->xG w (xH X β) v (f i j)):
  xG (w.alloc (.cells c el)) (xH X β) (.sl true xs) (.slice (some ⟨w.heap.size,0,none⟩) xs.length cap):=by
 have E:=(xL.newFz H c el).evo;by_cases hx:xs=[]
 ·subst hx;exact .nil1 _ _
 ·refine .sl true xs w.heap.size 0 sz cap f hx ⟨by simp,λhd=>?_,hp,hm,hw,λi j hi hj=>?_,h1⟩ hcap λi x j v hx hy=>(hv i x j v hx hy).evo E.size E.fz
  ·have:=H.lt _ hd;omega
  ·rw[zZt];simp only[World.cell?,heap_alloc_new];exact hf i j hi hj
theorem xG.wkF {w:World} {D:Nat->Prop} {nn:Bool} {xs:List AV} {c:Value} (h:xG w D (.sl nn xs) c):xG w D (.sl false xs) c:=by
 cases h with
 |nil a cap=>exact .nil a cap
 |nil1 a cap=>exact .nil _ cap
 |sl nn xs b o sz cap f hx hL hc hh=>exact .sl false xs b o sz cap f hx hL hc hh
end Av
end Go.Proofs.YtmamjhmoegjapaaGreat
