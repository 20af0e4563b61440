/- Part 1. -/
import Derived.Below
import Derived.Orders
import Derived.LoopN
import Derived.Laws.Sem
import Derived.KernelRfl
import Derived.Laws.AppendOwn
import Derived.Laws.CopyRow
import Derived.IntWalk
import Derived.Laws.MakeOwn
namespace Go.Proofs.YtmamjhmoegjapaaGreat
namespace Av
set_option linter.defProp false
def zX0:=@if_neg
def zX1:=@if_pos
def zX2:=@List.length_map
def zX3:=@List.length_append
def zX4:=@List.getElem?_map
def zX5:=@List.getD_eq_getElem?_getD
def zX6:=@Nat.le_refl
def zX7:=@List.take_length
def zX8:=@decide_eq_true
def zX9:=@decide_eq_true_eq
def zYa:=@decide_eq_false
def zYb:=@List.take_of_length_le
def zYc:=@List.map_append
def zYd:=@List.length_cons
def zYe:=@Nat.zero_le
def zYf:=@List.all_eq_true
def zYg:=@Option.map_eq_some_iff
def zYh:=@Bool.and_eq_true
def zYi:=@List.getElem?_eq_getElem
def zYj:=@Nat.le_of_ble_eq_true
def zYk:=@Bool.false_ne_true
def zYl:=@List.mem_append
def zYm:=@Nat.mul_le_mul_right
def zYn:=@decide_eq_false_iff_not
def zYo:=@List.length_take
def zYp:=@Bool.true_and
def zYq:=@List.getElem?_eq_some_iff
def zYr:=@List.mem_range
def zYs:=@List.getElem?_append_right
def zYt:=@List.getElem?_eq_none
def zYu:=@Nat.eq_of_beq_eq_true
def zYv:=@List.append_assoc
def zYw:=@List.getElem?_append_left
def zYx:=@List.getElem?_range
def zYy:=@Array.getD_eq_getD_getElem?
def zYz:=@List.mem_singleton
def zY0:=@congrArg
def zY1:=@List.eq_nil_of_length_eq_zero
def zY2:=@List.drop_zero
def zY3:=@Nat.add_mul
def zY4:=@List.length_drop
def zY5:=@List.append_nil
def zY6:=@Nat.zero_add
def zY7:=@Nat.lt_of_lt_of_le
def zY8:=@Nat.le_trans
def zY9:=@beq_eq_false_iff_ne
def zZa:=@List.length_nil
def zZb:=@Option.some.injEq
def zZc:=@cond_true
def zZd:=@List.length_replicate
def zZe:=@List.mem_of_mem_drop
def zZf:=@List.ext_getElem?
def zZg:=@beq_iff_eq
def zZh:=@Int.toNat_natCast
def zZi:=@List.mem_cons
def zZj:=@List.mem_map
def zZk:=@List.length_range
def zZl:=@List.map_cons
def zZm:=@List.length_set
def zZn:=@List.mem_of_getElem?
def zZo:=@List.getElem?_set_self
def zZp:=@List.any_eq_true
def zZq:=@List.getElem?_take
def zZr:=@bne_eq_false_iff_eq
def zZs:=@List.getElem?_replicate
def zZt:=@Int.tdiv_eq_ediv_of_nonneg
def zZu:=@Int.tmod_eq_emod_of_nonneg
def zZv:=@List.mem_of_mem_take
def zZw:=@Bool.false_and
def zZx:=@List.contains_iff_mem
def zZy:=@Prod.mk.injEq
def zZz:=@cond_false
def zZ0:=@Nat.one_mul
def zZ1:=@Nat.le_of_eq
def zZ2:=@List.getElem?_drop
def zZ3:=@Option.getD_some
def zZ4:=@Array.getElem?_append_left
def zZ5:=@Array.getElem?_eq_some_iff
def zZ6:=@Bool.or_eq_true
def zZ7:=@List.getElem?_set
def zZ8:=@Int.le_refl
def zZ9:=@List.map_set
def yAa:=@List.getElem_of_mem
def yAb:=@Bool.not_eq_true'
def yAc:=@List.take_append_of_le_length
def yAd:=@List.length_filter_le
def yAe:=@Nat.sub_self
def yAf:=@bne_iff_ne
def yAg:=@List.length_singleton
def yAh:=@List.range_succ
def yAi:=@Nat.not_lt_zero
def yAj:=@Option.some.inj
def yAk:=@Bool.or_true
def yAl:=@List.map_nil
def yAm:=@Bool.true_or
def yAn:=@List.getElem_mem
def yAo:=@List.getElem?_toArray
def yAp:=@List.take_zero
def yAq:=@List.nil_append
def yAr:=@Nat.add_zero
def yAs:=@Bool.not_eq_true
def yAt:=@Nat.mod_eq_of_lt
def yAu:=@List.drop_eq_getElem_cons
def yAv:=@Array.length_toList
def yAw:=@List.all_eq_false
def yAx:=@List.any_eq_false
def yAy:=@List.size_toArray
def yAz:=@List.take_add_one
def yA0:=@List.set_append_right
def yA1:=@Option.map_none
def yA2:=@Int.emod_lt_of_pos
def yA3:=@List.cons_append
def yA4:=@Nat.mul_le_mul
def yA5:=@List.flatten_cons
def yA6:=@Classical.byContradiction
def yA7:=@List.mem_filter
def yA8:=@List.mem_or_eq_of_mem_set
def yA9:=@List.take_append_drop
def yBa:=@Bool.false_or
def yBb:=@List.getElem?_of_mem
def yBc:=@Int.eq_ofNat_of_zero_le
def yBd:=@Int.emod_nonneg
def yBe:=@List.drop_succ_cons
def yBf:=@List.map_congr_left
def yBg:=@List.zipWith_cons_cons
def yBh:=@Int.fdiv_eq_ediv_of_nonneg
def yBi:=@List.map_replicate
def yBj:=@ne_eq
def yBk:=@Nat.lt_irrefl
def yBl:=@List.replicate_succ
def yBm:=@List.mem_flatten
def yBn:=@List.not_mem_nil
def yBo:=@Array.getElem?_append_right
def yBp:=@BitVec.toNat_ofNat
def yBq:=@List.filter_append
def yBr:=@Nat.zero_mul
def yBs:=@List.map_drop
def yBt:=@List.map_take
def yBu:=@Decidable.not_not
def yBv:=@Array.getElem?_eq_getElem
def yBw:=@BitVec.ofInt_natCast
def yBx:=@List.pairwise_append
def yBy:=@Nat.pow_le_pow_right
def yBz:=@Bool.and_false
def yB0:=@List.drop_length
def yB1:=@List.set_set
def yB2:=@List.take_append_getElem
def yB3:=@List.take_succ_eq_append_getElem
def yB4:=@List.length_zipWith
def yB5:=@Bool.and_true
def yB6:=@List.mem_replicate
def yB7:=@List.pairwise_cons
def yB8:=@List.set_cons_zero
def yB9:=@List.drop_eq_nil_of_le
def yCa:=@List.drop_of_length_le
def yCb:=@List.drop_append_of_le_length
def yCc:=@Bool.eq_false_iff
def yCd:=@of_decide_eq_true
def yCe:=@Nat.ble_eq_true_of_le
def yCf:=@Nat.mul_comm
def yCg:=@List.getElem?_set_ne
def yCh:=@List.getElem?_zipIdx
def yCi:=@List.mem_iff_getElem
def yCj:=@Nat.le_of_mul_le_mul_right
def yCk:=@List.replicate_zero
def yCl:=@Bool.eq_iff_iff
def yCm:=@List.mem_of_find?_eq_some
def yCn:=@Nat.mul_add_mod
def yCo:=@List.find?_eq_none
def yCp:=@List.map_map
def yCq:=@Nat.le_of_lt
def yCr:=@Nat.sub_zero
def yCs:=@Bool.not_false
def yCt:=@Array.size_append
def yCu:=@Nat.sub_mul
def yCv:=@Bool.not_true
def yCw:=@Nat.add_assoc
def yCx:=@Array.toList_map
def yCy:=@or_false
def yCz:=@List.getElem?_zipWith
def yC0:=@List.set_getElem_self
def yC1:=@List.singleton_append
def yC2:=@if_true
def yC3:=@Array.getElem?_range
def yC4:=@Int.not_le
def yC5:=@Int.not_lt
def yC6:=@List.replicate_succ'
def yC7:=@Nat.min_eq_left
def yC8:=@Int.toNat_of_nonneg
def yC9:=@List.filter_eq_self
def yDa:=@List.flatten_append
def yDb:=@List.take_succ_cons
def yDc:=@List.nodup_nil
def yDd:=@Array.getElem?_map
def yDe:=@Int.tmod_lt_of_pos
def yDf:=@Option.toList_some
def yDg:=@Bool.or_false
def yDh:=@List.all_cons
def yDi:=@Array.all_eq_true
def yDj:=@List.find?_append
def yDk:=@Nat.lt_trichotomy
def yDl:=@not_false_eq_true
def yDm:=@not_true_eq_false
def yDn:=@Int.pow_succ
def yDo:=@List.mem_toArray
def yDp:=@Int.tmod_nonneg
def yDq:=@List.find?_cons
def yDr:=@List.find?_some
def yDs:=@List.mapM_cons
def yDt:=@Nat.testBit_or
def yDu:=@dif_pos
def yDv:=@Nat.mod_lt
def yDw:=@Int.min_self
def yDx:=@and_false
def yDy:=@decide_false
set_option linter.unusedSimpArgs false
set_option linter.unusedVariables false
set_option linter.unusedSectionVars false
theorem zS {p:Prop} (h:p:=by simp):p:=h
theorem yZ {p:Prop} (h:p:=by decide):p:=h
theorem wQ {p:Prop} (h:p:=by(simp;omega)):p:=h
theorem vZ {p:Prop} (h:p:=by simp[Op.operands]):p:=h
theorem qI {p:Prop} (h:p:=by simp[Op.operands,Call.operands]):p:=h
theorem gS {p:Prop} (h:p:=by kernel_rfl):p:=h
theorem cH {p:Prop} (h:p:=by(first|rfl|assumption)):p:=h
theorem aI {p:Prop} (h:p:=by simp[List.getD,hi']):p:=h
theorem MR {p:Prop} (h:p:=by(have:=H.vl;omega)):p:=h
theorem HB {p:Prop} (h:p:=by(rw[zY4];omega)):p:=h
theorem UD {p:Prop} (h:p:=by simpa using h):p:=h
theorem UE {p:Prop} (h:p:=by simp[hi]):p:=h
theorem ST {p:Prop} (h:p:=by simp[hx]):p:=h
theorem OX {p:Prop} (h:p:=by(rw[hx];simp)):p:=h
theorem OY {p:Prop} (h:p:=by simp[hk]):p:=h
theorem OZ {p:Prop} (h:p:=by simpa using hi):p:=h
theorem NA {p:Prop} (h:p:=by simpa using h2):p:=h
theorem NB {p:Prop} (h:p:=by(rw[<-e3];exact hv)):p:=h
theorem NC {p:Prop} (h:p:=by(rw[hh j hj];exact hk')):p:=h
theorem LU {p:Prop} (h:p:=by(rw[h0];omega)):p:=h
theorem LV {p:Prop} (h:p:=by(rw[hk];rfl)):p:=h
theorem LW {p:Prop} (h:p:=by(rw[hk];exact q1)):p:=h
theorem LX {p:Prop} (h:p:=by simpa using hl):p:=h
theorem LY {p:Prop} (h:p:=by simpa using h1):p:=h
theorem CE {p:Prop} (h:p:=by simpa using hn):p:=h
theorem CF {p:Prop} (h:p:=by(dsimp only;decide)):p:=h
theorem CG {p:Prop} (h:p:=by simpa using hv):p:=h
theorem CH {p:Prop} (h:p:=by simpa using this):p:=h
theorem CI {p:Prop} (h:p:=by(rw[hbk,e];simp)):p:=h
theorem zCu {p:Prop} (h:p:=by(rw[hx];simp[h])):p:=h
theorem zCv {p:Prop} (h:p:=by(rw[zX9];exact hs)):p:=h
theorem zCw {p:Prop} (h:p:=by(have:=J.n;omega)):p:=h
theorem zCx {p:Prop} (h:p:=by(rw[hl]at hi;omega)):p:=h
theorem zCy {p:Prop} (h:p:=by(rw[hβ j hj];exact hb)):p:=h
theorem zKu {p:Prop} (h:p:=by(rw[zZm,zX2];exact zX6 _)):p:=h
theorem zKv {p:Prop} (h:p:=by(rw[hh j hk];exact hk')):p:=h
theorem zQx {p:Prop} (h:p:=by(rcases hk with hk|hk|hk|hk<;>rw[hk]<;>rfl)):p:=h
theorem zQy {p:Prop} (h:p:=by(rw[zYo,zY4];omega)):p:=h
theorem zQz {p:Prop} (h:p:=by rw[hN,zY2,<-hz3l,zX7]):p:=h
theorem zQ0 {p:Prop} (h:p:=by(simp[List.getD];rw[zYi zB];simp)):p:=h
theorem zQ1 {p:Prop} (h:p:=by rw[<-yAu hi,yA9]):p:=h
inductive AV where
 |bot
 |gh (n:Nat)
 |s (v:Value)
 |agg (cs:List AV)
 |sl (nn:Bool) (xs:List AV)
 |slc (cap:Nat) (xs:List AV)
 |ref (k off len:Nat)
 |ptr (k i off:Nat)
 |fp (xs:List AV) (i off:Nat)
 |fn (f:Nat) (caps:List AV)
 |tup (vs:List AV)
 deriving Inhabited
def AV.cells:AV->List AV
 | .agg cs=>cs
 |v=>[v]
def AV.isAgg:AV->Bool
 | .agg _=>true
 |_=>false
def cI:Nat:=9223372036854775807
structure Lay (w:World) (D:Nat->Prop) (xs:List AV) (b o sz:Nat) (f:Nat->Nat->Value):Prop where
 lt:b<w.heap.size
 nd:¬D b
 pos:1<=sz
 max:xs.length<=cI
 wide:∀(i:Nat) (x:AV),xs[i]? =some x->x.cells.length=sz
 cell:∀i j,i<xs.length->j<sz->w.cell? ⟨b,o+i*sz+j,none⟩=some (f i j)
 one:∀i j,i<xs.length->j<sz->(f i j).oneCell'=true
inductive xG (w:World) (D:Nat->Prop):AV->Value->Prop
 |bot (c:Value):xG w D .bot c
 |gh (n:Nat) (c:Value):xG w D (.gh n) c
 |s (v:Value):xG w D (.s v) v
 |agg (cs:List AV) (c:Array Value) (hl:c.size=cs.length) (h1:∀i,i<c.size->(c.getD i undef).oneCell'=true) (h:∀(i:Nat) v,cs[i]? =some v->xG w D v (c.getD i undef)):xG w D (.agg cs) (.agg c)
 |nil (a:Option Addr) (cap:Nat):xG w D (.sl false []) (.slice a 0 cap)
 |nil1 (a:Addr) (cap:Nat):xG w D (.sl true []) (.slice (some a) 0 cap)
 |sl (nn:Bool) (xs:List AV) (b o sz cap:Nat) (f:Nat->Nat->Value) (hx:xs≠[]) (hL:Lay w D xs b o sz f) (hc:xs.length<=cap)
  (h:∀(i:Nat) (x:AV) (j:Nat) v,xs[i]? =some x->x.cells[j]? =some v->xG w D v (f i j)):xG w D (.sl nn xs) (.slice (some ⟨b,o,none⟩) xs.length cap)
 |slc (cap:Nat) (xs:List AV) (b o sz:Nat) (f:Nat->Nat->Value) (hL:Lay w D xs b o sz f) (hc:xs.length<=cap)
  (h:∀(i:Nat) (x:AV) (j:Nat) v,xs[i]? =some x->x.cells[j]? =some v->xG w D v (f i j)):xG w D (.slc cap xs) (.slice (some ⟨b,o,none⟩) xs.length cap)
 |fp (xs:List AV) (b o sz i off:Nat) (f:Nat->Nat->Value) (hL:Lay w D xs b o sz f) (hi:i<xs.length) (ho:off<sz)
  (h:∀(i:Nat) (x:AV) (j:Nat) v,xs[i]? =some x->x.cells[j]? =some v->xG w D v (f i j)):xG w D (.fp xs i off) (.pointer (some ⟨b,o+i*sz+off,none⟩))
structure Fl where
 stale:Bool
 nest:Bool
instance:Coe Bool Fl:=⟨λb=>⟨b,false⟩⟩
inductive xN where
 |box (cs:List AV)
 |arr (sz:Nat) (xs:List AV) (fl:Fl)
 |dead
abbrev yJ:=Nat->Option xN
abbrev uE:=Nat->List (Nat×Nat)
def xZ (w:World) (b:Nat):Nat:=((w.shape? b).map (·.2)).getD 0
inductive zV (w:World) (D:Nat->Prop) (h:yJ) (β:uE):AV->Value->Prop
 |fz (v:AV) (c:Value) (hf:xG w D v c):zV w D h β v c
 |agg (cs:List AV) (c:Array Value) (hl:c.size=cs.length) (h1:∀i,i<c.size->(c.getD i undef).oneCell'=true) (hh:∀(i:Nat) v,cs[i]? =some v->zV w D h β v (c.getD i undef)):zV w D h β (.agg cs) (.agg c)
 |fn (f:Nat) (caps:List AV) (c:Array Value) (hl:c.size=caps.length) (hh:∀(i:Nat) v,caps[i]? =some v->zV w D h β v (c.getD i undef)):zV w D h β (.fn f caps) (.func (.func f) #[] c)
 |tup (vs:List AV) (c:Array Value) (hl:c.size=vs.length) (hh:∀(i:Nat) v,vs[i]? =some v->zV w D h β v (c.getD i undef)):zV w D h β (.tup vs) (.tuple c)
 |dref (k off len:Nat) (c:Value) (hk:h k=some .dead) (h1:c.oneCell'=true):zV w D h β (.ref k off len) c
 |dptr (k i off:Nat) (c:Value) (hk:h k=some .dead) (h1:c.oneCell'=true):zV w D h β (.ptr k i off) c
 |ref (k off len sz:Nat) (xs:List AV) (st:Fl) (b n cap:Nat) (hk:h k=some (.arr sz xs st)) (hb:(b,n)∈β k) (hn:off+len<=n) (hc:len<=cap) (hs:(off+cap)*sz=xZ w b):
  zV w D h β (.ref k off len) (.slice (some ⟨b,off*sz,none⟩) len cap)
 |ref0 (k off sz:Nat) (xs:List AV) (st:Fl) (a:Option Addr) (hk:h k=some (.arr sz xs st)) (hn:off<=xs.length):zV w D h β (.ref k off 0) (.slice a 0 0)
 |pbox (k off:Nat) (cs:List AV) (b n:Nat) (hk:h k=some (.box cs)) (hb:(b,n)∈β k):zV w D h β (.ptr k 0 off) (.pointer (some ⟨b,off,none⟩))
 |parr (k i off sz:Nat) (xs:List AV) (st:Fl) (b n:Nat) (hk:h k=some (.arr sz xs st)) (hb:(b,n)∈β k) (hi:i<n) (ho:off<sz):
  zV w D h β (.ptr k i off) (.pointer (some ⟨b,i*sz+off,none⟩))
def xH (X:Nat->Prop) (β:uE) (b:Nat):Prop:=X b∨∃k n,(b,n)∈β k
def hH (w:World) (D:Nat->Prop) (h:yJ) (β:uE) (nest:Bool) (xs:List AV) (f:Nat->Nat->Value):Prop:=
 ∀(i:Nat) (x:AV) (j:Nat) v,xs[i]? =some x->x.cells[j]? =some v->zV w D h β v (f i j)/\(nest=false->xG w D v (f i j))
theorem hH.ofF {w:World} {D:Nat->Prop} {h:yJ} {β:uE} {nest:Bool} {xs:List AV} {f:Nat->Nat->Value} (H:∀(i:Nat) (x:AV) (j:Nat) v,xs[i]? =some x->x.cells[j]? =some v->xG w D v (f i j)):hH w D h β nest xs f:=
 λi x j v hx hv=>⟨.fz _ _ (H i x j v hx hv),λ_=>H i x j v hx hv⟩
theorem hH.toF {w:World} {D:Nat->Prop} {h:yJ} {β:uE} {nest:Bool} {xs:List AV} {f:Nat->Nat->Value} (H:hH w D h β nest xs f) (hn:nest=false) (i:Nat) (x:AV) (j:Nat) (v:AV) (hx:xs[i]? =some x) (hv:x.cells[j]? =some v):xG w D v (f i j):=
 (H i x j v hx hv).2 hn
theorem hH.toV {w:World} {D:Nat->Prop} {h:yJ} {β:uE} {nest:Bool} {xs:List AV} {f:Nat->Nat->Value} (H:hH w D h β nest xs f) (i:Nat) (x:AV) (j:Nat) (v:AV) (hx:xs[i]? =some x) (hv:x.cells[j]? =some v):zV w D h β v (f i j):=
 (H i x j v hx hv).1
def UF (w:World) (D:Nat->Prop) (h:yJ) (β:uE) (k:Nat):xN->Prop
 | .box cs=>∃b c el,β k=[(b,0)]/\w.heap[b]? =some (.cells c el (0,0))/\c.size=cs.length/\(∀i,i<c.size->(c.getD i undef).oneCell'=true)/\∀(i:Nat) v,cs[i]? =some v->zV w D h β v (c.getD i undef)
 | .arr sz xs st=>1<=sz/\xs.length<=cI/\(xs≠[]->β k≠[])/\(∀(i:Nat) (x:AV),xs[i]? =some x->x.cells.length=sz)/\
  (∀b n r,β k=(b,n)::r->n=xs.length/\(st.stale=false->∀b' n',(b',n')∈r->n'=0)/\∀b' n',(b',n')∈r->n'<xs.length)/\
  ∃f:Nat->Nat->Value,hH w D h β st.nest xs f/\(∀i j,i<xs.length->j<sz->(f i j).oneCell'=true)/\
   ∀b n,(b,n)∈β k->∃c el,w.heap[b]? =some (.cells c el (0,0))/\n*sz<=c.size/\(∀i j,i<n->j<sz->c[i*sz+j]? =some (f i j))/\∀i,i<c.size->(c.getD i undef).oneCell'=true
 | .dead=>β k=[]
structure kQ (X:Nat->Prop) (h:yJ) (β:uE) (w:World):Prop where
 ent:∀k e,h k=some e->UF w (xH X β) h β k e
 off:∀k,h k=none->β k=[]
 disj:∀k k' b n n',(b,n)∈β k->(b,n')∈β k'->k=k'
 free:∀k b n,(b,n)∈β k->¬X b
 lt:∀b,xH X β b->b<w.heap.size
structure HC (w:World) (D:Nat->Prop) (h:yJ) (β:uE) (w':World) (D':Nat->Prop) (h':yJ) (β':uE):Prop where
 size:w.heap.size<=w'.heap.size
 fz:∀b,b<w.heap.size->¬D b->w'.heap[b]? =w.heap[b]? /\¬D' b
 bs:∀k b n,(b,n)∈β k->xZ w' b=xZ w b
 key:∀k e,h k=some e->h' k=some .dead∨match e with
  | .dead=>False
  | .box _=>(∃cs',h' k=some (.box cs'))/\∀b n,(b,n)∈β k->(b,n)∈β' k
  | .arr sz xs _=>(∃xs' st',h' k=some (.arr sz xs' st')/\xs.length<=xs'.length)/\∀b n,(b,n)∈β k->∃n',n<=n'/\(b,n')∈β' k
theorem Lay.evo {w w':World} {D D':Nat->Prop} {xs:List AV} {b o sz:Nat} {f:Nat->Nat->Value} (hL:Lay w D xs b o sz f) (hs:w.heap.size<=w'.heap.size)
  (hf:∀b,b<w.heap.size->¬D b->w'.heap[b]? =w.heap[b]? /\¬D' b):Lay w' D' xs b o sz f:=
 ⟨zY7 hL.lt hs,(hf b hL.lt hL.nd).2,hL.pos,hL.max,hL.wide,λi j hi hj=>(World.cell?_of_block (a:=⟨b,o+i*sz+j,none⟩) (hf b hL.lt hL.nd).1).trans (hL.cell i j hi hj),hL.one⟩
theorem xG.evo {w w':World} {D D':Nat->Prop} (hs:w.heap.size<=w'.heap.size) (hf:∀b,b<w.heap.size->¬D b->w'.heap[b]? =w.heap[b]? /\¬D' b)
  {v:AV} {c:Value} (h:xG w D v c):xG w' D' v c:=by
 induction h with
 |bot c=>exact .bot c
 |gh n c=>exact .gh n c
 |s v=>exact .s v
 |agg cs c hl h1 _ ih=>exact .agg cs c hl h1 ih
 |nil a cap=>exact .nil a cap
 |nil1 a cap=>exact .nil1 a cap
 |sl nn xs b o sz cap f hx hL hc _ ih=>exact .sl nn xs b o sz cap f hx (hL.evo hs hf) hc ih
 |slc cap xs b o sz f hL hc _ ih=>exact .slc cap xs b o sz f (hL.evo hs hf) hc ih
 |fp xs b o sz i off f hL hi ho _ ih=>exact .fp xs b o sz i off f (hL.evo hs hf) hi ho ih
theorem zV.evo {w w':World} {D D':Nat->Prop} {h h':yJ} {β β':uE} (E:HC w D h β w' D' h' β') {v:AV} {c:Value} (hv:zV w D h β v c):zV w' D' h' β' v c:=by
 induction hv with
 |fz v c hf=>exact .fz v c (hf.evo E.size E.fz)
 |agg cs c hl h1 _ ih=>exact .agg cs c hl h1 ih
 |fn f caps c hl _ ih=>exact .fn f caps c hl ih
 |tup vs c hl _ ih=>exact .tup vs c hl ih
 |dref k off len c hk h1=>exact .dref _ _ _ _ ((E.key k _ hk).resolve_right (λf=>f)) h1
 |dptr k i off c hk h1=>exact .dptr _ _ _ _ ((E.key k _ hk).resolve_right (λf=>f)) h1
 |ref k off len sz xs st b n cap hk hb hn hc hs=>
  rcases E.key k _ hk with hd|⟨⟨xs',st',hk',_⟩,hm⟩
  ·exact .dref _ _ _ _ hd rfl
  ·obtain⟨n',hn',hb'⟩:=hm b n hb;exact .ref k off len sz xs' st' b n' cap hk' hb' (zY8 hn hn') hc (by rw[E.bs k b n hb];exact hs)
 |ref0 k off sz xs st a hk hn=>
  rcases E.key k _ hk with hd|⟨⟨xs',st',hk',hl⟩,hm⟩
  ·exact .dref _ _ _ _ hd rfl
  ·exact .ref0 k off sz xs' st' a hk' (zY8 hn hl)
 |pbox k off cs b n hk hb=>
  rcases E.key k _ hk with hd|⟨⟨cs',hk'⟩,hm⟩
  ·exact .dptr _ _ _ _ hd rfl
  ·exact .pbox k off cs' b n hk' (hm b n hb)
 |parr k i off sz xs st b n hk hb hi ho=>
  rcases E.key k _ hk with hd|⟨⟨xs',st',hk',hl⟩,hm⟩
  ·exact .dptr _ _ _ _ hd rfl
  ·obtain⟨n',hn',hb'⟩:=hm b n hb;exact .parr k i off sz xs' st' b n' hk' hb' (zY7 hi hn') ho
theorem hH.evo {w w':World} {D D':Nat->Prop} {h h':yJ} {β β':uE} (E:HC w D h β w' D' h' β') {nest:Bool} {xs:List AV} {f:Nat->Nat->Value} (H:hH w D h β nest xs f):hH w' D' h' β' nest xs f:=
 λi x j v hx hv=>⟨(H i x j v hx hv).1.evo E,λhn=>((H i x j v hx hv).2 hn).evo E.size E.fz⟩
structure xM (X:Nat->Prop) (w:World) (h:yJ) (β:uE) (w':World) (h':yJ) (β':uE):Prop where
 size:w.heap.size<=w'.heap.size
 keep:∀b,b<w.heap.size->(∀k n,(b,n)∉β k)->w'.heap[b]? =w.heap[b]?
 own:∀k b n,(b,n)∈β' k->(∃k' n',(b,n')∈β k')∨w.heap.size<=b
 bs:∀k b n,(b,n)∈β k->xZ w' b=xZ w b
 key:∀k e,h k=some e->h' k=some .dead∨match e with
  | .dead=>False
  | .box _=>(∃cs',h' k=some (.box cs'))/\∀b n,(b,n)∈β k->(b,n)∈β' k
  | .arr sz xs _=>(∃xs' st',h' k=some (.arr sz xs' st')/\xs.length<=xs'.length)/\∀b n,(b,n)∈β k->∃n',n<=n'/\(b,n')∈β' k
 hok:kQ X h' β' w'
 os:w'.os=w.os
 tape:w'.tape=w.tape
 output:w'.output=w.output
theorem xM.evo {X:Nat->Prop} {w w':World} {h h':yJ} {β β':uE} (G:xM X w h β w' h' β'):HC w (xH X β) h β w' (xH X β') h' β' where
 size:=G.size
 fz b hb hd:=by
  have h1:∀k n,(b,n)∉β k:=λk n hm=>hd (.inr ⟨k,n,hm⟩)
  refine⟨G.keep b hb h1,?_⟩;rintro(hx|⟨k,n,hm⟩)
  ·exact hd (.inl hx)
  ·rcases G.own k b n hm with⟨k',n',h2⟩|h2
   ·exact h1 _ _ h2
   ·omega
 bs:=G.bs
 key:=G.key
theorem qV (h:yJ) (β:uE):∀k e,h k=some e->h k=some .dead∨match e with
  | .dead=>False
  | .box _=>(∃cs',h k=some (.box cs'))/\∀b n,(b,n)∈β k->(b,n)∈β k
  | .arr sz xs _=>(∃xs' st',h k=some (.arr sz xs' st')/\xs.length<=xs'.length)/\∀b n,(b,n)∈β k->∃n',n<=n'/\(b,n')∈β k:=by
 intro k e he
 cases e with
 |dead=>exact .inl he
 |box cs=>exact .inr ⟨⟨cs,he⟩,λ_ _ h=>h⟩
 |arr sz xs st=>exact .inr ⟨⟨xs,st,he,zX6 _⟩,λ_ n h=>⟨n,zX6 _,h⟩⟩
theorem xM.refl {X:Nat->Prop} {h:yJ} {β:uE} {w:World} (H:kQ X h β w):xM X w h β w h β:=
 ⟨zX6 _,λ_ _ _=>rfl,λk _ n hm=> .inl ⟨k,n,hm⟩,λ_ _ _ _=>rfl,qV h β,H,rfl,rfl,rfl⟩
theorem kQ.drew {X:Nat->Prop} {h:yJ} {β:uE} {w:World} (H:kQ X h β w) (n:Nat):kQ X h β {w with drawn:=n}:=by
 have ev:∀{v c},zV w (xH X β) h β v c->zV {w with drawn:=n} (xH X β) h β v c:=λhv=>
  zV.evo (w:=w) (w':={w with drawn:=n}) (D':=xH X β) (h':=h) (β':=β) ⟨zX6 _,λ_ _ hd=>⟨rfl,hd⟩,λ_ _ _ _=>rfl,qV h β⟩ hv
 have ef:∀{v c},xG w (xH X β) v c->xG {w with drawn:=n} (xH X β) v c:=λhv=>xG.evo (w:=w) (w':={w with drawn:=n}) (D':=xH X β) (zX6 _) (λ_ _ hd=>⟨rfl,hd⟩) hv
 refine⟨λk e he=>?_,H.off,H.disj,H.free,H.lt⟩;have:=H.ent k e he
 cases e with
 |dead=>exact this
 |box cs=>
  obtain⟨b,c,el,h1,h2,h3,h4,h5⟩:=this;exact⟨b,c,el,h1,h2,h3,h4,λi v hv=>ev (h5 i v hv)⟩
 |arr sz xs st=>
  obtain⟨h1,h2,h3,h4,h5,f,h6,h7⟩:=this;exact⟨h1,h2,h3,h4,h5,f,λi x j v hx hv=>⟨ev (h6 i x j v hx hv).1,λhn=>ef ((h6 i x j v hx hv).2 hn)⟩,h7⟩
theorem xM.drew {X:Nat->Prop} {h:yJ} {β:uE} {w:World} (H:kQ X h β w) (n:Nat):xM X w h β {w with drawn:=n} h β:=
 ⟨zX6 _,λ_ _ _=>rfl,λk _ n hm=> .inl ⟨k,n,hm⟩,λ_ _ _ _=>rfl,qV h β,H.drew n,rfl,rfl,rfl⟩
theorem xM.trans {X:Nat->Prop} {w w' w'':World} {h h' h'':yJ} {β β' β'':uE} (H:kQ X h β w) (G:xM X w h β w' h' β') (K:xM X w' h' β' w'' h'' β''):xM X w h β w'' h'' β'' where
 size:=zY8 G.size K.size
 keep b hb hn:=by
  rw[K.keep b (zY7 hb G.size),G.keep b hb hn];intro k n hm
  rcases G.own k b n hm with⟨k',n',h2⟩|h2
  ·exact hn _ _ h2
  ·omega
 own k b n hm:=by
  rcases K.own k b n hm with⟨k',n',h2⟩|h2
  ·exact G.own k' b n' h2
  ·exact .inr (zY8 G.size h2)
 bs k b n hm:=by
  have hb:=H.lt b (.inr ⟨k,n,hm⟩);by_cases hd:∃k n,(b,n)∈β' k
  ·obtain⟨k',n',hm'⟩:=hd;rw[K.bs k' b n' hm',G.bs k b n hm]
  ·rw[<-G.bs k b n hm];unfold xZ World.shape?;rw[K.keep b (zY7 hb G.size) λk n hm=>hd ⟨k,n,hm⟩]
 key k e he:=by
  rcases G.key k e he with h1|h1
  ·rcases K.key k _ h1 with h2|h2
   ·exact .inl h2
   ·exact h2.elim
  ·cases e with
   |dead=>exact h1.elim
   |box cs=>
    obtain⟨⟨cs',h2⟩,h3⟩:=h1
    rcases K.key k _ h2 with h4|⟨h4,h5⟩
    ·exact .inl h4
    ·exact .inr ⟨h4,λb n hm=>h5 b n (h3 b n hm)⟩
   |arr sz xs st=>
    obtain⟨⟨xs',st',h2,hl⟩,h3⟩:=h1
    rcases K.key k _ h2 with h4|⟨⟨xs'',st'',h4,hl'⟩,h5⟩
    ·exact .inl h4
    ·refine .inr ⟨⟨xs'',st'',h4,zY8 hl hl'⟩,λb n hm=>?_⟩;obtain⟨n',hn',hm'⟩:=h3 b n hm;obtain⟨n'',hn'',hm''⟩:=h5 b n' hm';exact⟨n'',zY8 hn' hn'',hm''⟩
 hok:=K.hok
 os:=K.os.trans G.os
 tape:=K.tape.trans G.tape
 output:=K.output.trans G.output
section
inductive TD where
 |str (fs:List (Nat×Nat))
 |slice (e:Nat)
 |arr (n e:Nat)
 |int (k:IntKind)
 |bool
 |string
 |ptr (e:Nat)
 |func
 |other
structure TI where
 d:TD
 size:Nat
 bytes:Nat
 zero:List Value
def TD.agg:TD->Bool
 | .str _| .arr _ _=>true
 |_=>false
def YT:TypeDesc->TD
 | .struct fs=> .str (fs.toList.map λf=>(f.offset,f.type))
 | .slice e=> .slice e
 | .array n e=> .arr n e
 | .int k=> .int k
 | .bool=> .bool
 | .string=> .string
 | .pointer e=> .ptr e
 | .func .. => .func
 |_=> .other
def zKw (P:Program) (t:Nat):Option TI:=
 match P.info? t,P.underlying t with
 |some i,some u=>i.zero.map λz=>⟨YT u,i.size,i.bytes,z.cells.toList⟩
 |_,_=>none
def uR (P:Program) (TT:List TI):Prop:=∀(t:Nat) ti,TT[t]? =some ti->zKw P t=some ti
theorem vK {P:Program} {t:Nat} {ti:TI} (h:zKw P t=some ti):∃i u z,P.info? t=some i/\P.underlying t=some u/\i.zero=some z/\ti.d=YT u/\ti.size=i.size/\ti.bytes=i.bytes/\ti.zero=z.cells.toList:=by
 unfold zKw at h;split at h
 ·rename_i i u hi hu
  cases hz:i.zero with
  |none=>simp[hz]at h
  |some z=>
   simp[hz]at h;exact⟨i,u,z,hi,hu,hz,by rw[<-h],by rw[<-h],by rw[<-h],by rw[<-h]⟩
 ·cases h
section runs
variable {P:Program} {t:Nat} {ti:TI} (h:zKw P t=some ti) (w:World)
include h
theorem CJ:∃i z,(typeInfo t).run P w= .ok i w/\i.size=ti.size/\i.bytes=ti.bytes/\i.zero=some z/\z.cells.toList=ti.zero:=by
 obtain⟨i,u,z,hi,_,hz,_,hs,hb,hzz⟩:=vK h;exact⟨i,z,by simp[typeInfo,hi],hs.symm,hb.symm,hz,hzz.symm⟩
theorem uW:(sizeOf t).run P w= .ok ti.size w:=by
 obtain⟨i,z,hr,hs,_⟩:=CJ h w;simp[sizeOf,hr,hs]
theorem zKx:∃z,(zeroValue t).run P w= .ok z w/\z.cells.toList=ti.zero:=by
 obtain⟨i,z,hr,_,_,hz,hzz⟩:=CJ h w;exact⟨z,by simp[zeroValue,hr,hz],hzz⟩
theorem wA:∃u,(underlying t).run P w= .ok u w/\YT u=ti.d:=by
 obtain⟨i,u,z,_,hu,_,hd,_⟩:=vK h;exact⟨u,by simp[underlying,hu],hd.symm⟩
theorem HE:(isAgg t).run P w= .ok ti.d.agg w:=by
 obtain⟨u,hr,hd⟩:=wA h w;rw[<-hd];simp only[isAgg,Sem.run_bind,hr,Result.andThen_ok]
 cases u<;>rfl
end runs
theorem CK {P:Program} {t:Nat} (w:World) {u:TypeDesc} (hu:P.underlying t=some u):(underlying t).run P w= .ok u w:=by simp[underlying,hu]
theorem vS {u:TypeDesc} {e:Nat} (h:YT u= .slice e):u= .slice e:=by cases u<;>simp[YT]at h;rw[h]
theorem zKy {u:TypeDesc} {n e:Nat} (h:YT u= .arr n e):u= .array n e:=by cases u<;>simp[YT]at h;rw[h.1,h.2]
theorem ND {u:TypeDesc} {k:IntKind} (h:YT u= .int k):u= .int k:=by cases u<;>simp[YT]at h;rw[h]
theorem zPl {u:TypeDesc} (h:YT u= .bool):u= .bool:=by cases u<;>simp[YT]at h;rfl
theorem zEq {u:TypeDesc} (h:YT u= .string):u= .string:=by cases u<;>simp[YT]at h;rfl
theorem zAv {u:TypeDesc} {fs:List (Nat×Nat)} (h:YT u= .str fs):∃f,u= .struct f/\f.toList.map (λf=>(f.offset,f.type))=fs:=by
 cases u with
 |struct f=>exact⟨f,rfl,by simpa [YT]using h⟩
 |_=>simp[YT]at h
structure St where
 tm:List (Nat×AV)
 h:List (Nat×xN)
def zG:List (Nat×AV)->Nat->AV
 | [],_=> .bot
 |(k,v)::r,t=>bif Nat.beq t k then v else zG r t
def zC:List (Nat×xN)->Nat->Option xN
 | [],_=>none
 |(k,e)::r,t=>bif Nat.beq t k then some e else zC r t
def over (d:List (Nat×xN)) (h:yJ):yJ:=λk=>match zC d k with
 |some e=>some e
 |none=>h k
def yN (tm:Nat->AV):Operand->AV
 | .tmp t=>tm t
 | .const v=> .s v
 | .func f=> .fn f []
 | .global _=> .bot
def fU (op:Op):List Nat:=op.operands.toList.filterMap λ| .tmp t=>some t|_=>none
def bW (P:Program) (N:Value->World->Prop):Result Next->Prop
 | .ok (.value c) w'=>N c w'
 | .ok .skip w'=>N undef w'
 | .ok (.enter f args) w'=>Calls P f args w' λe w''=>∃c,e= .returned c/\N c w''
 |_=>False
def zWv (P:Program) (X:Nat->Prop) (tm:Nat->AV) (h:yJ) (op:Op) (v:AV) (h':yJ):Prop:=
 ∀(o:Oper) (a:Act) (w:World) (β:uE),o.op=op->kQ X h β w->(∀t,zV w (xH X β) h β (tm t) (a.eval (.tmp t)))->
  bW P (λc w'=>∃β',xM X w h β w' h' β'/\zV w' (xH X β') h' β' v c) ((execOp a.eval o).run P w)
structure wR (P:Program) (st:St) (op:Op) (v:AV) (d:List (Nat×xN)) (r nw:List Nat):Prop where
 run:∀(X:Nat->Prop) (tm:Nat->AV) (h:yJ),(∀t,t∈fU op->tm t=zG st.tm t)->(∀k,k∈r->h k=zC st.h k)->(∀k,k∈nw->h k=none)->zWv P X tm h op v (over d h)
section
variable {w:World} {D:Nat->Prop} {h:yJ} {β:uE}
theorem QH {tm:Nat->AV} {a:Act} (H:∀t,zV w D h β (tm t) (a.eval (.tmp t))) (x:Operand):zV w D h β (yN tm x) (a.eval x):=by
 cases x with
 |tmp t=>exact H t
 |const v=>exact .fz _ _ (.s v)
 |global g=>exact .fz _ _ (.bot _)
 |func f=>exact .fn f [] #[] rfl (λi v hv=>by simp at hv)
theorem zEr {op:Op} {tm tm':Nat->AV} (H:∀t,t∈fU op->tm t=tm' t) {x:Operand} (hx:x∈op.operands):yN tm x=yN tm' x:=by
 cases x with
 |tmp t=>exact H t (by simp only[fU,List.mem_filterMap];exact⟨.tmp t,by simpa using hx,rfl⟩)
 |_=>rfl
theorem zV.s_inv {x c:Value} (hv:zV w D h β (.s x) c):c=x:=by
 cases hv with
 |fz _ _ hf=>cases hf;rfl
theorem jM {op:Op} {tm:Nat->AV} {st:St} {a:Act} (H:∀t,zV w D h β (tm t) (a.eval (.tmp t))) (hg:∀t,t∈fU op->tm t=zG st.tm t) {x:Operand} (hx:x∈op.operands) {v:AV}
  (hv:yN (zG st.tm) x=v):zV w D h β v (a.eval x):=by
 rw[<-hv,<-zEr hg hx];exact QH H x
theorem vL {op:Op} {tm:Nat->AV} {st:St} {a:Act} (H:∀t,zV w D h β (tm t) (a.eval (.tmp t))) (hg:∀t,t∈fU op->tm t=zG st.tm t) {x:Operand} (hx:x∈op.operands) {v:Value}
 (hv:yN (zG st.tm) x= .s v):a.eval x=v:=(jM H hg hx hv).s_inv
end
theorem dJ (h:yJ):over [] h=h:=rfl
theorem yO {P:Program} {st:St} {op:Op} {v:AV} {r:List Nat}
  (H:∀(o:Oper) (X:Nat->Prop) (tm:Nat->AV) (h:yJ) (w:World) (β:uE) (a:Act),o.op=op->(∀t,t∈fU op->tm t=zG st.tm t)->(∀k,k∈r->h k=zC st.h k)->kQ X h β w->
   (∀t,zV w (xH X β) h β (tm t) (a.eval (.tmp t)))->∃c,(execOp a.eval o).run P w= .ok (.value c) w/\zV w (xH X β) h β v c):wR P st op v [] r []:=by
 refine⟨?_⟩;intro X tm h hg hr _ o a w β ho HH Ht;obtain⟨c,hc,hv⟩:=H o X tm h w β a ho hg hr HH Ht;rw[hc,dJ];exact⟨β,xM.refl HH,hv⟩
section ops
variable {P:Program} {TT:List TI} {st:St}
theorem zKz {x:Operand} {v:AV} (hv:yN (zG st.tm) x=v):wR P st (.move x) v [] [] []:=
 yO λo X tm h w β a ho hg _ _ Ht=>by
  obtain⟨dst,op',type,pos,after,guard⟩:=o;dsimp only at ho;subst ho;exact⟨a.eval x,rfl,jM Ht hg vZ hv⟩
theorem zAw {x:Operand} {v:AV} (hv:yN (zG st.tm) x=v):wR P st (.assign x) v [] [] []:=
 yO λo X tm h w β a ho hg _ _ Ht=>by
  obtain⟨dst,op',type,pos,after,guard⟩:=o;dsimp only at ho;subst ho;exact⟨a.eval x,rfl,jM Ht hg vZ hv⟩
theorem zK0 {c x y:Operand} {t:Bool} {v:AV} (hc:yN (zG st.tm) c= .s (.bool t)) (hv:(bif t then yN (zG st.tm) x else yN (zG st.tm) y)=v):wR P st (.pick c x y) v [] [] []:=
 yO λo X tm h w β a ho hg _ _ Ht=>by
  obtain⟨dst,op',type,pos,after,guard⟩:=o;dsimp only at ho;subst ho;have h1:=vL Ht hg (x:=c) vZ hc;refine⟨if t then a.eval x else a.eval y,by simp[execOp,h1,asBool],?_⟩;cases t
  ·exact jM Ht hg vZ hv
  ·exact jM Ht hg vZ hv
theorem CM {x:Operand} {vs:List AV} {i:Nat} {v:AV} (hx:yN (zG st.tm) x= .tup vs) (hv:vs[i]? =some v):wR P st (.extract x i) v [] [] []:=
 yO λo X tm h w β a ho hg _ _ Ht=>by
  obtain⟨dst,op',type,pos,after,guard⟩:=o;dsimp only at ho;subst ho;have h1:=jM Ht hg (x:=x) vZ hx;have hi:=(zYq.1 hv).1;generalize he:a.eval x=cx at h1
  cases h1 with
  |fz _ _ hf=>cases hf
  |tup _ c hl hh=>
   obtain⟨u,hc⟩:∃u,c[i]? =some u:=⟨c[i],by simp[show i<c.size by omega]⟩;have hu:c.getD i undef=u:=by simp[zYy,hc]
   exact⟨u,by simp[execOp,Instr.extract,he,hc],hu▸hh i v hv⟩
def XC:IntKind->Int->Prop
 | .i64,n=> -9223372036854775808<=n/\n<=9223372036854775807
 | .u8,n=>0<=n/\n<=255
 | .i32,n=> -2147483648<=n/\n<=2147483647
 | .u32,n=>0<=n/\n<=4294967295
 | .u64,n=>0<=n/\n<=18446744073709551615
 | .i8,n=> -128<=n/\n<=127
 | .i16,n=> -32768<=n/\n<=32767
 | .u16,n=>0<=n/\n<=65535
theorem kF {k:IntKind} {n:Int} (h:XC k n):k.wrap n=n:=by
 cases k<;>first
  |exact IntWalk.i64_in n h
  |exact IntWalk.u8_in n h
  |exact IntWalk.i32_in n h
  |exact IntWalk.u32_in n h
  |exact IntWalk.u64_in n h
  |exact IntWalk.i8_in n h
  |exact IntWalk.i16_in n h
  |exact IntWalk.u16_in n h
theorem uS {op:BinOp} {tx ty:Nat} {x y:Operand} {k:IntKind} {m n:Int} {v:Value} (hx:yN (zG st.tm) x= .s (.int k m)) (hy:yN (zG st.tm) y= .s (.int k n))
  (H:∀w,(binOp op tx (.int k m) (.int k n)).run P w= .ok v w):wR P st (.binOp op tx x y ty) (.s v) [] [] []:=
 yO λo X tm h w β a ho hg _ _ Ht=>by
  obtain⟨dst,op',type,pos,after,guard⟩:=o;dsimp only at ho;subst ho;have h1:=vL Ht hg (x:=x) vZ hx;have h2:=vL Ht hg (x:=y) vZ hy;refine⟨v,?_,.fz _ _ (.s v)⟩
  have hgd:(eqGuard op tx x y (.int k m) (.int k n)).run P w= .ok () w:=by
   unfold eqGuard;cases op<;>rfl
  simp only[execOp,h1,h2,Sem.run_bind,hgd,Result.andThen_ok,H,Sem.run_pure]
section
variable {tx ty:Nat} {x y:Operand} {k:IntKind} {m n:Int} (hx:yN (zG st.tm) x= .s (.int k m)) (hy:yN (zG st.tm) y= .s (.int k n))
include hx hy
theorem HF (hr:XC k (m+n)):wR P st (.binOp .add tx x y ty) (.s (.int k (m+n))) [] [] []:=uS hx hy λw=>by simp[binOp,Op.intArith,kF hr]
theorem HG (hr:XC k (m-n)):wR P st (.binOp .sub tx x y ty) (.s (.int k (m-n))) [] [] []:=uS hx hy λw=>by simp[binOp,Op.intArith,kF hr]
theorem HI (hr:XC k (m*n)):wR P st (.binOp .mul tx x y ty) (.s (.int k (m*n))) [] [] []:=uS hx hy λw=>by simp[binOp,Op.intArith,kF hr]
theorem HJ (hr:XC k (m.tdiv n)) (h0:n≠0):wR P st (.binOp .quo tx x y ty) (.s (.int k (m.tdiv n))) [] [] []:=uS hx hy λw=>by simp[binOp,Op.intDiv,h0,kF hr]
theorem HL (h0:n≠0):wR P st (.binOp .rem tx x y ty) (.s (.int k (m.tmod n))) [] [] []:=uS hx hy λw=>by simp[binOp,Op.intDiv,h0]
theorem QI:wR P st (.binOp .and tx x y ty) (.s (.int k (k.wrap (BitVec.ofInt k.bits m &&& BitVec.ofInt k.bits n).toNat))) [] [] []:=uS hx hy λw=>by simp only[binOp,Op.intBits];simp
theorem HM:wR P st (.binOp .or tx x y ty) (.s (.int k (k.wrap (BitVec.ofInt k.bits m ||| BitVec.ofInt k.bits n).toNat))) [] [] []:=uS hx hy λw=>by simp only[binOp,Op.intBits];simp
theorem HN:wR P st (.binOp .xor tx x y ty) (.s (.int k (k.wrap (BitVec.ofInt k.bits m ^^^ BitVec.ofInt k.bits n).toNat))) [] [] []:=uS hx hy λw=>by simp only[binOp,Op.intBits];simp
theorem zAx:wR P st (.binOp .andNot tx x y ty) (.s (.int k (k.wrap (BitVec.ofInt k.bits m &&& ~~~BitVec.ofInt k.bits n).toNat))) [] [] []:=uS hx hy λw=>by simp only[binOp,Op.intBits];simp
theorem HO:wR P st (.binOp .eql tx x y ty) (.s (.bool (m==n))) [] [] []:=uS hx hy λw=>by simp[binOp,Op.intCmp]
theorem HP:wR P st (.binOp .neq tx x y ty) (.s (.bool (m != n))) [] [] []:=uS hx hy λw=>by simp[binOp,Op.intCmp]
theorem HQ:wR P st (.binOp .lss tx x y ty) (.s (.bool (decide (m<n)))) [] [] []:=uS hx hy λw=>by simp[binOp,Op.intCmp]
theorem HR:wR P st (.binOp .leq tx x y ty) (.s (.bool (decide (m<=n)))) [] [] []:=uS hx hy λw=>by simp[binOp,Op.intCmp]
theorem HS:wR P st (.binOp .gtr tx x y ty) (.s (.bool (decide (n<m)))) [] [] []:=uS hx hy λw=>by simp[binOp,Op.intCmp]
theorem HT:wR P st (.binOp .geq tx x y ty) (.s (.bool (decide (n<=m)))) [] [] []:=uS hx hy λw=>by simp[binOp,Op.intCmp]
end
theorem jS {op:BinOp} {tx ty:Nat} {x y:Operand} {k k':IntKind} {m n:Int} {v:Int} (hop:op= .shl/\v=k.wrap (m*2 ^ (min n.toNat k.bits))∨op= .shr/\v=m.fdiv (2 ^ (min n.toNat k.bits)))
  (hx:yN (zG st.tm) x= .s (.int k m)) (hy:yN (zG st.tm) y= .s (.int k' n)) (h0:0<=n):wR P st (.binOp op tx x y ty) (.s (.int k v)) [] [] []:=
 yO λo X tm h w β a ho hg _ _ Ht=>by
  obtain⟨dst,op',type,pos,after,guard⟩:=o;dsimp only at ho;subst ho;have h1:=vL Ht hg (x:=x) vZ hx;have h2:=vL Ht hg (x:=y) vZ hy;have h3:¬n<0:=by omega
  refine⟨.int k v,?_,.fz _ _ (.s _)⟩
  rcases hop with⟨rfl,rfl⟩|⟨rfl,rfl⟩<;>simp[execOp,h1,h2,eqGuard,binOp,Op.shift,h3]
theorem zPm {tx:Nat} {x:Operand} {b:Bool} (hx:yN (zG st.tm) x= .s (.bool b)):wR P st (.unOp .not tx x) (.s (.bool !b)) [] [] []:=
 yO λo X tm h w β a ho hg _ _ Ht=>by
  obtain⟨dst,op',type,pos,after,guard⟩:=o;dsimp only at ho;subst ho;have h1:=vL Ht hg (x:=x) vZ hx;exact⟨_,by simp[execOp,h1,Op.unary],.fz _ _ (.s _)⟩
theorem HU {tx:Nat} {x:Operand} {k:IntKind} {n:Int} (hx:yN (zG st.tm) x= .s (.int k n)) (hr:XC k (-n)):wR P st (.unOp .neg tx x) (.s (.int k (-n))) [] [] []:=
 yO λo X tm h w β a ho hg _ _ Ht=>by
  obtain⟨dst,op',type,pos,after,guard⟩:=o;dsimp only at ho;subst ho;have h1:=vL Ht hg (x:=x) vZ hx;exact⟨.int k (-n),by simp[execOp,h1,Op.unary,Op.intArith,kF hr],.fz _ _ (.s _)⟩
theorem UG {src dst:Nat} {x:Operand} {k k':IntKind} {n:Int} {ts td:TI} (hP:uR P TT) (hs:TT[src]? =some ts) (hd:TT[dst]? =some td) (hk:td.d= .int k') (hx:yN (zG st.tm) x= .s (.int k n)):
  wR P st (.convert src dst x) (.s (.int k' (k'.wrap n))) [] [] []:=
 yO λo X tm h w β a ho hg _ _ Ht=>by
  obtain⟨dst',op',type,pos,after,guard⟩:=o;dsimp only at ho;subst ho;have h1:=vL Ht hg (x:=x) vZ hx;obtain⟨u,hu,_⟩:=wA (hP _ _ hs) w;obtain⟨u',hu',hd'⟩:=wA (hP _ _ hd) w;obtain rfl:=ND (hd'.trans hk);exact⟨.int k' (k'.wrap n),by simp[execOp,convert,h1,hu,hu',Conv.intToInt],.fz _ _ (.s _)⟩
theorem eV {op:BinOp} {tx ty:Nat} {x y:Operand} {p q:Bool} {v:Bool} {ti:TI} (hP:uR P TT) (ht:TT[tx]? =some ti) (hd:ti.d= .bool) (hx:yN (zG st.tm) x= .s (.bool p)) (hy:yN (zG st.tm) y= .s (.bool q))
  (hop:op= .eql/\v=(p==q)∨op= .neq/\v=(p != q)):wR P st (.binOp op tx x y ty) (.s (.bool v)) [] [] []:=
 yO λo X tm h w β a ho hg _ _ Ht=>by
  obtain⟨dst,op',type,pos,after,guard⟩:=o;dsimp only at ho;subst ho;have h1:=vL Ht hg (x:=x) vZ hx;have h2:=vL Ht hg (x:=y) vZ hy;obtain⟨u,hu,hd'⟩:=wA (hP _ _ ht) w;obtain rfl:=zPl (hd'.trans hd)
  have he:(Op.equal tx (.bool p) (.bool q)).run P w= .ok (p==q) w:=by
   show(Op.equalIn (9999+1) tx (.bool p) (.bool q)).run P w=_
   unfold Op.equalIn;simp[hu]
  refine⟨.bool v,?_,.fz _ _ (.s _)⟩
  rcases hop with⟨rfl,rfl⟩|⟨rfl,rfl⟩<;>simp[execOp,h1,h2,eqGuard,binOp,he,bne]
theorem HV {f:Nat} {cap:Array Operand}:wR P st (.makeFunc (.func f) #[] cap) (.fn f (cap.toList.map (yN (zG st.tm)))) [] [] []:=
 yO λo X tm h w β a ho hg _ _ Ht=>by
  obtain⟨dst,op',type,pos,after,guard⟩:=o;dsimp only at ho;subst ho;refine⟨.func (.func f) #[] (cap.map a.eval),by simp[execOp,Instr.makeFunc],.fn _ _ _ zS λi v hv=>?_⟩;simp only[zX4,zYg]at hv;obtain⟨x,hx,rfl⟩:=hv
  have:(cap.map a.eval).getD i undef=a.eval x:=by
   have:cap[i]? =some x:=by simpa using hx
   simp[zYy,this]
  rw[this];refine jM Ht hg ?_ rfl
  have:x∈cap:=by
   have:=zZn hx;simpa using this
  simp[Op.operands,this]
end ops
end
def cJ (β:uE) (k:Nat) (l:List (Nat×Nat)):uE:=λj=>if j=k then l else β j
theorem zW (β:uE) (k:Nat) (l:List (Nat×Nat)):cJ β k l k=l:=by simp[cJ]
theorem qK (β:uE) {k j:Nat} (l:List (Nat×Nat)) (h:j≠k):cJ β k l j=β j:=by simp[cJ,h]
theorem zEs (k:Nat):Nat.beq k k=true:=by simp
theorem YL {j k:Nat} (h:j≠k):Nat.beq j k=false:=by
 cases e:Nat.beq j k with
 |false=>rfl
 |true=>exact absurd (zYu e) h
theorem qL (k:Nat) (e:xN) (h:yJ):over [(k,e)] h k=some e:=by simp[over,zC]
theorem bX {k j:Nat} (e:xN) (h:yJ) (hj:j≠k):over [(k,e)] h j=h j:=by simp[over,zC,YL hj]
theorem UF.evo {w w':World} {D D':Nat->Prop} {h h':yJ} {β β':uE} (E:HC w D h β w' D' h' β') {k:Nat} {e:xN} (hb:β' k=β k) (hk:∀b n,(b,n)∈β k->w'.heap[b]? =w.heap[b]?)
  (H:UF w D h β k e):UF w' D' h' β' k e:=by
 cases e with
 |dead=>exact hb.trans H
 |box cs=>
  obtain⟨b,c,el,h1,h2,h3,h4,h5⟩:=H;exact⟨b,c,el,hb.trans h1,(hk b 0 (by rw[h1];simp)).trans h2,h3,h4,λi v hv=>(h5 i v hv).evo E⟩
 |arr sz xs st=>
  obtain⟨h1,h2,h3,h4,h5,f,h6,h7,h8⟩:=H;refine⟨h1,h2,by rwa [hb],h4,by rwa [hb],f,h6.evo E,h7,λb n hm=>?_⟩;rw[hb]at hm;obtain⟨c,el,h9,h10⟩:=h8 b n hm;exact⟨c,el,(hk b n hm).trans h9,h10⟩
theorem xM.step {X:Nat->Prop} {h:yJ} {β:uE} {w w':World} (H:kQ X h β w) (k:Nat) (e':xN) (l:List (Nat×Nat)) (size:w.heap.size<=w'.heap.size)
  (keep:∀b,b<w.heap.size->(∀n,(b,n)∉β k)->w'.heap[b]? =w.heap[b]?) (os:w'.os=w.os) (tape:w'.tape=w.tape) (output:w'.output=w.output)
  (own:∀b n,(b,n)∈l->(∃n',(b,n')∈β k)∨(w.heap.size<=b/\b<w'.heap.size)) (bs:∀b n,(b,n)∈β k->xZ w' b=xZ w b)
  (key:∀e,h k=some e->e'= .dead∨match e with
   | .dead=>False
   | .box _=>(∃cs',e'= .box cs')/\∀b n,(b,n)∈β k->(b,n)∈l
   | .arr sz xs _=>(∃xs' st',e'= .arr sz xs' st'/\xs.length<=xs'.length)/\∀b n,(b,n)∈β k->∃n',n<=n'/\(b,n')∈l)
  (ent:HC w (xH X β) h β w' (xH X (cJ β k l)) (over [(k,e')] h) (cJ β k l)->UF w' (xH X (cJ β k l)) (over [(k,e')] h) (cJ β k l) k e'):
  xM X w h β w' (over [(k,e')] h) (cJ β k l):=by
 have own':∀j b n,(b,n)∈cJ β k l j->(∃k' n',(b,n')∈β k')∨w.heap.size<=b:=by
  intro j b n hm;by_cases hj:j=k
  ·subst hj;rw[zW]at hm
   rcases own b n hm with⟨n',h1⟩|⟨h1,_⟩
   ·exact .inl ⟨_,_,h1⟩
   ·exact .inr h1
  ·rw[qK _ _ hj]at hm;exact .inl ⟨_,_,hm⟩
 have apart:∀j b n n',j≠k->(b,n)∈β j->(b,n')∉β k:=λj b n n' hj h1 h2=>hj (H.disj _ _ _ _ _ h1 h2)
 have keep':∀b,b<w.heap.size->(∀k n,(b,n)∉β k)->w'.heap[b]? =w.heap[b]? :=λb hb hn=>keep b hb (hn k)
 have bs':∀j b n,(b,n)∈β j->xZ w' b=xZ w b:=by
  intro j b n hm;by_cases hj:j=k
  ·subst hj;exact bs b n hm
  ·unfold xZ World.shape?;rw[keep b (H.lt b (.inr ⟨j,n,hm⟩)) λn' h1=>apart j b n n' hj hm h1]
 have key':∀j e,h j=some e->over [(k,e')] h j=some .dead∨match e with
   | .dead=>False
   | .box _=>(∃cs',over [(k,e')] h j=some (.box cs'))/\∀b n,(b,n)∈β j->(b,n)∈cJ β k l j
   | .arr sz xs _=>(∃xs' st',over [(k,e')] h j=some (.arr sz xs' st')/\xs.length<=xs'.length)/\∀b n,(b,n)∈β j->∃n',n<=n'/\(b,n')∈cJ β k l j:=by
  intro j e he;by_cases hj:j=k
  ·subst hj;rw[qL,zW]
   rcases key e he with h1|h1
   ·exact .inl (by rw[h1])
   ·cases e with
    |dead=>exact h1.elim
    |box cs=>obtain⟨⟨cs',h2⟩,h3⟩:=h1;exact .inr ⟨⟨cs',by rw[h2]⟩,h3⟩
    |arr sz xs st=>obtain⟨⟨xs',st',h2,h2'⟩,h3⟩:=h1;exact .inr ⟨⟨xs',st',by rw[h2],h2'⟩,h3⟩
  ·rw[bX _ _ hj,qK _ _ hj];exact qV h β j e he
 have E:HC w (xH X β) h β w' (xH X (cJ β k l)) (over [(k,e')] h) (cJ β k l):=by
  refine⟨size,λb hb hd=>?_,bs',key'⟩;have h1:∀k n,(b,n)∉β k:=λk n hm=>hd (.inr ⟨k,n,hm⟩)
  refine⟨keep' b hb h1,?_⟩;rintro(hx|⟨j,n,hm⟩)
  ·exact hd (.inl hx)
  ·rcases own' j b n hm with⟨k',n',h2⟩|h2
   ·exact h1 _ _ h2
   ·omega
 refine⟨size,keep',own',bs',key',⟨λj e he=>?_,λj he=>?_,λj j' b n n' h1 h2=>?_,λj b n hm hx=>?_,λb hd=>?_⟩,os,tape,output⟩
 ·by_cases hj:j=k
  ·subst hj;rw[qL]at he;cases he;exact ent E
  ·rw[bX _ _ hj]at he;exact(H.ent j e he).evo E (qK _ _ hj) λb n hm=>keep b (H.lt b (.inr ⟨j,n,hm⟩)) λn' h1=>apart j b n n' hj hm h1
 ·by_cases hj:j=k
  ·subst hj;rw[qL]at he;cases he
  ·rw[bX _ _ hj]at he;rw[qK _ _ hj];exact H.off j he
 ·by_cases hj:j=k<;>by_cases hj':j'=k
  ·rw[hj,hj']
  ·subst hj;rw[zW]at h1;rw[qK _ _ hj']at h2
   rcases own b n h1 with⟨m,h3⟩|⟨h3,_⟩
   ·exact absurd h3 (apart j' b n' m hj' h2)
   ·have:=H.lt b (.inr ⟨_,_,h2⟩);omega
  ·subst hj';rw[zW]at h2;rw[qK _ _ hj]at h1
   rcases own b n' h2 with⟨m,h3⟩|⟨h3,_⟩
   ·exact absurd h3 (apart j b n m hj h1)
   ·have:=H.lt b (.inr ⟨_,_,h1⟩);omega
  ·rw[qK _ _ hj]at h1;rw[qK _ _ hj']at h2;exact H.disj _ _ _ _ _ h1 h2
 ·by_cases hj:j=k
  ·subst hj;rw[zW]at hm
   rcases own b n hm with⟨m,h3⟩|⟨h3,_⟩
   ·exact H.free _ _ _ h3 hx
   ·have:=H.lt b (.inl hx);omega
  ·rw[qK _ _ hj]at hm;exact H.free _ _ _ hm hx
 ·rcases hd with hx|⟨j,n,hm⟩
  ·exact zY7 (H.lt b (.inl hx)) size
  ·by_cases hj:j=k
   ·subst hj;rw[zW]at hm
    rcases own b n hm with⟨m,h3⟩|⟨_,h3⟩
    ·exact zY7 (H.lt b (.inr ⟨_,_,h3⟩)) size
    ·exact h3
   ·rw[qK _ _ hj]at hm;exact zY7 (H.lt b (.inr ⟨_,_,hm⟩)) size
theorem xM.new {X:Nat->Prop} {h:yJ} {β:uE} {w:World} (H:kQ X h β w) {k:Nat} (hk:h k=none) (e':xN) (n:Nat) (c:Array Value) (el:Nat)
  (ent:HC w (xH X β) h β (w.alloc (.cells c el)) (xH X (cJ β k [(w.heap.size,n)])) (over [(k,e')] h) (cJ β k [(w.heap.size,n)])->
   UF (w.alloc (.cells c el)) (xH X (cJ β k [(w.heap.size,n)])) (over [(k,e')] h) (cJ β k [(w.heap.size,n)]) k e'):
  xM X w h β (w.alloc (.cells c el)) (over [(k,e')] h) (cJ β k [(w.heap.size,n)]):=by
 refine xM.step H k e' _ zS (λb hb _=>heap_alloc_old w _ b hb) rfl rfl rfl (λb n hm=>?_) (λb n hm=>?_) (λe he=>?_) ent
 ·simp at hm;refine .inr ?_;simp[hm.1]
 ·rw[H.off k hk]at hm;simp at hm
 ·rw[hk]at he;cases he
theorem xM.newBox {X:Nat->Prop} {h:yJ} {β:uE} {w:World} (H:kQ X h β w) {k:Nat} (hk:h k=none) (c:Array Value) (el:Nat) (cs:List AV) (hl:c.size=cs.length) (h1:∀i,i<c.size->(c.getD i undef).oneCell'=true)
  (hv:∀(i:Nat) v,cs[i]? =some v->zV w (xH X β) h β v (c.getD i undef)):
  ∃β',xM X w h β (w.alloc (.cells c el)) (over [(k,.box cs)] h) β'/\zV (w.alloc (.cells c el)) (xH X β') (over [(k,.box cs)] h) β' (.ptr k 0 0) (.pointer (some ⟨w.heap.size,0,none⟩)):=
 ⟨_,xM.new H hk (.box cs) 0 c el λE=>⟨_,c,el,zW _ _ _,heap_alloc_new w _,hl,h1,λi v hx=>(hv i v hx).evo E⟩,
  .pbox k 0 cs w.heap.size 0 (qL _ _ _) (by rw[zW];simp)⟩
def uY (c:Array Value):Prop:=∀v,v∈c.toList->v.oneCell'=true
theorem uY.get {c:Array Value} (h:uY c):∀i,i<c.size->(c.getD i undef).oneCell'=true:=λi hi=>by
 have e:c.getD i undef=c[i]:=by simp[Array.getD,hi]
 rw[e];exact h _ zS
theorem uY.of {c:Array Value} (h:∀i,i<c.size->(c.getD i undef).oneCell'=true):uY c:=λv hv=>by
 obtain⟨i,hi,rfl⟩:=yAa hv;have hi':i<c.size:=by simpa using hi
 have:=h i hi';simpa [Array.getD,hi']using this
theorem uY.app {a b:Array Value} (ha:uY a) (hb:uY b):uY (a++b):=λv hv=>by
 rw[Array.toList_append,zYl]at hv;exact hv.elim (ha v) (hb v)
theorem uY.arr {l:List Value} (h:∀v∈l,v.oneCell'=true):uY l.toArray:=λv hv=>h v CG
theorem CN {z:Array Value} {i:Nat} (h:i<z.size):z[i]! ∈z.toList:=by
 rw[getElem!_pos z i h];simp
theorem uY.zero {z:Array Value} (h:∀v,v∈z.toList->v.oneCell'=true) (n:Nat):uY (Builtin.zeroCells z n):=λv hv=>by
 simp only[Builtin.zeroCells,yCx,Array.toList_range,zZj,zYr]at hv;obtain⟨i,hi,rfl⟩:=hv
 have hz:0<z.size:=by
  rcases Nat.eq_zero_or_pos z.size with h0|h0
  ·rw[h0,Nat.mul_zero]at hi;omega
  ·exact h0
 exact h _ (CN (yDv _ hz))
theorem CO {c:Array Value} {n sz:Nat} {f:Nat->Nat->Value} (hs:c.size=n*sz) (hp:1<=sz) (hf:∀i j,i<n->j<sz->c[i*sz+j]? =some (f i j)) (h1:∀i j,i<n->j<sz->(f i j).oneCell'=true):∀i,i<c.size->(c.getD i undef).oneCell'=true:=λi hi=>by
 have hm:i % sz<sz:=yDv _ (by omega);have hd:i/sz<n:=by rw[Nat.div_lt_iff_lt_mul (by omega)];omega
 have e:i/sz*sz+i % sz=i:=by rw[yCf];exact Nat.div_add_mod i sz
 have h2:=hf (i/sz) (i % sz) hd hm;rw[e]at h2;have e2:c.getD i undef=f (i/sz) (i % sz):=by simp[zYy,h2]
 rw[e2];exact h1 _ _ hd hm
theorem uY.made {z:Array Value} (h:∀v,v∈z.toList->v.oneCell'=true) (hz:0<z.size) (n:Nat):uY (madeCells z n):=λv hv=>by
 simp only[madeCells,yCx,Array.toList_range,zZj,zYr]at hv;obtain⟨i,hi,rfl⟩:=hv;exact h _ (CN (yDv _ hz))
theorem xM.newArr {X:Nat->Prop} {h:yJ} {β:uE} {w:World} (H:kQ X h β w) {k:Nat} (hk:h k=none) (c:Array Value) (el sz:Nat) (xs:List AV) (cap:Nat) (f:Nat->Nat->Value) (hp:1<=sz) (hm:xs.length<=cI)
  (hcap:xs.length<=cap) (hc:cap*sz=c.size) (hall:∀i,i<c.size->(c.getD i undef).oneCell'=true) (hw:∀(i:Nat) (x:AV),xs[i]? =some x->x.cells.length=sz) (hf:∀i j,i<xs.length->j<sz->c[i*sz+j]? =some (f i j)) (h1:∀i j,i<xs.length->j<sz->(f i j).oneCell'=true)
  (hv:∀(i:Nat) (x:AV) (j:Nat) v,xs[i]? =some x->x.cells[j]? =some v->xG w (xH X β) v (f i j)):
  ∃β',xM X w h β (w.alloc (.cells c el)) (over [(k,.arr sz xs false)] h) β'/\zV (w.alloc (.cells c el)) (xH X β') (over [(k,.arr sz xs false)] h) β' (.ref k 0 xs.length) (.slice (some ⟨w.heap.size,0,none⟩) xs.length cap):=by
 refine⟨_,xM.new H hk (.arr sz xs false) xs.length c el λE=>⟨hp,hm,λ_=>by rw[zW];simp,hw,λb n r hr=>?_,f,.ofF λi x j v hx hy=>(hv i x j v hx hy).evo E.size E.fz,h1,λb n hb=>?_⟩,?_⟩
 ·rw[zW]at hr;simp at hr;exact⟨hr.1.2.symm,λ_ b' n' hm=>by rw[hr.2]at hm;simp at hm,λb' n' hm=>by rw[hr.2]at hm;simp at hm⟩
 ·rw[zW]at hb;simp at hb;obtain⟨rfl,rfl⟩:=hb;exact⟨c,el,heap_alloc_new w _,zY8 (zYm _ hcap) (zZ1 hc),hf,hall⟩
 ·have:=zV.ref (w:=w.alloc (.cells c el)) (D:=xH X (cJ β k [(w.heap.size,xs.length)])) (h:=over [(k,.arr sz xs false)] h) (β:=cJ β k [(w.heap.size,xs.length)]) k 0 xs.length sz xs false w.heap.size xs.length cap (qL _ _ _)
   (by rw[zW];simp) (by omega) hcap (by
    have:xZ (w.alloc (.cells c el)) w.heap.size=c.size:=by
     unfold xZ World.shape?;rw[heap_alloc_new];rfl
    rw[this];simpa using hc)
  simpa using this
theorem xM.newArrN {X:Nat->Prop} {h:yJ} {β:uE} {w:World} (H:kQ X h β w) {k:Nat} (hk:h k=none) (c:Array Value) (el sz:Nat) (xs:List AV) (cap:Nat) (f:Nat->Nat->Value) (hp:1<=sz) (hm:xs.length<=cI)
  (hcap:xs.length<=cap) (hc:cap*sz=c.size) (hall:∀i,i<c.size->(c.getD i undef).oneCell'=true) (hw:∀(i:Nat) (x:AV),xs[i]? =some x->x.cells.length=sz) (hf:∀i j,i<xs.length->j<sz->c[i*sz+j]? =some (f i j)) (h1:∀i j,i<xs.length->j<sz->(f i j).oneCell'=true)
  (hv:∀(i:Nat) (x:AV) (j:Nat) v,xs[i]? =some x->x.cells[j]? =some v->zV w (xH X β) h β v (f i j)):
  ∃β',xM X w h β (w.alloc (.cells c el)) (over [(k,.arr sz xs ⟨false,true⟩)] h) β'/\zV (w.alloc (.cells c el)) (xH X β') (over [(k,.arr sz xs ⟨false,true⟩)] h) β' (.ref k 0 xs.length) (.slice (some ⟨w.heap.size,0,none⟩) xs.length cap):=by
 refine⟨_,xM.new H hk (.arr sz xs ⟨false,true⟩) xs.length c el λE=>⟨hp,hm,λ_=>by rw[zW];simp,hw,λb n r hr=>?_,f,λi x j v hx hy=>⟨(hv i x j v hx hy).evo E,λh=>by cases h⟩,h1,λb n hb=>?_⟩,?_⟩
 ·rw[zW]at hr;simp at hr;exact⟨hr.1.2.symm,λ_ b' n' hm=>by rw[hr.2]at hm;simp at hm,λb' n' hm=>by rw[hr.2]at hm;simp at hm⟩
 ·rw[zW]at hb;simp at hb;obtain⟨rfl,rfl⟩:=hb;exact⟨c,el,heap_alloc_new w _,zY8 (zYm _ hcap) (zZ1 hc),hf,hall⟩
 ·have:=zV.ref (w:=w.alloc (.cells c el)) (D:=xH X (cJ β k [(w.heap.size,xs.length)])) (h:=over [(k,.arr sz xs ⟨false,true⟩)] h) (β:=cJ β k [(w.heap.size,xs.length)]) k 0 xs.length sz xs ⟨false,true⟩ w.heap.size xs.length cap (qL _ _ _)
   (by rw[zW];simp) (by omega) hcap (by
    have:xZ (w.alloc (.cells c el)) w.heap.size=c.size:=by
     unfold xZ World.shape?;rw[heap_alloc_new];rfl
    rw[this];simpa using hc)
  simpa using this
theorem xM.newFz {X:Nat->Prop} {h:yJ} {β:uE} {w:World} (H:kQ X h β w) (c:Array Value) (el:Nat):xM X w h β (w.alloc (.cells c el)) h β:=by
 have hold:∀b,b<w.heap.size->(w.alloc (.cells c el)).heap[b]? =w.heap[b]? :=λb hb=>heap_alloc_old w _ b hb
 have hbs:∀k b n,(b,n)∈β k->xZ (w.alloc (.cells c el)) b=xZ w b:=λk b n hm=>by
  unfold xZ World.shape?;rw[hold b (H.lt b (.inr ⟨k,n,hm⟩))]
 have E:HC w (xH X β) h β (w.alloc (.cells c el)) (xH X β) h β:=⟨by simp,λb hb hd=>⟨hold b hb,hd⟩,hbs,qV h β⟩;refine⟨by simp,λb hb _=>hold b hb,λk _ n hm=> .inl ⟨k,n,hm⟩,hbs,qV h β,⟨λk e he=>(H.ent k e he).evo E rfl λb n hm=>hold b (H.lt b (.inr ⟨k,n,hm⟩)),H.off,H.disj,H.free,λb hd=>?_⟩,rfl,rfl,rfl⟩;exact zY7 (H.lt b hd) zS
theorem xG.newArr {X:Nat->Prop} {h:yJ} {β:uE} {w:World} (H:kQ X h β w) (c:Array Value) (el sz:Nat) (xs:List AV) (cap:Nat) (f:Nat->Nat->Value) (hp:1<=sz) (hm:xs.length<=cI)
  (hcap:xs.length<=cap) (hw:∀(i:Nat) (x:AV),xs[i]? =some x->x.cells.length=sz) (hf:∀i j,i<xs.length->j<sz->c[i*sz+j]? =some (f i j)) (h1:∀i j,i<xs.length->j<sz->(f i j).oneCell'=true)
  (hv:∀(i:Nat) (x:AV) (j:Nat) v,xs[i]? =some x->x.cells[j]? =some v->xG w (xH X β) v (f i j)):
  xG (w.alloc (.cells c el)) (xH X β) (.sl true xs) (.slice (some ⟨w.heap.size,0,none⟩) xs.length cap):=by
 have E:=(xM.newFz H c el).evo;by_cases hx:xs=[]
 ·subst hx;exact .nil1 _ _
 ·refine .sl true xs w.heap.size 0 sz cap f hx ⟨by simp,λhd=>?_,hp,hm,hw,λi j hi hj=>?_,h1⟩ hcap λi x j v hx hy=>(hv i x j v hx hy).evo E.size E.fz
  ·have:=H.lt _ hd;omega
  ·rw[zY6];simp only[World.cell?,heap_alloc_new];exact hf i j hi hj
theorem xG.wkF {w:World} {D:Nat->Prop} {nn:Bool} {xs:List AV} {c:Value} (h:xG w D (.sl nn xs) c):xG w D (.sl false xs) c:=by
 cases h with
 |nil a cap=>exact .nil a cap
 |nil1 a cap=>exact .nil _ cap
 |sl nn xs b o sz cap f hx hL hc hh=>exact .sl false xs b o sz cap f hx hL hc hh
end Av
end Go.Proofs.YtmamjhmoegjapaaGreat
