/- Part 1. -/
import Derived.Below
import Derived.Orders
import Derived.LoopN
import Derived.Laws.Sem
import Derived.KernelRfl
import Derived.Laws.AppendOwn
import Derived.Laws.CopyRow
import Derived.IntWalk
import Derived.Laws.MakeOwn
import Derived.Laws.Append
import Derived.Great.FillDense
import Derived.Laws.Tables
namespace Go.Proofs.YtaglbcjljlkjcaaGreat.Av
open List renaming length->ln,replicate->pb,range->pi,getD->py
open Inhabited renaming default->dd
variable {a:Act}{ps:Array (Nat×Operand)}{z:Array Value}{op:BinOp}{ne nest nn:Bool}{m:Int}{fs:List (Nat×Nat)}{T b e el ft i j k l len n o off r sz tx ty:Nat}{f:Nat->Nat->Value}{D D' X:Nat->Prop}{ix s x y:Operand}{hi lo:Option Operand}{P:Program}{p:Prop}{α:Type}{u:TypeDesc}{c:Value}{w w':World}
theorem Z{α:Sort _}{a:α}:a=a:=rfl
set_option linter.all false
def Os:=@if_neg
def zA5:=@if_pos
def zA6:=@List.length_map
def zA7:=@decide_eq_false
def zA8:=@List.take_length
def zA9:=@decide_eq_true
def zBa:=@List.length_append
def zBb:=@Nat.le_refl
def zBc:=@decide_eq_true_eq
def zBd:=@List.map_append
def zBe:=@List.getElem?_map
def zBf:=@List.take_of_length_le
def zBg:=@Bool.and_eq_true
def zBh:=@Bool.true_and
def zBi:=@decide_eq_false_iff_not
def zBj:=@List.getD_eq_getElem?_getD
def zBk:=@List.all_eq_true
def zBl:=@List.length_cons
def zBm:=@Bool.false_ne_true
def zBn:=@Nat.zero_le
def zBo:=@Nat.le_of_ble_eq_true
def zBp:=@Option.map_eq_some_iff
def zBq:=@congrArg
def zBr:=@List.drop_zero
def zBs:=@List.mem_append
def zBt:=@Nat.mul_le_mul_right
def zBu:=@List.mem_range
def zBv:=@List.length_take
def zBw:=@List.getElem?_eq_some_iff
def zBx:=@Int.toNat_natCast
def zBy:=@List.append_assoc
def zBz:=@Nat.eq_of_beq_eq_true
def zB0:=@List.append_nil
def zB1:=@List.mem_singleton
def zB2:=@List.getElem?_eq_getElem
def zB3:=@beq_eq_false_iff_ne
def zB4:=@Array.getD_eq_getD_getElem?
def zB5:=@List.eq_nil_of_length_eq_zero
def zB6:=@List.length_drop
def zB7:=@List.getElem?_set_self
def zB8:=@Bool.false_and
def zB9:=@List.getElem?_append_left
def zCa:=@Nat.le_trans
def zCb:=@Nat.lt_of_lt_of_le
def zCc:=@List.mem_of_mem_drop
def zCd:=@List.length_nil
def zCe:=@List.getElem?_append_right
def zCf:=@List.ext_getElem?
def zCg:=@Int.tmod_eq_emod_of_nonneg
def zCh:=@List.getElem?_eq_none
def zCi:=@Nat.add_mul
def zCj:=@bne_eq_false_iff_eq
def zCk:=@List.length_set
def zCl:=@List.mem_map
def zCm:=@cond_true
def zCn:=@Nat.zero_add
def zCo:=@List.map_cons
def zCp:=@beq_iff_eq
def zCq:=@List.mem_of_getElem?
def zCr:=@List.length_range
def zCs:=@List.map_set
def zCt:=@List.mem_cons
def zCu:=@Option.some.injEq
def zCv:=@List.getElem?_take
def zCw:=@List.length_filter_le
def zCx:=@List.any_eq_true
def zCy:=@List.map_nil
def zCz:=@Int.eq_ofNat_of_zero_le
def zC0:=@Option.map_some
def zC1:=@List.getElem?_range
def zC2:=@List.mem_of_mem_take
def zC3:=@Nat.not_lt_zero
def zC4:=@List.length_replicate
def zC5:=@List.range_succ
def zC6:=@Bool.and_false
def zC7:=@cond_false
def zC8:=@Array.getElem?_append_left
def zC9:=@Int.tdiv_eq_ediv_of_nonneg
def zDa:=@bne_iff_ne
def zDb:=@List.length_singleton
def zDc:=@Nat.le_of_eq
def zDd:=@Int.fdiv_eq_ediv_of_nonneg
def zDe:=@List.getElem?_drop
def zDf:=@List.take_append_of_le_length
def zDg:=@Int.le_refl
def zDh:=@Nat.one_mul
def zDi:=@Bool.or_eq_true
def zDj:=@Array.getElem?_eq_some_iff
def zDk:=@Bool.false_or
def zDl:=@Prod.mk.injEq
def zDm:=@List.mem_or_eq_of_mem_set
def zDn:=@List.getElem_of_mem
def zDo:=@Bool.not_eq_true'
def zDp:=@List.any_eq_false
def zDq:=@List.getElem?_replicate
def zDr:=@Option.getD_some
def zDs:=@Classical.byContradiction
def zDt:=@Bool.true_or
def zDu:=@List.contains_iff_mem
def zDv:=@List.getElem?_toArray
def zDw:=@Nat.add_zero
def zDx:=@Nat.mul_le_mul
def zDy:=@Int.emod_lt_of_pos
def zDz:=@List.take_succ_eq_append_getElem
def zD0:=@Nat.mod_eq_of_lt
def zD1:=@Bool.and_true
def zD2:=@List.map_drop
def zD3:=@Nat.lt_irrefl
def zD4:=@List.flatten_cons
def zD5:=@List.getElem?_set
def zD6:=@List.size_toArray
def zD7:=@List.take_add_one
def zD8:=@Array.length_toList
def zD9:=@Option.map_none
def zEa:=@ne_eq
def zEb:=@BitVec.toNat_ofNat
def zEc:=@BitVec.ofInt_natCast
def zEd:=@List.all_eq_false
def zEe:=@Int.emod_nonneg
def zEf:=@List.nil_append
def zEg:=@Option.some.inj
def zEh:=@List.drop_eq_nil_of_le
def zEi:=@List.zipWith_cons_cons
def zEj:=@Nat.sub_self
def zEk:=@List.map_take
def zEl:=@List.cons_append
def zEm:=@List.take_zero
def zEn:=@Nat.ble_eq_true_of_le
def zEo:=@List.getElem?_of_mem
def zEp:=@Nat.zero_mul
def zEq:=@Nat.shiftLeft_add_eq_or_of_lt
def zEr:=@List.flatten_append
def zEs:=@Bool.not_eq_true
def zEt:=@Bool.or_true
def zEu:=@List.map_replicate
def zEv:=@List.mem_filter
def zEw:=@List.take_append_drop
def zEx:=@Decidable.not_not
def zEy:=@of_decide_eq_true
def zEz:=@Nat.pow_le_pow_right
def zE0:=@List.getElem_mem
def zE1:=@Int.toNat_of_nonneg
def zE2:=@List.mem_replicate
def zE3:=@Bool.eq_false_iff
def zE4:=@Bool.not_false
def zE5:=@List.set_append_right
def zE6:=@List.singleton_append
def zE7:=@Nat.mul_comm
def zE8:=@if_true
def zE9:=@Array.getElem?_append_right
def zFa:=@List.drop_length
def zFb:=@List.getElem?_zipIdx
def zFc:=@List.mem_flatten
def zFd:=@List.pairwise_append
def zFe:=@List.replicate_succ'
def zFf:=@Nat.le_of_mul_le_mul_right
def zFg:=@Array.getElem?_eq_getElem
def zFh:=@List.drop_eq_getElem_cons
def zFi:=@List.eq_of_mem_replicate
def zFj:=@List.set_set
def zFk:=@Nat.le_of_lt
def zFl:=@of_decide_eq_false
def zFm:=@Array.size_append
def zFn:=@Nat.lt_trichotomy
def zFo:=@not_false_eq_true
def zFp:=@not_true_eq_false
def zFq:=@List.all_cons
def zFr:=@Array.toList_map
def zFs:=@and_false
def zFt:=@Array.getElem?_range
def zFu:=@Bool.eq_iff_iff
def zFv:=@Int.natCast_mul
def zFw:=@Int.not_le
def zFx:=@Int.not_lt
def zFy:=@List.getElem?_set_ne
def zFz:=@Nat.mul_add_mod
def zF0:=@Nat.sub_zero
def zF1:=@decide_false
def zF2:=@List.map_congr_left
def zF3:=@List.replicate_succ
def zF4:=@List.nodup_nil
def zF5:=@if_false
def zF6:=@Int.one_mul
def zF7:=@Nat.sub_mul
def zF8:=@decide_true
def zF9:=@Array.getElem?_map
def zGa:=@Bool.false_eq_true
def zGb:=@Int.tmod_lt_of_pos
def zGc:=@List.filter_append
def zGd:=@List.pairwise_cons
def zGe:=@List.set_cons_zero
def zGf:=@Bool.not_true
def zGg:=@Bool.or_false
def zGh:=@Nat.add_assoc
def zGi:=@Nat.or_lt_two_pow
def zGj:=@List.mem_of_find?_eq_some
def zGk:=@dif_pos
def zGl:=@Int.natCast_succ
def zGm:=@Int.pow_succ
def zGn:=@List.mem_toArray
def zGo:=@Nat.lt_or_ge
def zGp:=@Nat.shiftLeft_eq
def zGq:=@BitVec.toNat_or
def zGr:=@Int.tmod_nonneg
def zGs:=@List.mapM_cons
def zGt:=@List.set_getElem_self
def zGu:=@Nat.mod_lt
def zGv:=@and_true
def zGw:=@List.any_cons
def zGx:=@Int.min_self
def zGy:=@List.map_map
def zV (h:p:=by simp):p:=h
def xA (h:p:=by decide):p:=h
def uO (h:p:=by simp[Op.operands]):p:=h
def qD (h:p:=by(simp;omega)):p:=h
def kS (h:p:=by simp[Op.operands,Call.operands]):p:=h
def gY (h:p:=by kernel_rfl):p:=h
def QZ (h:p:=by simp[List.getD,hi']):p:=h
def MJ (h:p:=by simpa using h):p:=h
def MK (h:p:=by(dsimp only;omega)):p:=h
def KG (h:p:=by simp[hi]):p:=h
def WA (h:p:=by(first|rfl|assumption)):p:=h
def WB (h:p:=by(have:=H.vl;omega)):p:=h
def QG (h:p:=by(rw[hd];simp)):p:=h
def ML (h:p:=by simpa using hi):p:=h
def MM (h:p:=by(rw[hh j hj];exact hk')):p:=h
def MN (h:p:=by(rw[<-e3];exact hv)):p:=h
def IA (h:p:=by(rw[hd];decide)):p:=h
def IB (h:p:=by simpa using hb):p:=h
def IC (h:p:=by(rw[zBv];omega)):p:=h
def ID (h:p:=by simpa using h1):p:=h
def IE (h:p:=by simpa using h2):p:=h
def IF (h:p:=by(rw[hk];rfl)):p:=h
def IG (h:p:=by(rw[hk];exact q1)):p:=h
def BS (h:p:=by(have:=J.n;omega)):p:=h
def BT (h:p:=by(rw[zB6];omega)):p:=h
def BU (h:p:=by simpa using hl):p:=h
def BV (h:p:=by simpa using hv):p:=h
def BW (h:p:=by(rw[hh];decide)):p:=h
def BX (h:p:=by(rw[hL];simp)):p:=h
def Qf (h:p:=by(rw[hβ j hj];exact hb)):p:=h
def Pf (h:p:=by simpa using this):p:=h
def Of (h:p:=by(rw[hbk,e];simp)):p:=h
def Nf (h:p:=by(rw[hl]at hi;omega)):p:=h
def Mf (h:p:=by(simp[List.getD];rw[zB2 zB];simp)):p:=h
def vn (h:p:=by(rcases hxv with h|h;exact .inl h;exact .inr h.1)):p:=h
def qn (h:p:=by(rw[hh j hk];exact hk')):p:=h
def bn (h:p:=by rw[zBr,zA8]):p:=h
def iy (h:p:=by rw[hN,zBr,<-hz3l,zA8]):p:=h
def Zy (h:p:=by(rw[zBj,zB2 hr1];exact zE0 _)):p:=h
def Yy (h:p:=by(rcases hk with hk|hk|hk|hk<;>rw[hk]<;>rfl)):p:=h
def Xy (h:p:=by(rw[zBv,zB6];omega)):p:=h
def Wy (h:p:=by(rw[zBa,zDb];omega)):p:=h
inductive AV where
 |bot
 |gh (n:Nat)
 |s (v:Value)
 |agg (cs:List AV)
 |sl (nn:Bool) (xs:List AV)
 |slc (cap:Nat) (xs:List AV)
 |ref (k off len:Nat)
 |ptr (k i off:Nat)
 |fp (xs:List AV) (i off:Nat)
 |fn (f:Nat) (caps:List AV)
 |tup (vs:List AV)
 |fm (ob:Option Nat) (p:Obj->Prop)
 deriving Inhabited
def AV.cells:AV->List AV
 | .agg cs=>cs
 |v=>[v]
def AV.isAgg:AV->Bool
 | .agg _=>true
 |_=>false
def cF:Nat:=9223372036854775807
structure B2 (w:World) (D:Nat->Prop) (xs:List AV) (b o sz:Nat) (f:Nat->Nat->Value):Prop where
 lt:b<w.heap.size
 nd:¬D b
 pos:1<=sz
 max:xs.length<=cF
 wide:∀(i:Nat) (x:AV),xs[i]? =some x->x.cells.length=sz
 cell:∀i j,i<xs.length->j<sz->w.cell? ⟨b,o+i*sz+j,none⟩=some (f i j)
 one:∀i j,i<xs.length->j<sz->(f i j).oneCell'=true
inductive xM (w:World) (D:Nat->Prop):AV->Value->Prop
 |bot (c:Value):xM w D .bot c
 |gh (n:Nat) (c:Value):xM w D (.gh n) c
 |s (v:Value):xM w D (.s v) v
 |agg (cs:List AV) (c:Array Value) (hl:c.size=cs.length) (h1:∀i,i<c.size->(c.getD i undef).oneCell'=true) (h:∀(i:Nat) v,cs[i]? =some v->xM w D v (c.getD i undef)):xM w D (.agg cs) (.agg c)
 |nil (a:Option Addr) (cap:Nat):xM w D (.sl false []) (.slice a 0 cap)
 |nil1 (a:Addr) (cap:Nat):xM w D (.sl true []) (.slice (some a) 0 cap)
 |sl (nn:Bool) (xs:List AV) (b o sz cap:Nat) (f:Nat->Nat->Value) (hx:xs≠[]) (hL:B2 w D xs b o sz f) (hc:xs.length<=cap)
  (h:∀(i:Nat) (x:AV) (j:Nat) v,xs[i]? =some x->x.cells[j]? =some v->xM w D v (f i j)):xM w D (.sl nn xs) (.slice (some ⟨b,o,none⟩) xs.length cap)
 |slc (cap:Nat) (xs:List AV) (b o sz:Nat) (f:Nat->Nat->Value) (hL:B2 w D xs b o sz f) (hc:xs.length<=cap)
  (h:∀(i:Nat) (x:AV) (j:Nat) v,xs[i]? =some x->x.cells[j]? =some v->xM w D v (f i j)):xM w D (.slc cap xs) (.slice (some ⟨b,o,none⟩) xs.length cap)
 |fp (xs:List AV) (b o sz i off:Nat) (f:Nat->Nat->Value) (hL:B2 w D xs b o sz f) (hi:i<xs.length) (ho:off<sz)
  (h:∀(i:Nat) (x:AV) (j:Nat) v,xs[i]? =some x->x.cells[j]? =some v->xM w D v (f i j)):xM w D (.fp xs i off) (.pointer (some ⟨b,o+i*sz+off,none⟩))
 |fm (ob:Option Nat) (p:Obj->Prop) (b:Nat) (x:Obj) (ho:∀n,ob=some n->n=b) (hl:b<w.heap.size) (hd:¬D b) (hx:w.heap[b]? =some x) (hp:p x):xM w D (.fm ob p) (.map (some b))
structure Fl where
 stale:Bool
 nest:Bool
variable {sl:Fl}
instance:Coe Bool Fl:=⟨λb=>⟨b,false⟩⟩
inductive xV where
 |box (cs:List AV)
 |arr (sz:Nat) (xs:List AV) (fl:Fl)
 |dead
 |obj (o:Nat×(Obj->Prop))
abbrev yT:=Nat->Option xV
variable {h h':yT}
abbrev uP:=Nat->List (Nat×Nat)
variable {β β':uP}
def wO (w:World) (b:Nat):Nat:=((w.shape? b).map (·.2)).getD 0
inductive yK (w:World) (D:Nat->Prop) (h:yT) (β:uP):AV->Value->Prop
 |fz (v:AV) (c:Value) (hf:xM w D v c):yK w D h β v c
 |agg (cs:List AV) (c:Array Value) (hl:c.size=cs.length) (h1:∀i,i<c.size->(c.getD i undef).oneCell'=true) (hh:∀(i:Nat) v,cs[i]? =some v->yK w D h β v (c.getD i undef)):yK w D h β (.agg cs) (.agg c)
 |fn (f:Nat) (caps:List AV) (c:Array Value) (hl:c.size=caps.length) (hh:∀(i:Nat) v,caps[i]? =some v->yK w D h β v (c.getD i undef)):yK w D h β (.fn f caps) (.func (.func f) #[] c)
 |tup (vs:List AV) (c:Array Value) (hl:c.size=vs.length) (hh:∀(i:Nat) v,vs[i]? =some v->yK w D h β v (c.getD i undef)):yK w D h β (.tup vs) (.tuple c)
 |dref (k off len:Nat) (c:Value) (hk:h k=some .dead) (h1:c.oneCell'=true):yK w D h β (.ref k off len) c
 |dptr (k i off:Nat) (c:Value) (hk:h k=some .dead) (h1:c.oneCell'=true):yK w D h β (.ptr k i off) c
 |ref (k off len sz:Nat) (xs:List AV) (st:Fl) (b n cap:Nat) (hk:h k=some (.arr sz xs st)) (hb:(b,n)∈β k) (hn:off+len<=n) (hc:len<=cap) (hs:(off+cap)*sz=wO w b):
  yK w D h β (.ref k off len) (.slice (some ⟨b,off*sz,none⟩) len cap)
 |ref0 (k off sz:Nat) (xs:List AV) (st:Fl) (a:Option Addr) (hk:h k=some (.arr sz xs st)) (hn:off<=xs.length):yK w D h β (.ref k off 0) (.slice a 0 0)
 |pbox (k off:Nat) (cs:List AV) (b n:Nat) (hk:h k=some (.box cs)) (hb:(b,n)∈β k):yK w D h β (.ptr k 0 off) (.pointer (some ⟨b,off,none⟩))
 |parr (k i off sz:Nat) (xs:List AV) (st:Fl) (b n:Nat) (hk:h k=some (.arr sz xs st)) (hb:(b,n)∈β k) (hi:i<n) (ho:off<sz):
  yK w D h β (.ptr k i off) (.pointer (some ⟨b,i*sz+off,none⟩))
def xT (X:Nat->Prop) (β:uP) (b:Nat):Prop:=X b\/∃k n,(b,n)∈β k
def gH (w:World) (D:Nat->Prop) (h:yT) (β:uP) (nest:Bool) (xs:List AV) (f:Nat->Nat->Value):Prop:=
 ∀(i:Nat) (x:AV) (j:Nat) v,xs[i]? =some x->x.cells[j]? =some v->yK w D h β v (f i j)/\(nest=false->xM w D v (f i j))
theorem gH.ofF {xs:List AV} (H:∀(i:Nat) (x:AV) (j:Nat) v,xs[i]? =some x->x.cells[j]? =some v->xM w D v (f i j)):gH w D h β nest xs f:=
 λi x j v A hv=>⟨.fz _ _ (H i x j v A hv),λ_=>H i x j v A hv⟩
theorem gH.toF {xs:List AV} (H:gH w D h β nest xs f) (A:nest=false) (i:Nat) (x:AV) (j:Nat) (v:AV) (B:xs[i]? =some x) (hv:x.cells[j]? =some v):xM w D v (f i j):=
 (H i x j v B hv).2 A
theorem gH.toV {xs:List AV} (H:gH w D h β nest xs f) (i:Nat) (x:AV) (j:Nat) (v:AV) (A:xs[i]? =some x) (hv:x.cells[j]? =some v):yK w D h β v (f i j):=
 (H i x j v A hv).1
def WC (w:World) (D:Nat->Prop) (h:yT) (β:uP) (k:Nat):xV->Prop
 | .box cs=>∃b c el,β k=[(b,0)]/\w.heap[b]? =some (.cells c el (0,0))/\c.size=ln cs/\(∀i,i<c.size->(c.getD i undef).oneCell'=true)/\∀(i:Nat) v,cs[i]? =some v->yK w D h β v (c.getD i undef)
 | .obj o=>β k=[(o.1,0)]/\∃x,w.heap[o.1]? =some x/\o.2 x
 | .arr sz xs st=>1<=sz/\xs.length<=cF/\(xs≠[]->β k≠[])/\(∀(i:Nat) (x:AV),xs[i]? =some x->ln x.cells=sz)/\
  (∀b n r,β k=(b,n)::r->n=ln xs/\(st.stale=false->∀B A,(B,A)∈r->A=0)/\∀B A,(B,A)∈r->A<ln xs)/\
  ∃f:Nat->Nat->Value,gH w D h β st.nest xs f/\(∀i j,i<ln xs->j<sz->(f i j).oneCell'=true)/\
   ∀b n,(b,n)∈β k->∃c el,w.heap[b]? =some (.cells c el (0,0))/\n*sz<=c.size/\(∀i j,i<n->j<sz->c[i*sz+j]? =some (f i j))/\∀i,i<c.size->(c.getD i undef).oneCell'=true
 | .dead=>β k=[]
structure jM (X:Nat->Prop) (h:yT) (β:uP) (w:World):Prop where
 ent:∀k e,h k=some e->WC w (xT X β) h β k e
 off:∀k,h k=none->β k=[]
 disj:∀k k' b n n',(b,n)∈β k->(b,n')∈β k'->k=k'
 free:∀k b n,(b,n)∈β k->¬X b
 lt:∀b,xT X β b->b<w.heap.size
structure EZ (w:World) (D:Nat->Prop) (h:yT) (β:uP) (w':World) (D':Nat->Prop) (h':yT) (β':uP):Prop where
 size:w.heap.size<=w'.heap.size
 fz:∀b,b<w.heap.size->¬D b->w'.heap[b]? =w.heap[b]? /\¬D' b
 bs:∀k b n,(b,n)∈β k->wO w' b=wO w b
 key:∀k e,h k=some e->h' k=some .dead\/match e with
  | .dead=>False
  | .box _=>(∃cs',h' k=some (.box cs'))/\∀b n,(b,n)∈β k->(b,n)∈β' k
  | .obj _=>(∃cs',h' k=some (.obj cs'))/\∀b n,(b,n)∈β k->(b,n)∈β' k
  | .arr sz xs _=>(∃xs' st',h' k=some (.arr sz xs' st')/\xs.length<=xs'.length)/\∀b n,(b,n)∈β k->∃n',n<=n'/\(b,n')∈β' k
theorem B2.evo {xs:List AV} {b:Nat} (hL:B2 w D xs b o sz f) (B:w.heap.size<=w'.heap.size)
 (A:∀b,b<w.heap.size->¬D b->w'.heap[b]? =w.heap[b]? /\¬D' b):B2 w' D' xs b o sz f:=
 ⟨zCb hL.lt B,(A b hL.lt hL.nd).2,hL.pos,hL.max,hL.wide,λi j hi hj=>(World.cell?_of_block (a:=⟨b,o+i*sz+j,none⟩) (A b hL.lt hL.nd).1).trans (hL.cell i j hi hj),hL.one⟩
theorem xM.evo (C:w.heap.size<=w'.heap.size) (B:∀b,b<w.heap.size->¬D b->w'.heap[b]? =w.heap[b]? /\¬D' b)
 {v:AV} (h:xM w D v c):xM w' D' v c:=by
 induction h with
 |bot c=>exact .bot c
 |gh n c=>exact .gh n c
 |s v=>exact .s v
 |agg cs c hl h1 _ A=>exact .agg cs c hl h1 A
 |nil a cap=>exact .nil a cap
 |nil1 a cap=>exact .nil1 a cap
 |sl nn xs b o sz cap f G hL hc _ A=>exact .sl nn xs b o sz cap f G (hL.evo C B) hc A
 |slc cap xs b o sz f hL hc _ A=>exact .slc cap xs b o sz f (hL.evo C B) hc A
 |fp xs b o sz i off f hL hi E _ A=>exact .fp xs b o sz i off f (hL.evo C B) hi E A
 |fm L p b x E hl hd G I=>exact .fm L p b x E (zCb hl C) (B b hl hd).2 ((B b hl hd).1.trans G) I
theorem yK.evo (E:EZ w D h β w' D' h' β') {v:AV} (hv:yK w D h β v c):yK w' D' h' β' v c:=by
 induction hv with
 |fz v c M=>exact .fz v c (M.evo E.size E.fz)
 |agg cs c hl h1 _ G=>exact .agg cs c hl h1 G
 |fn f C c hl _ G=>exact .fn f C c hl G
 |tup vs c hl _ G=>exact .tup vs c hl G
 |dref k off len c hk h1=>exact .dref _ _ _ _ ((E.key k _ hk).resolve_right (λf=>f)) h1
 |dptr k i off c hk h1=>exact .dptr _ _ _ _ ((E.key k _ hk).resolve_right (λf=>f)) h1
 |ref k off len sz xs st b n cap hk hb I hc R=>
  rcases E.key k _ hk with hd|⟨⟨xs',st',hk',_⟩,hm⟩
  .exact .dref _ _ _ _ hd Z
  .obtain⟨L,B,A⟩:=hm b n hb;exact .ref k off len sz xs' st' b L cap hk' A (zCa I B) hc (by rw[E.bs k b n hb];exact R)
 |ref0 k off sz xs st a hk I=>
  rcases E.key k _ hk with hd|⟨⟨xs',st',hk',hl⟩,hm⟩
  .exact .dref _ _ _ _ hd Z
  .exact .ref0 k off sz xs' st' a hk' (zCa I hl)
 |pbox k off cs b n hk hb=>
  rcases E.key k _ hk with hd|⟨⟨cs',hk'⟩,hm⟩
  .exact .dptr _ _ _ _ hd Z
  .exact .pbox k off cs' b n hk' (hm b n hb)
 |parr k i off sz xs st b n hk hb hi O=>
  rcases E.key k _ hk with hd|⟨⟨xs',st',hk',hl⟩,hm⟩
  .exact .dptr _ _ _ _ hd Z
  .obtain⟨L,B,A⟩:=hm b n hb;exact .parr k i off sz xs' st' b L hk' A (zCb hi B) O
theorem gH.evo (E:EZ w D h β w' D' h' β') {xs:List AV} (H:gH w D h β nest xs f):gH w' D' h' β' nest xs f:=
 λi x j v A hv=>⟨(H i x j v A hv).1.evo E,λB=>((H i x j v A hv).2 B).evo E.size E.fz⟩
structure xU (X:Nat->Prop) (w:World) (h:yT) (β:uP) (w':World) (h':yT) (β':uP):Prop where
 size:w.heap.size<=w'.heap.size
 keep:∀b,b<w.heap.size->(∀k n,(b,n)∉β k)->w'.heap[b]? =w.heap[b]?
 own:∀k b n,(b,n)∈β' k->(∃k' n',(b,n')∈β k')\/w.heap.size<=b
 bs:∀k b n,(b,n)∈β k->wO w' b=wO w b
 key:∀k e,h k=some e->h' k=some .dead\/match e with
  | .dead=>False
  | .box _=>(∃cs',h' k=some (.box cs'))/\∀b n,(b,n)∈β k->(b,n)∈β' k
  | .obj _=>(∃cs',h' k=some (.obj cs'))/\∀b n,(b,n)∈β k->(b,n)∈β' k
  | .arr sz xs _=>(∃xs' st',h' k=some (.arr sz xs' st')/\xs.length<=xs'.length)/\∀b n,(b,n)∈β k->∃n',n<=n'/\(b,n')∈β' k
 hok:jM X h' β' w'
 os:w'.os=w.os
 tape:w'.tape=w.tape
 output:w'.output=w.output
theorem xU.evo (G:xU X w h β w' h' β'):EZ w (xT X β) h β w' (xT X β') h' β' where
 size:=G.size
 fz b hb hd:=by
  have h1:∀k n,(b,n)∉β k:=λk n A=>hd (.inr ⟨k,n,A⟩)
  refine⟨G.keep b hb h1,?_⟩;rintro(B|⟨k,n,A⟩)
  .exact hd (.inl B)
  .rcases G.own k b n A with⟨C,E,h2⟩|h2
   .exact h1 _ _ h2
   .omega
 bs:=G.bs
 key:=G.key
theorem jB (h:yT) (β:uP):∀k e,h k=some e->h k=some .dead\/match e with
 | .dead=>False
 | .box _=>(∃A,h k=some (.box A))/\∀b n,(b,n)∈β k->(b,n)∈β k
 | .obj _=>(∃A,h k=some (.obj A))/\∀b n,(b,n)∈β k->(b,n)∈β k
 | .arr sz xs _=>(∃B st',h k=some (.arr sz B st')/\xs.length<=ln B)/\∀b n,(b,n)∈β k->∃C,n<=C/\(b,C)∈β k:=by grind
theorem xU.refl (H:jM X h β w):xU X w h β w h β:=
 ⟨zBb _,λ_ _ _=>rfl,λk _ n A=> .inl ⟨k,n,A⟩,λ_ _ _ _=>rfl,jB h β,H,rfl,rfl,rfl⟩
theorem jM.drew {w:World} (H:jM X h β w) (n:Nat):jM X h β {w with drawn:=n}:=by
 have E:∀{v c},yK w (xT X β) h β v c->yK {w with drawn:=n} (xT X β) h β v c:=λhv=>
  yK.evo (w:=w) (w':={w with drawn:=n}) (D':=xT X β) (h':=h) (β':=β) ⟨zBb _,λ_ _ hd=>⟨rfl,hd⟩,λ_ _ _ _=>rfl,jB h β⟩ hv
 have L:∀{v c},xM w (xT X β) v c->xM {w with drawn:=n} (xT X β) v c:=λhv=>xM.evo (w:=w) (w':={w with drawn:=n}) (D':=xT X β) (zBb _) (λ_ _ hd=>⟨rfl,hd⟩) hv
 refine⟨λk e O=>?_,H.off,H.disj,H.free,H.lt⟩;have:=H.ent k e O
 cases e with
 |dead=>exact this
 |box cs=>
  obtain⟨b,c,el,h1,h2,A,B,C⟩:=this;exact⟨b,c,el,h1,h2,A,B,λi v hv=>E (C i v hv)⟩
 |obj cs=>
  exact this
 |arr sz xs st=>
  obtain⟨h1,h2,A,B,C,f,G,M⟩:=this;exact⟨h1,h2,A,B,C,f,λi x j v I hv=>⟨E (G i x j v I hv).1,λR=>L ((G i x j v I hv).2 R)⟩,M⟩
theorem xU.drew {w:World} (H:jM X h β w) (n:Nat):xU X w h β {w with drawn:=n} h β:=
 ⟨zBb _,λ_ _ _=>rfl,λk _ n A=> .inl ⟨k,n,A⟩,λ_ _ _ _=>rfl,jB h β,H.drew n,rfl,rfl,rfl⟩
theorem xU.trans {O:World} {E:yT} {R:uP} (H:jM X h β w) (G:xU X w h β w' h' β') (K:xU X w' h' β' O E R):xU X w h β O E R where
 size:=zCa G.size K.size
 keep b hb hn:=by
  rw[K.keep b (zCb hb G.size),G.keep b hb hn];intro k n A
  rcases G.own k b n A with⟨S,C,h2⟩|h2
  .exact hn _ _ h2
  .omega
 own k b n A:=by
  rcases K.own k b n A with⟨S,C,h2⟩|h2
  .exact G.own S b C h2
  .exact .inr (zCa G.size h2)
 bs k b n A:=by
  have hb:=H.lt b (.inr ⟨k,n,A⟩);by_cases hd:∃k n,(b,n)∈β' k
  .obtain⟨S,C,B⟩:=hd;rw[K.bs S b C B,G.bs k b n A]
  .rw[<-G.bs k b n A];unfold wO World.shape?;rw[K.keep b (zCb hb G.size) λk n A=>hd ⟨k,n,A⟩]
 key k e he:=by
  rcases G.key k e he with h1|h1
  .rcases K.key k _ h1 with h2|h2
   .exact .inl h2
   .exact h2.elim
  .cases e with
   |dead=>exact h1.elim
   |box cs=>
    obtain⟨⟨U,h2⟩,I⟩:=h1
    rcases K.key k _ h2 with h4|⟨h4,h5⟩
    .exact .inl h4
    .exact .inr ⟨h4,λb n A=>h5 b n (I b n A)⟩
   |obj cs=>
    obtain⟨⟨U,h2⟩,I⟩:=h1
    rcases K.key k _ h2 with h4|⟨h4,h5⟩
    .exact .inl h4
    .exact .inr ⟨h4,λb n A=>h5 b n (I b n A)⟩
   |arr sz xs st=>
    obtain⟨⟨Y,st',h2,hl⟩,I⟩:=h1
    rcases K.key k _ h2 with h4|⟨⟨xs'',st'',h4,hl'⟩,h5⟩
    .exact .inl h4
    .refine .inr ⟨⟨xs'',st'',h4,zCa hl hl'⟩,λb n A=>?_⟩;obtain⟨C,V,B⟩:=I b n A;obtain⟨W,M,L⟩:=h5 b C B;exact⟨W,zCa V M,L⟩
 hok:=K.hok
 os:=K.os.trans G.os
 tape:=K.tape.trans G.tape
 output:=K.output.trans G.output
section
inductive TD where
 |str (fs:List (Nat×Nat))
 |slice (e:Nat)
 |arr (n e:Nat)
 |int (k:IntKind)
 |bool
 |string
 |ptr (e:Nat)
 |func
 |other
structure TI where
 d:TD
 size:Nat
 bytes:Nat
 zero:List Value
def TD.agg:TD->Bool
 | .str _| .arr _ _=>true
 |_=>false
def XO:TypeDesc->TD
 | .struct fs=> .str (fs.toList.map λf=>(f.offset,f.type))
 | .slice e=> .slice e
 | .array n e=> .arr n e
 | .int k=> .int k
 | .bool=> .bool
 | .string=> .string
 | .pointer e=> .ptr e
 | .func .. => .func
 |_=> .other
def an (P:Program) (t:Nat):Option TI:=
 match P.info? t,P.underlying t with
 |some i,some u=>i.zero.map λz=>⟨XO u,i.size,i.bytes,z.cells.toList⟩
 |_,_=>none
def uW (P:Program) (TT:List TI):Prop:=∀(t:Nat) ti,TT[t]? =some ti->an P t=some ti
theorem vR {t:Nat} {A:TI} (h:an P t=some A):∃i u z,P.info? t=some i/\P.underlying t=some u/\i.zero=some z/\A.d=XO u/\A.size=i.size/\A.bytes=i.bytes/\A.zero=z.cells.toList:=by
 unfold an at h;split at h
 .rename_i i u hi C
  cases B:i.zero with
  |none=>simp[B]at h
  |some z=>
   grind
 .cases h
section runs
variable {P:Program} {t:Nat} {ti:TI} (h:an P t=some ti) (w:World)
include h
def BZ:∃i z,(typeInfo t).run P w= .ok i w/\i.size=ti.size/\i.bytes=ti.bytes/\i.zero=some z/\z.cells.toList=ti.zero:=by
 obtain⟨i,u,z,hi,_,C,_,B,hb,A⟩:=vR h;exact⟨i,z,by simp[typeInfo,hi],B.symm,hb.symm,C,A.symm⟩
def qN:(sizeOf t).run P w= .ok ti.size w:=by
 obtain⟨i,z,A,B,_⟩:=BZ h w;simp[sizeOf,A,B]
def pn:∃z,(zeroValue t).run P w= .ok z w/\z.cells.toList=ti.zero:=by
 obtain⟨i,z,B,_,_,C,A⟩:=BZ h w;exact⟨z,by simp[zeroValue,B,C],A⟩
def wI:∃u,(underlying t).run P w= .ok u w/\XO u=ti.d:=by
 obtain⟨i,u,z,_,A,_,hd,_⟩:=vR h;exact⟨u,by simp[underlying,A],hd.symm⟩
def FB:(isAgg t).run P w= .ok ti.d.agg w:=by
 obtain⟨u,A,hd⟩:=wI h w;rw[<-hd];simp only[isAgg,Sem.run_bind,A,Result.andThen_ok]
 cases u<;>rfl
end runs
def AA {t:Nat} (w:World) (A:P.underlying t=some u):(underlying t).run P w= .ok u w:=by simp[underlying,A]
def uE (h:XO u= .slice e):u= .slice e:=by cases u<;>simp[XO]at h;rw[h]
def mn (h:XO u= .arr n e):u= .array n e:=by cases u<;>simp[XO]at h;rw[h.1,h.2]
def MO {k:IntKind} (h:XO u= .int k):u= .int k:=by cases u<;>simp[XO]at h;rw[h]
def iu (h:XO u= .bool):u= .bool:=by cases u<;>simp[XO]at h;rfl
def Eh (h:XO u= .string):u= .string:=by cases u<;>simp[XO]at h;rfl
def Fc (h:XO u= .str fs):∃f,u= .struct f/\f.toList.map (λf=>(f.offset,f.type))=fs:=by
 cases u with
 |struct f=>exact⟨f,rfl,by simpa [XO]using h⟩
 |_=>simp[XO]at h
structure St where
 tm:List (Nat×AV)
 h:List (Nat×xV)
def zK:List (Nat×AV)->Nat->AV
 | [],_=> .bot
 |(k,v)::r,t=>bif Nat.beq t k then v else zK r t
def zD:List (Nat×xV)->Nat->Option xV
 | [],_=>none
 |(k,e)::r,t=>bif Nat.beq t k then some e else zD r t
def over (d:List (Nat×xV)) (h:yT):yT:=λk=>match zD d k with
 |some e=>some e
 |none=>h k
def yX (A:Nat->AV):Operand->AV
 | .tmp t=>A t
 | .const v=> .s v
 | .func f=> .fn f []
 | .global _=> .bot
def fO (op:Op):List Nat:=op.operands.toList.filterMap λ| .tmp t=>some t|_=>none
def aP (P:Program) (N:Value->World->Prop):Result Next->Prop
 | .ok (.value c) w'=>N c w'
 | .ok .skip w'=>N undef w'
 | .ok (.enter f args) w'=>Calls P f args w' λe A=>∃c,e= .returned c/\N c A
 |_=>False
def F7 (P:Program) (X:Nat->Prop) (A:Nat->AV) (h:yT) (op:Op) (v:AV) (h':yT):Prop:=
 ∀(o:Oper) (a:Act) (w:World) (β:uP),o.op=op->jM X h β w->(∀t,yK w (xT X β) h β (A t) (a.eval (.tmp t)))->
  aP P (λc w'=>∃β',xU X w h β w' h' β'/\yK w' (xT X β') h' β' v c) ((execOp a.eval o).run P w)
structure vA (P:Program) (st:St) (op:Op) (v:AV) (d:List (Nat×xV)) (r nw:List Nat):Prop where
 run:∀(X:Nat->Prop) (tm:Nat->AV) (h:yT),(∀t,t∈fO op->tm t=zK st.tm t)->(∀k,k∈r->h k=zD st.h k)->(∀k,k∈nw->h k=none)->F7 P X tm h op v (over d h)
section
variable {w:World} {D:Nat->Prop} {h:yT} {β:uP}
def PZ {A:Nat->AV} (H:∀t,yK w D h β (A t) (a.eval (.tmp t))) (x:Operand):yK w D h β (yX A x) (a.eval x):=by
 cases x with
 |tmp t=>exact H t
 |const v=>exact .fz _ _ (.s v)
 |global g=>exact .fz _ _ (.bot _)
 |func f=>exact .fn f [] #[] Z (λi v hv=>by simp at hv)
def Dh {op:Op} {B A:Nat->AV} (H:∀t,t∈fO op->B t=A t) (C:x∈op.operands):yX B x=yX A x:=by
 cases x with
 |tmp t=>exact H t (by simp only[fO,List.mem_filterMap];exact⟨.tmp t,by simpa using C,rfl⟩)
 |_=>rfl
theorem yK.s_inv {x:Value} (hv:yK w D h β (.s x) c):c=x:=by
 cases hv with
 |fz _ _ A=>cases A;rfl
def gZ {op:Op} {A:Nat->AV} {st:St} (H:∀t,yK w D h β (A t) (a.eval (.tmp t))) (B:∀t,t∈fO op->A t=zK st.tm t) (C:x∈op.operands) {v:AV}
 (hv:yX (zK st.tm) x=v):yK w D h β v (a.eval x):=by
 rw[<-hv,<-Dh B C];exact PZ H x
def vS {op:Op} {A:Nat->AV} {st:St} (H:∀t,yK w D h β (A t) (a.eval (.tmp t))) (B:∀t,t∈fO op->A t=zK st.tm t) (C:x∈op.operands) {v:Value}
 (hv:yX (zK st.tm) x= .s v):a.eval x=v:=(gZ H B C hv).s_inv
end
def cG (h:yT):over [] h=h:=rfl
def yZ {st:St} {op:Op} {v:AV} {r:List Nat}
 (H:∀(o:Oper) (X:Nat->Prop) (A:Nat->AV) (h:yT) (w:World) (β:uP) (a:Act),o.op=op->(∀t,t∈fO op->A t=zK st.tm t)->(∀k,k∈r->h k=zD st.h k)->jM X h β w->
 (∀t,yK w (xT X β) h β (A t) (a.eval (.tmp t)))->∃c,(execOp a.eval o).run P w= .ok (.value c) w/\yK w (xT X β) h β v c):vA P st op v [] r []:=by
 refine⟨?_⟩;intro X A h E I _ o a w β G B C;obtain⟨c,hc,hv⟩:=H o X A h w β a G E I B C;rw[hc,cG];exact⟨β,xU.refl B,hv⟩
section ops
variable {P:Program} {TT:List TI} {st:St}
theorem sn {v:AV} (hv:yX (zK st.tm) x=v):vA P st (.move x) v [] [] []:=
 yZ λo X L h w β a A C _ _ B=>by
  obtain⟨d0,o0,M,I,E,G⟩:=o;dsimp only at A;subst A;exact⟨a.eval x,rfl,gZ B C uO hv⟩
theorem Ec {v:AV} (hv:yX (zK st.tm) x=v):vA P st (.assign x) v [] [] []:=
 yZ λo X L h w β a A C _ _ B=>by
  obtain⟨d0,o0,M,I,E,G⟩:=o;dsimp only at A;subst A;exact⟨a.eval x,rfl,gZ B C uO hv⟩
theorem Zn {c:Operand} {t:Bool} {v:AV} (hc:yX (zK st.tm) c= .s (.bool t)) (hv:(bif t then yX (zK st.tm) x else yX (zK st.tm) y)=v):vA P st (.pick c x y) v [] [] []:=
 yZ λo X L h w β a C B _ _ A=>by
  obtain⟨d0,o0,M,I,E,G⟩:=o;dsimp only at C;subst C;have h1:=vS A B (x:=c) uO hc;refine⟨if t then a.eval x else a.eval y,by simp[execOp,h1,asBool],?_⟩;cases t
  all_goals exact gZ A B uO hv
theorem AB {vs:List AV} {v:AV} (L:yX (zK st.tm) x= .tup vs) (hv:vs[i]? =some v):vA P st (.extract x i) v [] [] []:=
 yZ λo X U h w β a A G _ _ B=>by
  obtain⟨d0,o0,V,S,O,R⟩:=o;dsimp only at A;subst A;have h1:=gZ B G (x:=x) uO L;have hi:=(zBw.1 hv).1;generalize C:a.eval x=M at h1
  cases h1 with
  |fz _ _ E=>cases E
  |tup _ c hl hh=>
   obtain⟨u,hc⟩:∃u,c[i]? =some u:=⟨c[i],by simp[show i<c.size by omega]⟩;have I:c.getD i undef=u:=by simp[zB4,hc]
   exact⟨u,by simp[execOp,Instr.extract,C,hc],I▸hh i v hv⟩
def aG:IntKind->Int->Prop
 | .i64,n=> -9223372036854775808<=n/\n<=9223372036854775807
 | .u8,n=>0<=n/\n<=255
 | .i32,n=> -2147483648<=n/\n<=2147483647
 | .u32,n=>0<=n/\n<=4294967295
 | .u64,n=>0<=n/\n<=18446744073709551615
 | .i8,n=> -128<=n/\n<=127
 | .i16,n=> -32768<=n/\n<=32767
 | .u16,n=>0<=n/\n<=65535
theorem kL {k:IntKind} {n:Int} (h:aG k n):k.wrap n=n:=by
 cases k<;>first
  |exact IntWalk.i64_in n h
  |exact IntWalk.u8_in n h
  |exact IntWalk.i32_in n h
  |exact IntWalk.u32_in n h
  |exact IntWalk.u64_in n h
  |exact IntWalk.i8_in n h
  |exact IntWalk.i16_in n h
  |exact IntWalk.u16_in n h
def qB {k:IntKind} {n:Int} {v:Value} (G:yX (zK st.tm) x= .s (.int k m)) (I:yX (zK st.tm) y= .s (.int k n))
 (H:∀w,(binOp op tx (.int k m) (.int k n)).run P w= .ok v w):vA P st (.binOp op tx x y ty) (.s v) [] [] []:=
 yZ λo X R h w β a E C _ _ B=>by
  obtain⟨d0,o0,S,O,L,M⟩:=o;dsimp only at E;subst E;have h1:=vS B C (x:=x) uO G;have h2:=vS B C (x:=y) uO I;refine⟨v,?_,.fz _ _ (.s v)⟩
  have A:(eqGuard op tx x y (.int k m) (.int k n)).run P w= .ok () w:=by
   unfold eqGuard;cases op<;>rfl
  simp only[execOp,h1,h2,Sem.run_bind,A,Result.andThen_ok,H,Sem.run_pure]
section
variable {tx ty:Nat} {x y:Operand} {k:IntKind} {m n:Int} (hx:yX (zK st.tm) x= .s (.int k m)) (hy:yX (zK st.tm) y= .s (.int k n))
include hx hy
def OA (A:aG k (m+n)):vA P st (.binOp .add tx x y ty) (.s (.int k (m+n))) [] [] []:=qB hx hy λw=>by simp[binOp,Op.intArith,kL A]
def Zu (A:aG k (m-n)):vA P st (.binOp .sub tx x y ty) (.s (.int k (m-n))) [] [] []:=qB hx hy λw=>by simp[binOp,Op.intArith,kL A]
def OB (A:aG k (m*n)):vA P st (.binOp .mul tx x y ty) (.s (.int k (m*n))) [] [] []:=qB hx hy λw=>by simp[binOp,Op.intArith,kL A]
def Yu (B:aG k (m.tdiv n)) (A:n≠0):vA P st (.binOp .quo tx x y ty) (.s (.int k (m.tdiv n))) [] [] []:=qB hx hy λw=>by simp[binOp,Op.intDiv,A,kL B]
def Xu (A:n≠0):vA P st (.binOp .rem tx x y ty) (.s (.int k (m.tmod n))) [] [] []:=qB hx hy λw=>by simp[binOp,Op.intDiv,A]
theorem OC:vA P st (.binOp .and tx x y ty) (.s (.int k (k.wrap (BitVec.ofInt k.bits m &&& BitVec.ofInt k.bits n).toNat))) [] [] []:=qB hx hy λw=>by simp only[binOp,Op.intBits];simp
theorem FC:vA P st (.binOp .or tx x y ty) (.s (.int k (k.wrap (BitVec.ofInt k.bits m ||| BitVec.ofInt k.bits n).toNat))) [] [] []:=qB hx hy λw=>by simp only[binOp,Op.intBits];simp
def Wu:vA P st (.binOp .xor tx x y ty) (.s (.int k (k.wrap (BitVec.ofInt k.bits m ^^^ BitVec.ofInt k.bits n).toNat))) [] [] []:=qB hx hy λw=>by simp only[binOp,Op.intBits];simp
def Dc:vA P st (.binOp .andNot tx x y ty) (.s (.int k (k.wrap (BitVec.ofInt k.bits m &&& ~~~BitVec.ofInt k.bits n).toNat))) [] [] []:=qB hx hy λw=>by simp only[binOp,Op.intBits];simp
def FD:vA P st (.binOp .eql tx x y ty) (.s (.bool (m==n))) [] [] []:=qB hx hy λw=>by simp[binOp,Op.intCmp]
def FE:vA P st (.binOp .neq tx x y ty) (.s (.bool (m != n))) [] [] []:=qB hx hy λw=>by simp[binOp,Op.intCmp]
def FF:vA P st (.binOp .lss tx x y ty) (.s (.bool (decide (m<n)))) [] [] []:=qB hx hy λw=>by simp[binOp,Op.intCmp]
def FG:vA P st (.binOp .leq tx x y ty) (.s (.bool (decide (m<=n)))) [] [] []:=qB hx hy λw=>by simp[binOp,Op.intCmp]
def FH:vA P st (.binOp .gtr tx x y ty) (.s (.bool (decide (n<m)))) [] [] []:=qB hx hy λw=>by simp[binOp,Op.intCmp]
def FI:vA P st (.binOp .geq tx x y ty) (.s (.bool (decide (n<=m)))) [] [] []:=qB hx hy λw=>by simp[binOp,Op.intCmp]
end
def XA {k M:IntKind} {n:Int} {v:Int} (A:op= .shl/\v=k.wrap (m*2 ^ (min n.toNat k.bits))\/op= .shr/\v=m.fdiv (2 ^ (min n.toNat k.bits)))
 (I:yX (zK st.tm) x= .s (.int k m)) (L:yX (zK st.tm) y= .s (.int M n)) (S:0<=n):vA P st (.binOp op tx x y ty) (.s (.int k v)) [] [] []:=
 yZ λo X V h w β a E C _ _ B=>by
  obtain⟨d0,o0,W,U,O,R⟩:=o;dsimp only at E;subst E;have h1:=vS B C (x:=x) uO I;have h2:=vS B C (x:=y) uO L;have G:¬n<0:=by omega
  refine⟨.int k v,?_,.fz _ _ (.s _)⟩
  rcases A with⟨rfl,rfl⟩|⟨rfl,rfl⟩<;>simp[execOp,h1,h2,eqGuard,binOp,Op.shift,G]
def Vu {b:Bool} (E:yX (zK st.tm) x= .s (.bool b)):vA P st (.unOp .not tx x) (.s (.bool !b)) [] [] []:=
 yZ λo X M h w β a A C _ _ B=>by
  obtain⟨d0,o0,O,L,G,I⟩:=o;dsimp only at A;subst A;have h1:=vS B C (x:=x) uO E;exact⟨_,by simp[execOp,h1,Op.unary],.fz _ _ (.s _)⟩
def Uu {k:IntKind} {n:Int} (G:yX (zK st.tm) x= .s (.int k n)) (E:aG k (-n)):vA P st (.unOp .neg tx x) (.s (.int k (-n))) [] [] []:=
 yZ λo X O h w β a A C _ _ B=>by
  obtain⟨d0,o0,R,M,I,L⟩:=o;dsimp only at A;subst A;have h1:=vS B C (x:=x) uO G;exact⟨.int k (-n),by simp[execOp,h1,Op.unary,Op.intArith,kL E],.fz _ _ (.s _)⟩
def AC {C A:Nat} {k B:IntKind} {n:Int} {ts S:TI} (O:uW P TT) (Y:TT[C]? =some ts) (hd:TT[A]? =some S) (hk:S.d= .int B) (hx:yX (zK st.tm) x= .s (.int k n)):
  vA P st (.convert C A x) (.s (.int B (B.wrap n))) [] [] []:=
 yZ λo X tm h w β a R W _ _ V=>by
  obtain⟨M,ac,U,pos,E,G⟩:=o;dsimp only at R;subst R;have h1:=vS V W (x:=x) uO hx;obtain⟨u,hu,_⟩:=wI (O _ _ Y) w;obtain⟨u',L,I⟩:=wI (O _ _ hd) w;obtain rfl:=MO (I.trans hk);exact⟨.int B (B.wrap n),by simp[execOp,convert,h1,hu,L,Conv.intToInt],.fz _ _ (.s _)⟩
def IH {p q:Bool} {v:Bool} {I:TI} (L:uW P TT) (O:TT[tx]? =some I) (hd:I.d= .bool) (S:yX (zK st.tm) x= .s (.bool p)) (U:yX (zK st.tm) y= .s (.bool q))
 (B:op= .eql/\v=(p==q)\/op= .neq/\v=(p != q)):vA P st (.binOp op tx x y ty) (.s (.bool v)) [] [] []:=
 yZ λo X tm h w β a G E _ _ C=>by
  obtain⟨d0,o0,y0,Y,V,W⟩:=o;dsimp only at G;subst G;have h1:=vS C E (x:=x) uO S;have h2:=vS C E (x:=y) uO U;obtain⟨u,R,A⟩:=wI (L _ _ O) w;obtain rfl:=iu (A.trans hd)
  have M:(Op.equal tx (.bool p) (.bool q)).run P w= .ok (p==q) w:=by
   show(Op.equalIn (9999+1) tx (.bool p) (.bool q)).run P w=_
   unfold Op.equalIn;simp[R]
  refine⟨.bool v,?_,.fz _ _ (.s _)⟩
  rcases B with⟨rfl,rfl⟩|⟨rfl,rfl⟩<;>simp[execOp,h1,h2,eqGuard,binOp,M,bne]
def FJ {f:Nat} {cap:Array Operand}:vA P st (.makeFunc (.func f) #[] cap) (.fn f (cap.toList.map (yX (zK st.tm)))) [] [] []:=
 yZ λo X M h w β a A E _ _ C=>by
  obtain⟨d0,o0,O,L,G,I⟩:=o;dsimp only at A;subst A;refine⟨.func (.func f) #[] (cap.map a.eval),by simp[execOp,Instr.makeFunc],.fn _ _ _ zV λi v hv=>?_⟩;simp only[zBe,zBp]at hv;obtain⟨x,B,rfl⟩:=hv
  have:(cap.map a.eval).getD i undef=a.eval x:=by
   have:cap[i]? =some x:=by simpa using B
   simp[zB4,this]
  rw[this];refine gZ C E ?_ Z
  have:x∈cap:=by
   have:=zCq B;simpa using this
  simp[Op.operands,this]
end ops
end
def bH (β:uP) (k:Nat) (l:List (Nat×Nat)):uP:=λj=>if j=k then l else β j
variable {TT:List TI}{te tf ti:TI}
def yL (β:uP) (k:Nat) (l:List (Nat×Nat)):bH β k l k=l:=by simp[bH]
def qU (β:uP) (l:List (Nat×Nat)) (h:j≠k):bH β k l j=β j:=by simp[bH,h]
def Ch (k:Nat):Nat.beq k k=true:=by simp
theorem II (h:j≠k):Nat.beq j k=false:=by grind [Nat.beq,Nat.eq_of_beq_eq_true]
def qV (k:Nat) (e:xV) (h:yT):over [(k,e)] h k=some e:=by simp[over,zD]
def aQ {k:Nat} (e:xV) (h:yT) (hj:j≠k):over [(k,e)] h j=h j:=by simp[over,zD,II hj]
theorem WC.evo (E:EZ w D h β w' D' h' β') {e:xV} (hb:β' k=β k) (hk:∀b n,(b,n)∈β k->w'.heap[b]? =w.heap[b]?)
 (H:WC w D h β k e):WC w' D' h' β' k e:=by
 cases e with
 |dead=>exact hb.trans H
 |box cs=>
  obtain⟨b,c,el,h1,h2,G,B,I⟩:=H;exact⟨b,c,el,hb.trans h1,(hk b 0 (by rw[h1];simp)).trans h2,G,B,λi v hv=>(I i v hv).evo E⟩
 |obj cs=>
  simp_all [yT,uP,WC]
 |arr sz xs st=>
  obtain⟨h1,h2,G,B,I,f,L,M,O⟩:=H;refine⟨h1,h2,by rwa [hb],B,by rwa [hb],f,L.evo E,M,λb n C=>?_⟩;rw[hb]at C;obtain⟨c,el,R,A⟩:=O b n C;exact⟨c,el,(hk b n C).trans R,A⟩
theorem xU.step (H:jM X h β w) (k:Nat) (O:xV) (l:List (Nat×Nat)) (L:w.heap.size<=w'.heap.size)
 (U:∀b,b<w.heap.size->(∀n,(b,n)∉β k)->w'.heap[b]? =w.heap[b]?) (os:w'.os=w.os) (ar:w'.tape=w.tape) (W:w'.output=w.output)
 (Y:∀b n,(b,n)∈l->(∃C,(b,C)∈β k)\/(w.heap.size<=b/\b<w'.heap.size)) (bs:∀b n,(b,n)∈β k->wO w' b=wO w b)
 (ax:∀e,h k=some e->O= .dead\/match e with
 | .dead=>False
 | .box _=>(∃A,O= .box A)/\∀b n,(b,n)∈β k->(b,n)∈l
 | .obj _=>(∃A,O= .obj A)/\∀b n,(b,n)∈β k->(b,n)∈l
 | .arr sz xs _=>(∃M st',O= .arr sz M st'/\xs.length<=ln M)/\∀b n,(b,n)∈β k->∃C,n<=C/\(b,C)∈l)
 (au:EZ w (xT X β) h β w' (xT X (bH β k l)) (over [(k,O)] h) (bH β k l)->WC w' (xT X (bH β k l)) (over [(k,O)] h) (bH β k l) k O):
  xU X w h β w' (over [(k,O)] h) (bH β k l):=by
 have ag:∀j b n,(b,n)∈bH β k l j->(∃k' C,(b,C)∈β k')\/w.heap.size<=b:=by
  intro j b n B;by_cases hj:j=k
  .subst hj;rw[yL]at B
   grind
  .rw[qU _ _ hj]at B;exact .inl ⟨_,_,B⟩
 have G:∀j b n C,j≠k->(b,n)∈β j->(b,C)∉β k:=λj b n C hj h1 h2=>hj (H.disj _ _ _ _ _ h1 h2)
 have V:∀b,b<w.heap.size->(∀k n,(b,n)∉β k)->w'.heap[b]? =w.heap[b]? :=λb hb hn=>U b hb (hn k)
 have ap:∀j b n,(b,n)∈β j->wO w' b=wO w b:=by
  intro j b n B;by_cases hj:j=k
  .grind
  .unfold wO World.shape?;rw[U b (H.lt b (.inr ⟨j,n,B⟩)) λC h1=>G j b n C hj B h1]
 have ac:∀j e,h j=some e->over [(k,O)] h j=some .dead\/match e with
   | .dead=>False
   | .box _=>(∃A,over [(k,O)] h j=some (.box A))/\∀b n,(b,n)∈β j->(b,n)∈bH β k l j
   | .obj _=>(∃A,over [(k,O)] h j=some (.obj A))/\∀b n,(b,n)∈β j->(b,n)∈bH β k l j
   | .arr sz xs _=>(∃M st',over [(k,O)] h j=some (.arr sz M st')/\xs.length<=ln M)/\∀b n,(b,n)∈β j->∃C,n<=C/\(b,C)∈bH β k l j:=by
  intro j e R;by_cases hj:j=k
  .subst hj;rw[qV,yL]
   rcases ax e R with h1|h1
   .exact .inl (by rw[h1])
   .cases e with
    |dead=>exact h1.elim
    |box cs=>obtain⟨⟨A,h2⟩,I⟩:=h1;exact .inr ⟨⟨A,by rw[h2]⟩,I⟩
    |obj cs=>obtain⟨⟨A,h2⟩,I⟩:=h1;exact .inr ⟨⟨A,by rw[h2]⟩,I⟩
    |arr sz xs st=>obtain⟨⟨M,st',h2,av⟩,I⟩:=h1;exact .inr ⟨⟨M,st',by rw[h2],av⟩,I⟩
  .rw[aQ _ _ hj,qU _ _ hj];exact jB h β j e R
 have E:EZ w (xT X β) h β w' (xT X (bH β k l)) (over [(k,O)] h) (bH β k l):=by
  refine⟨L,λb hb hd=>?_,ap,ac⟩;have h1:∀k n,(b,n)∉β k:=λk n B=>hd (.inr ⟨k,n,B⟩)
  refine⟨V b hb h1,?_⟩;rintro(hx|⟨j,n,B⟩)
  .exact hd (.inl hx)
  .rcases ag j b n B with⟨k',C,h2⟩|h2
   .exact h1 _ _ h2
   .omega
 refine⟨L,V,ag,ap,ac,⟨λj e R=>?_,λj R=>?_,λj j' b n C h1 h2=>?_,λj b n B hx=>?_,λb hd=>?_⟩,os,ar,W⟩
 .by_cases hj:j=k
  .subst hj;rw[qV]at R;cases R;exact au E
  .rw[aQ _ _ hj]at R;exact(H.ent j e R).evo E (qU _ _ hj) λb n B=>U b (H.lt b (.inr ⟨j,n,B⟩)) λC h1=>G j b n C hj B h1
 .by_cases hj:j=k
  .subst hj;rw[qV]at R;cases R
  .rw[aQ _ _ hj]at R;rw[qU _ _ hj];exact H.off j R
 .by_cases hj:j=k<;>by_cases S:j'=k
  .rw[hj,S]
  .subst hj;rw[yL]at h1;rw[qU _ _ S]at h2
   rcases Y b n h1 with⟨m,I⟩|⟨I,_⟩
   .exact absurd I (G j' b C m S h2)
   .have:=H.lt b (.inr ⟨_,_,h2⟩);omega
  .subst S;rw[yL]at h2;rw[qU _ _ hj]at h1
   rcases Y b C h2 with⟨m,I⟩|⟨I,_⟩
   .exact absurd I (G j b n m hj h1)
   .have:=H.lt b (.inr ⟨_,_,h1⟩);omega
  .rw[qU _ _ hj]at h1;rw[qU _ _ S]at h2;exact H.disj _ _ _ _ _ h1 h2
 .by_cases hj:j=k
  .subst hj;rw[yL]at B
   rcases Y b n B with⟨m,I⟩|⟨I,_⟩
   .exact H.free _ _ _ I hx
   .have:=H.lt b (.inl hx);omega
  .rw[qU _ _ hj]at B;exact H.free _ _ _ B hx
 .rcases hd with hx|⟨j,n,B⟩
  .exact zCb (H.lt b (.inl hx)) L
  .by_cases hj:j=k
   .subst hj;rw[yL]at B
    rcases Y b n B with⟨m,I⟩|⟨_,I⟩
    .exact zCb (H.lt b (.inr ⟨_,_,I⟩)) L
    .exact I
   .rw[qU _ _ hj]at B;exact zCb (H.lt b (.inr ⟨_,_,B⟩)) L
theorem xU.new (H:jM X h β w) {k:Nat} (hk:h k=none) (A:xV) (n:Nat) (c:Array Value) (el:Nat)
 (C:EZ w (xT X β) h β (w.alloc (.cells c el)) (xT X (bH β k [(w.heap.size,n)])) (over [(k,A)] h) (bH β k [(w.heap.size,n)])->
 WC (w.alloc (.cells c el)) (xT X (bH β k [(w.heap.size,n)])) (over [(k,A)] h) (bH β k [(w.heap.size,n)]) k A):
  xU X w h β (w.alloc (.cells c el)) (over [(k,A)] h) (bH β k [(w.heap.size,n)]):=by
 refine xU.step H k A _ zV (λb hb _=>heap_alloc_old w _ b hb) Z Z Z (λb n B=>?_) (λb n B=>?_) (λe E=>?_) C
 .simp at B;refine .inr ?_;simp[B.1]
 .rw[H.off k hk]at B;simp at B
 .rw[hk]at E;cases E
theorem xU.newBox (H:jM X h β w) {k:Nat} (hk:h k=none) (c:Array Value) (el:Nat) (cs:List AV) (hl:c.size=ln cs) (h1:∀i,i<c.size->(c.getD i undef).oneCell'=true)
 (hv:∀(i:Nat) v,cs[i]? =some v->yK w (xT X β) h β v (c.getD i undef)):
  ∃β',xU X w h β (w.alloc (.cells c el)) (over [(k,.box cs)] h) β'/\yK (w.alloc (.cells c el)) (xT X β') (over [(k,.box cs)] h) β' (.ptr k 0 0) (.pointer (some ⟨w.heap.size,0,none⟩)):=
 ⟨_,xU.new H hk (.box cs) 0 c el λE=>⟨_,c,el,yL _ _ _,heap_alloc_new w _,hl,h1,λi v A=>(hv i v A).evo E⟩,
  .pbox k 0 cs w.heap.size 0 (qV _ _ _) (by rw[yL];simp)⟩
def kE (c:Array Value):Prop:=∀v,v∈c.toList->v.oneCell'=true
theorem kE.get {c:Array Value} (h:kE c):∀i,i<c.size->(c.getD i undef).oneCell'=true:=λi hi=>by
 have e:c.getD i undef=c[i]:=by simp[Array.getD,hi]
 rw[e];exact h _ zV
theorem kE.of {c:Array Value} (h:∀i,i<c.size->(c.getD i undef).oneCell'=true):kE c:=λv hv=>by
 obtain⟨i,hi,rfl⟩:=zDn hv;have hi':i<c.size:=by simpa using hi
 have:=h i hi';simpa [Array.getD,hi']using this
theorem kE.app {a b:Array Value} (A:kE a) (hb:kE b):kE (a++b):=λv hv=>by
 rw[Array.toList_append,zBs]at hv;exact hv.elim (A v) (hb v)
theorem kE.arr {l:List Value} (h:∀v∈l,v.oneCell'=true):kE l.toArray:=λv hv=>h v BV
theorem AD (h:i<z.size):z[i]! ∈z.toList:=by grind
theorem kE.zero (h:∀v,v∈z.toList->v.oneCell'=true) (n:Nat):kE (Builtin.zeroCells z n):=λv hv=>by
 simp only[Builtin.zeroCells,zFr,Array.toList_range,zCl,zBu]at hv;obtain⟨i,hi,rfl⟩:=hv
 have B:0<z.size:=by
  rcases Nat.eq_zero_or_pos z.size with A|A
  .rw[A,Nat.mul_zero]at hi;omega
  .exact A
 exact h _ (AD (zGu _ B))
def AE {c:Array Value} (G:c.size=n*sz) (E:1<=sz) (C:∀i j,i<n->j<sz->c[i*sz+j]? =some (f i j)) (h1:∀i j,i<n->j<sz->(f i j).oneCell'=true):∀i,i<c.size->(c.getD i undef).oneCell'=true:=λi hi=>by
 have A:i % sz<sz:=zGu _ (by omega);have hd:i/sz<n:=by rw[Nat.div_lt_iff_lt_mul (by omega)];omega
 have e:i/sz*sz+i % sz=i:=by rw[zE7];exact Nat.div_add_mod i sz
 have h2:=C (i/sz) (i % sz) hd A;rw[e]at h2;have B:c.getD i undef=f (i/sz) (i % sz):=by simp[zB4,h2]
 rw[B];exact h1 _ _ hd A
theorem kE.made (h:∀v,v∈z.toList->v.oneCell'=true) (A:0<z.size) (n:Nat):kE (madeCells z n):=λv hv=>by
 simp only[madeCells,zFr,Array.toList_range,zCl,zBu]at hv;obtain⟨i,hi,rfl⟩:=hv;exact h _ (AD (zGu _ A))
theorem xU.newArr (H:jM X h β w) {k:Nat} (hk:h k=none) (c:Array Value) (el sz:Nat) (xs:List AV) (cap:Nat) (f:Nat->Nat->Value) (I:1<=sz) (G:ln xs<=cF)
 (A:ln xs<=cap) (hc:cap*sz=c.size) (B:∀i,i<c.size->(c.getD i undef).oneCell'=true) (M:∀(i:Nat) (x:AV),xs[i]? =some x->ln x.cells=sz) (C:∀i j,i<ln xs->j<sz->c[i*sz+j]? =some (f i j)) (h1:∀i j,i<ln xs->j<sz->(f i j).oneCell'=true)
 (hv:∀(i:Nat) (x:AV) (j:Nat) v,xs[i]? =some x->x.cells[j]? =some v->xM w (xT X β) v (f i j)):
  ∃β',xU X w h β (w.alloc (.cells c el)) (over [(k,.arr sz xs false)] h) β'/\yK (w.alloc (.cells c el)) (xT X β') (over [(k,.arr sz xs false)] h) β' (.ref k 0 (ln xs)) (.slice (some ⟨w.heap.size,0,none⟩) (ln xs) cap):=by
 refine⟨_,xU.new H hk (.arr sz xs false) (ln xs) c el λE=>⟨I,G,λ_=>by rw[yL];simp,M,λb n r L=>?_,f,.ofF λi x j v O R=>(hv i x j v O R).evo E.size E.fz,h1,λb n hb=>?_⟩,?_⟩
 .rw[yL]at L
  grind
 .rw[yL]at hb;simp at hb;obtain⟨rfl,rfl⟩:=hb;exact⟨c,el,heap_alloc_new w _,zCa (zBt _ A) (zDc hc),C,B⟩
 .have:=yK.ref (w:=w.alloc (.cells c el)) (D:=xT X (bH β k [(w.heap.size,ln xs)])) (h:=over [(k,.arr sz xs false)] h) (β:=bH β k [(w.heap.size,ln xs)]) k 0 (ln xs) sz xs false w.heap.size (ln xs) cap (qV _ _ _)
   (by rw[yL];simp) (by omega) A (by
    have:wO (w.alloc (.cells c el)) w.heap.size=c.size:=by
     unfold wO World.shape?;rw[heap_alloc_new];rfl
    rw[this];simpa using hc)
  simpa using this
theorem xU.newArrN (H:jM X h β w) {k:Nat} (hk:h k=none) (c:Array Value) (el sz:Nat) (xs:List AV) (cap:Nat) (f:Nat->Nat->Value) (I:1<=sz) (G:ln xs<=cF)
 (A:ln xs<=cap) (hc:cap*sz=c.size) (B:∀i,i<c.size->(c.getD i undef).oneCell'=true) (M:∀(i:Nat) (x:AV),xs[i]? =some x->ln x.cells=sz) (C:∀i j,i<ln xs->j<sz->c[i*sz+j]? =some (f i j)) (h1:∀i j,i<ln xs->j<sz->(f i j).oneCell'=true)
 (hv:∀(i:Nat) (x:AV) (j:Nat) v,xs[i]? =some x->x.cells[j]? =some v->yK w (xT X β) h β v (f i j)):
  ∃β',xU X w h β (w.alloc (.cells c el)) (over [(k,.arr sz xs ⟨false,true⟩)] h) β'/\yK (w.alloc (.cells c el)) (xT X β') (over [(k,.arr sz xs ⟨false,true⟩)] h) β' (.ref k 0 (ln xs)) (.slice (some ⟨w.heap.size,0,none⟩) (ln xs) cap):=by
 refine⟨_,xU.new H hk (.arr sz xs ⟨false,true⟩) (ln xs) c el λE=>⟨I,G,λ_=>by rw[yL];simp,M,λb n r L=>?_,f,λi x j v O R=>⟨(hv i x j v O R).evo E,λh=>by cases h⟩,h1,λb n hb=>?_⟩,?_⟩
 .rw[yL]at L
  grind
 .rw[yL]at hb;simp at hb;obtain⟨rfl,rfl⟩:=hb;exact⟨c,el,heap_alloc_new w _,zCa (zBt _ A) (zDc hc),C,B⟩
 .have:=yK.ref (w:=w.alloc (.cells c el)) (D:=xT X (bH β k [(w.heap.size,ln xs)])) (h:=over [(k,.arr sz xs ⟨false,true⟩)] h) (β:=bH β k [(w.heap.size,ln xs)]) k 0 (ln xs) sz xs ⟨false,true⟩ w.heap.size (ln xs) cap (qV _ _ _)
   (by rw[yL];simp) (by omega) A (by
    have:wO (w.alloc (.cells c el)) w.heap.size=c.size:=by
     unfold wO World.shape?;rw[heap_alloc_new];rfl
    rw[this];simpa using hc)
  simpa using this
theorem xU.newFz (H:jM X h β w) (c:Array Value) (el:Nat):xU X w h β (w.alloc (.cells c el)) h β:=by
 have A:∀b,b<w.heap.size->(w.alloc (.cells c el)).heap[b]? =w.heap[b]? :=λb hb=>heap_alloc_old w _ b hb
 have B:∀k b n,(b,n)∈β k->wO (w.alloc (.cells c el)) b=wO w b:=λk b n C=>by
  unfold wO World.shape?;rw[A b (H.lt b (.inr ⟨k,n,C⟩))]
 have E:EZ w (xT X β) h β (w.alloc (.cells c el)) (xT X β) h β:=⟨by simp,λb hb hd=>⟨A b hb,hd⟩,B,jB h β⟩;refine⟨by simp,λb hb _=>A b hb,λk _ n C=> .inl ⟨k,n,C⟩,B,jB h β,⟨λk e G=>(H.ent k e G).evo E Z λb n C=>A b (H.lt b (.inr ⟨k,n,C⟩)),H.off,H.disj,H.free,λb hd=>?_⟩,rfl,rfl,rfl⟩;exact zCb (H.lt b hd) zV
theorem xM.newArr (H:jM X h β w) (c:Array Value) (el sz:Nat) (xs:List AV) (cap:Nat) (f:Nat->Nat->Value) (G:1<=sz) (C:ln xs<=cF)
 (A:ln xs<=cap) (I:∀(i:Nat) (x:AV),xs[i]? =some x->ln x.cells=sz) (M:∀i j,i<ln xs->j<sz->c[i*sz+j]? =some (f i j)) (h1:∀i j,i<ln xs->j<sz->(f i j).oneCell'=true)
 (hv:∀(i:Nat) (x:AV) (j:Nat) v,xs[i]? =some x->x.cells[j]? =some v->xM w (xT X β) v (f i j)):
  xM (w.alloc (.cells c el)) (xT X β) (.sl true xs) (.slice (some ⟨w.heap.size,0,none⟩) (ln xs) cap):=by
 have E:=(xU.newFz H c el).evo;by_cases B:xs=[]
 .subst B;exact .nil1 _ _
 .refine .sl true xs w.heap.size 0 sz cap f B ⟨by simp,λhd=>?_,G,C,I,λi j hi hj=>?_,h1⟩ A λi x j v B L=>(hv i x j v B L).evo E.size E.fz
  .have:=H.lt _ hd;omega
  all_goals simp_all [yT,uP,cF,xT]
theorem xM.wkF {xs:List AV} (h:xM w D (.sl nn xs) c):xM w D (.sl false xs) c:=by
 cases h with
 |nil a cap=>exact .nil a cap
 |nil1 a cap=>exact .nil _ cap
 |sl nn xs b o sz cap f A hL hc hh=>exact .sl false xs b o sz cap f A hL hc hh
section
def AV.one:AV->Bool
 | .s v=>v.oneCell'
 | .sl _ _| .slc _ _| .ref _ _ _| .ptr _ _ _| .fp _ _ _| .fn _ _| .fm _ _=>true
 |_=>false
def AV.ok:AV->Bool
 | .agg _=>true
 |v=>v.one
mutual
def AV.nokey:AV->Bool
 | .bot| .s _| .sl _ _| .slc _ _| .fp _ _ _| .fm _ _=>true
 | .agg cs=>vK cs
 |_=>false
def vK:List AV->Bool
 | []=>true
 |v::r=>v.nokey&&vK r
end
theorem jN:∀{cs:List AV} {i:Nat} {v:AV},vK cs=true->cs[i]? =some v->v.nokey=true
 | [],_,_,_,h=>by simp at h
 |x::r,0,v,hk,h=>by simp at h;subst h;simp[vK]at hk;exact hk.1
 |x::r,i+1,v,hk,h=>by simp[vK]at hk;exact jN hk.2 MJ
def TB :List α->Nat->List α->List α
 |cs,_,[]=>cs
 |cs,o,v::vs=>TB (cs.set o v) (o+1) vs
theorem cW :∀(vs cs:List α) (o:Nat),(TB cs o vs).length=ln cs
 | [],_,_=>rfl
 |v::vs,cs,o=>by rw[TB,cW vs,zCk]
theorem XB :∀(vs cs:List α) (o j:Nat),o+ln vs<=ln cs->(TB cs o vs)[j]? =if o<=j/\j<o+ln vs then vs[j-o]? else cs[j]?
 | [],cs,o,j,_=>by rw[TB,Os zV]
 | v::vs,cs,o,j,h=>by
  simp at h;rw[TB,XB vs _ _ _ qD];by_cases h1:o+1<=j/\j<o+1+ln vs
  .rw[zA5 h1,zA5 qD,show j-o=(j-(o+1))+1 by omega];simp
  .rw[Os h1];by_cases h2:j=o
   .subst h2;rw[zA5 zV,zB7 (by omega),zEj];rfl
   .rw[Os qD,zFy (by omega)]
section
variable {w:World} {D:Nat->Prop} {h:yT} {β:uP}
theorem eG {c:Array Value} {v:Value} (h:c[i]? =some v):c.getD i undef=v:=by simp[zB4,h]
theorem jO (c:Array Value) (i:Nat) (h:i<c.size):c[i]? =some (c.getD i undef):=by grind [eG]
theorem xM.one_of {v:AV} (hv:xM w D v c) (h1:v.one=true):c.oneCell'=true:=by
 cases hv<;>first|rfl|(simp[AV.one]at h1;done)|simpa [AV.one]using h1
theorem yK.one_of {v:AV} (hv:yK w D h β v c) (h1:v.one=true):c.oneCell'=true:=by
 cases hv with
 |fz _ _ A=>exact A.one_of h1
 |dref _ _ _ _ _ h2=>exact h2
 |dptr _ _ _ _ _ h2=>exact h2
 |agg _ _ _ _ _=>simp[AV.one]at h1
 |tup _ _ _ _=>simp[AV.one]at h1
 |_=>rfl
theorem yK.cells {v:AV} (hv:yK w D h β v c) (h1:v.ok=true):
  c.cells.size=ln v.cells/\(∀i,i<c.cells.size->(c.cells.getD i undef).oneCell'=true)/\∀(i:Nat) u,v.cells[i]? =some u->yK w D h β u (c.cells.getD i undef):=by
 by_cases B:v.isAgg=true
 .cases v<;>simp[AV.isAgg]at B
  rename_i cs
  cases hv with
  |fz _ _ E=>
   cases E with
   |agg _ c hl h2 hh=>exact⟨hl,h2,λi u A=> .fz _ _ (hh i u A)⟩
  |agg _ c hl h2 hh=>exact⟨hl,h2,hh⟩
 .have G:v.one=true:=by cases v<;>first|exact h1|(simp[AV.isAgg]at B)
  have hc:=hv.one_of G
  have e1:c.cells= #[c]:=by cases c<;>first|rfl|(simp[Value.oneCell']at hc)
  have C:v.cells=[v]:=by cases v<;>first|rfl|(simp[AV.isAgg]at B)
  rw[e1,C];refine⟨rfl,λi hi=>?_,λi u A=>?_⟩
  .simp_all
  .cases i with
   |zero=>simp at A;subst A;exact hv
   |succ i=>simp at A
theorem yK.toF:∀{v:AV} {c:Value},yK w D h β v c->v.nokey=true->xM w D v c:=by
 intro v c hv
 induction hv with
 |fz _ _ A=>exact λ_=>A
 |agg cs c hl h1 _ B=>exact λhk=> .agg cs c hl h1 λi v hi=>B i v hi (jN (by simpa [AV.nokey]using hk) hi)
 |_=>intro hk;simp[AV.nokey]at hk
def P6 (w:World) (D:Nat->Prop) (h:yT) (β:uP) (A:List AV) (b o:Nat):Prop:=
 ∀(j:Nat) u,A[j]? =some u->∃c,w.cell? ⟨b,o+j,none⟩=some c/\c.oneCell'=true/\yK w D h β u c
def uU {c:Array Value} {A:Nat×Nat} (hb:w.heap[b]? =some (.cells c el A)) (j:Nat):w.cell? ⟨b,j,none⟩=c[j]? :=by simp[World.cell?,hb]
def OD (H:jM X h β w) {cs:List AV} (hk:h k=some (.box cs)) (hv:yK w D h β (.ptr k i off) c):
  ∃b,c= .pointer (some ⟨b,off,none⟩)/\i=0/\P6 w (xT X β) h β cs b 0:=by
 cases hv with
 |fz _ _ I=>cases I
 |dptr _ _ _ _ hd _=>rw[hk]at hd;cases hd
 |parr _ _ _ _ _ _ _ _ hd _ _ _=>rw[hk]at hd;cases hd
 |pbox _ _ B b n hk' hb=>
  obtain⟨L,c,el,h1,h2,C,E,G⟩:=H.ent k _ hk;rw[h1]at hb;simp at hb;obtain⟨rfl,rfl⟩:=hb;refine⟨b,rfl,rfl,λj u A=>?_⟩;have hj:j<c.size:=by rw[C];exact(zBw.1 A).1
  exact⟨c.getD j undef,by rw[uU h2,zCn];exact jO c j hj,E j hj,G j u A⟩
def Lf (H:jM X h β w) {xs:List AV} {st:Fl} (hk:h k=some (.arr sz xs st)) {x:AV} (C:xs[i]? =some x) (hv:yK w D h β (.ptr k i off) c):
  ∃b n,c= .pointer (some ⟨b,i*sz+off,none⟩)/\(b,n)∈β k/\off<sz/\x.cells.length=sz/\P6 w (xT X β) h β x.cells b (i*sz):=by
 cases hv with
 |fz _ _ O=>cases O
 |dptr _ _ _ _ hd _=>rw[hk]at hd;cases hd
 |pbox _ _ _ _ _ hd _=>rw[hk]at hd;cases hd
 |parr _ _ _ U V st' b n hk' hb hi R=>
  rw[hk]at hk';cases hk';obtain⟨_,_,_,S,_,f,G,I,L⟩:=H.ent k _ hk;obtain⟨c,el,M,_,B,_⟩:=L b n hb;have A:=S i x C;refine⟨b,n,rfl,hb,R,A,λj u E=>?_⟩;have hj:j<sz:=by rw[<-A];exact(zBw.1 E).1
  exact⟨f i j,by rw[uU M];exact B i j hi hj,I i j (zBw.1 C).1 hj,G.toV i x j u C E⟩
def Yn (H:jM X h β w) {xs:List AV} {st:Fl} (hk:h k=some (.arr sz xs st)) {x:AV} (C:xs[i]? =some x) (hv:yK w D h β (.ptr k i off) c):
  ∃b n,c= .pointer (some ⟨b,i*sz+off,none⟩)/\(b,n)∈β k/\off<sz/\x.cells.length=sz/\P6 w (xT X β) h β x.cells b (i*sz)/\i<n:=by
 cases hv with
 |fz _ _ O=>cases O
 |dptr _ _ _ _ hd _=>rw[hk]at hd;cases hd
 |pbox _ _ _ _ _ hd _=>rw[hk]at hd;cases hd
 |parr _ _ _ U V st' b n hk' hb hi R=>
  rw[hk]at hk';cases hk';obtain⟨_,_,_,S,_,f,G,I,L⟩:=H.ent k _ hk;obtain⟨c,el,M,_,B,_⟩:=L b n hb;have A:=S i x C;refine⟨b,n,rfl,hb,R,A,λj u E=>?_,hi⟩;have hj:j<sz:=by rw[<-A];exact(zBw.1 E).1
  exact⟨f i j,by rw[uU M];exact B i j hi hj,I i j (zBw.1 C).1 hj,G.toV i x j u C E⟩
def j3 {xs:List AV} {x:AV} (C:xs[i]? =some x) (hv:yK w D h β (.fp xs i off) c):
  ∃b o,c= .pointer (some ⟨b,o+off,none⟩)/\off<ln x.cells/\P6 w D h β x.cells b o:=by
 cases hv with
 | fz _ _ E=>
  cases E with
  |fp _ b o sz _ _ f hL hi G hh=>
   have A:=hL.wide i x C;refine⟨b,o+i*sz,rfl,by omega,λj u B=>?_⟩;have hj:j<sz:=by rw[<-A];exact(zBw.1 B).1
   exact⟨f i j,hL.cell i j hi hj,hL.one i j hi hj,.fz _ _ (hh i x j u C B)⟩
end
def Yb (B:Bool) (n:Nat) (A:List AV) (off:Nat):Option AV:=
 bif B then(bif Nat.ble (off+n) (ln A) then some (.agg ((A.drop off).take n))else none)else A[off]?
theorem FK (C:uW P TT) (hT:TT[T]? =some ti) {A:List AV} (M:P6 w D h β A b o) {v:AV}
 (hv:Yb ti.d.agg ti.size A off=some v):∃c,(loadVar T ⟨b,o+off,none⟩).run P w= .ok c w/\yK w D h β v c:=by
 have E:=FB (C _ _ hT) w;have S:=qN (C _ _ hT) w;unfold Yb at hv
 have G:∀j,(⟨b,o+off,none⟩:Addr).add j=⟨b,o+(off+j),none⟩:=λj=>by unfold Addr.add;split<;>simp_all<;>omega
 cases hb:ti.d.agg with
 |false=>
  simp only[hb,zC7]at hv;obtain⟨c,h1,_,L⟩:=M off v hv;exact⟨c,by simp[loadVar,E,hb,h1],L⟩
 | true=>
  simp only[hb,zCm]at hv
  cases B:Nat.ble (off+ti.size) (ln A) with
  |false=>simp[B]at hv
  | true=>
   have I:=zBo B;simp only[B,zCm,zCu]at hv;subst hv
   have hc:∀j,∃c,j<ti.size->∃u,A[off+j]? =some u/\w.cell? ((⟨b,o+off,none⟩:Addr).add j)=some c/\c.oneCell'=true/\yK w D h β u c:=λj=>by
    by_cases hj:j<ti.size
    .obtain⟨u,U⟩:∃u,A[off+j]? =some u:=⟨A[off+j],by simp⟩
     simp_all [uW,hT,yT,uP,P6,Yb]
    .exact⟨undef,λh=>absurd h hj⟩
   obtain⟨f,R⟩:∃f:Nat->Value,∀j,j<ti.size->∃u,A[off+j]? =some u/\w.cell? ((⟨b,o+off,none⟩:Addr).add j)=some (f j)/\(f j).oneCell'=true/\yK w D h β u (f j):=
    ⟨λj=>(hc j).choose,λj hj=>(hc j).choose_spec hj⟩
   have hl:=run_loadCells (P:=P) w ⟨b,o+off,none⟩ ti.size f λj hj=>(R j hj).choose_spec.2.1
   have O:∀i,i<ti.size->(((pi ti.size).map f).toArray).getD i undef=f i:=λi hi=>eG KG
   refine⟨.agg ((pi ti.size).map f).toArray,by simp[loadVar,E,hb,S,hl],.agg _ _ qD (λi hi=>?_) λi u U=>?_⟩
   all_goals grind
section ops
variable {P:Program} {TT:List TI} {st:St} (hP:uW P TT)
theorem dN {v:AV} (k:Nat) (S:yX (zK st.tm) x=v) (h1:v.ok=true):vA P st (.box T x) (.ptr k 0 0) [(k,.box v.cells)] [] [k]:=by
 refine⟨?_⟩;intro X W h L _ M o a w β A B C;obtain⟨d0,o0,V,U,E,I⟩:=o;dsimp only at A;subst A;obtain⟨hl,A,hv⟩:=(gZ C L (x:=x) uO S).cells h1;obtain⟨β',G,O⟩:=xU.newBox B (M k zV) (a.eval x).cells T v.cells hl A hv
 have R:(execOp a.eval ⟨d0,.box T x,V,U,E,I⟩).run P w= .ok (.value (.pointer (some ⟨w.heap.size,0,none⟩))) (w.alloc (.cells (a.eval x).cells T)):=by
  simp[execOp,Instr.box,newVar,newRow]
 rw[R];exact⟨β',G,O⟩
include hP in
def fP (k:Nat) (hT:TT[T]? =some ti) (h1:ti.zero.all (·.oneCell')=true):vA P st (.alloc T) (.ptr k 0 0) [(k,.box (ti.zero.map .s))] [] [k]:=by
 refine⟨?_⟩;intro X tm h Y _ M o a w β B E W;obtain⟨d0,o0,V,U,I,L⟩:=o;dsimp only at B;subst B;obtain⟨z,S,A⟩:=pn (hP _ _ hT) w
 obtain⟨β',G,O⟩:=xU.newBox E (M k zV) z.cells T (ti.zero.map .s) (by simp[<-A]) (λi hi=>by
   have:=zBk.1 h1 (z.cells.getD i undef) (by rw[<-A];exact zCq (by simpa using jO _ i hi))
   exact this) (λi v hv=>by
   simp only[zBe,zBp]at hv;obtain⟨u,C,rfl⟩:=hv;rw[<-A]at C;rw[eG (by simpa using C)]
   exact .fz _ _ (.s _))
 have R:(execOp a.eval ⟨d0,.alloc T,V,U,I,L⟩).run P w= .ok (.value (.pointer (some ⟨w.heap.size,0,none⟩))) (w.alloc (.cells z.cells T)):=by
  simp[execOp,Instr.alloc,S,newVar,newRow]
 rw[R];exact⟨β',G,O⟩
include hP in
def FL {cs:List AV} {v:AV} (M:yX (zK st.tm) x= .ptr k 0 off) (hk:zD st.h k=some (.box cs)) (hT:TT[T]? =some ti)
 (hv:Yb ti.d.agg ti.size cs off=some v):vA P st (.load T x) v [] [k] []:=
 yZ λo X U h w β a A I L B C=>by
  obtain⟨d0,o0,V,S,O,R⟩:=o;dsimp only at A;subst A;have h1:=gZ C I (x:=x) uO M;have hk':=(L k zV).trans hk;obtain⟨b,hc,_,G⟩:=OD B hk' h1;obtain⟨c,h2,E⟩:=FK hP hT G hv;rw[zCn]at h2;exact⟨c,by simp[execOp,Instr.loadAt,hc,Instr.sureAddr,h2],E⟩
include hP in
def dO {xs:List AV} {y v:AV} (M:yX (zK st.tm) x= .ptr k i off) (hk:zD st.h k=some (.arr sz xs sl)) (O:xs[i]? =some y) (hT:TT[T]? =some ti)
 (hv:Yb ti.d.agg ti.size y.cells off=some v):vA P st (.load T x) v [] [k] []:=
 yZ λo X V h w β a A I L B C=>by
  obtain⟨d0,o0,W,U,R,S⟩:=o;dsimp only at A;subst A;have h1:=gZ C I (x:=x) uO M;have hk':=(L k zV).trans hk;obtain⟨b,n,hc,_,_,_,G⟩:=Lf B hk' O h1;obtain⟨c,h2,E⟩:=FK hP hT G hv;exact⟨c,by simp[execOp,Instr.loadAt,hc,Instr.sureAddr,h2],E⟩
include hP in
def ZU {xs:List AV} {y v:AV} (I:yX (zK st.tm) x= .fp xs i off) (L:xs[i]? =some y) (hT:TT[T]? =some ti)
 (hv:Yb ti.d.agg ti.size y.cells off=some v):vA P st (.load T x) v [] [] []:=
 yZ λo X V h w β a A G S M B=>by
  obtain⟨d0,o0,W,U,O,R⟩:=o;dsimp only at A;subst A;have h1:=gZ B G (x:=x) uO I;obtain⟨b,o,hc,_,E⟩:=j3 L h1;obtain⟨c,h2,C⟩:=FK hP hT E hv;exact⟨c,by simp[execOp,Instr.loadAt,hc,Instr.sureAddr,h2],C⟩
end ops
theorem Xn (E:uW P TT) (hT:TT[T]? =some ti) {c:Array Value} (hb:w.heap[b]? =some (.cells c el (0,0))) {x:Value} (C:x.cells.size=ti.size)
 (I:off+ti.size<=c.size) (h1:∀i,i<x.cells.size->(x.cells.getD i undef).oneCell'=true):
  ∃A:Array Value,(storeVar T ⟨b,off,none⟩ x).run P w= .ok () (w.setRow b A)/\A.size=c.size/\∀j,A.getD j undef=if off<=j/\j<off+ti.size then x.cells.getD (j-off) undef else c.getD j undef:=by
 have G:=qN (E _ _ hT) w
 have B:=run_storeCells_at P b off el x.cells.toList 0 c w hb qD (λv hv=>by
  obtain⟨i,hi,rfl⟩:=zDn hv;have:=h1 i ML
  simpa [zB4,show i<x.cells.size by simpa using hi]using this)
 refine⟨_,by simp only[storeVar,Sem.run_bind,G,Result.andThen_ok,C,zEa,zFp,zF5,B];rfl,?_,λj=>?_⟩
 .simp;omega
 .simp only[zDw,zD8,C,zB4,zDv];by_cases h2:off<=j/\j<off+ti.size
  .grind
  .rw[Os h2]
   grind
def kM {c A:Array Value} {B:Nat×Nat} (hb:w.heap[b]? =some (.cells c el B)) (C:A.size=c.size) (j:Nat):wO (w.setRow b A) j=wO w j:=by
 unfold wO World.shape?;by_cases h:j=b
 .subst h;rw[setRow_heap w _ _ _ _ _ hb,hb];simp[C]
 .rw[setRow_other w b j A h]
section ops
variable {P:Program} {TT:List TI} {st:St} (hP:uW P TT)
include hP in
theorem KH {p:Operand} {k:Nat} {cs:List AV} {v:AV} (hp:yX (zK st.tm) p= .ptr k 0 off) (hx:yX (zK st.tm) x=v) (hk:zD st.h k=some (.box cs)) (hT:TT[T]? =some ti)
 (h1:v.ok=true) (h2:Nat.beq (ln v.cells) ti.size=true) (Y:Nat.ble (off+ti.size) (ln cs)=true):vA P st (.store T p x) .bot [(k,.box (TB cs off v.cells))] [k] []:=by
 refine⟨?_⟩;intro X tm h hg U _ o a w β ho I W;obtain⟨d0,o0,y0,p0,f0,g0⟩:=o;dsimp only at ho;subst ho;have hk':=(U k zV).trans hk;have h2:=zBz h2;have Y:=zBo Y;have B:=gZ W hg (x:=p) uO hp;obtain⟨hl,S,hv⟩:=(gZ W hg (x:=x) uO hx).cells h1;obtain⟨b,c,el,e1,M,e3,e4,e5⟩:=I.ent k _ hk';obtain⟨G,hc,_,_⟩:=OD I hk' B
 obtain rfl:G=b:=by
  generalize a.eval p=cp at*
  cases B with
  |fz _ _ hf=>cases hf
  |dptr _ _ _ _ hd _=>rw[hk']at hd;cases hd
  |parr _ _ _ _ _ _ _ _ hd _ _ _=>rw[hk']at hd;cases hd
  |pbox _ _ ap ag n ac hb=>
   grind
 obtain⟨L,C,V,O⟩:=Xn hP hT M (off:=off) (x:=a.eval x) (by omega) (by omega) S
 have U:(execOp a.eval ⟨d0,.store T p x,y0,p0,f0,g0⟩).run P w= .ok .skip (w.setRow G L):=by
  simp[execOp,Instr.storeAt,hc,Instr.sureAddr,C]
 rw[U]
 refine⟨bH β k (β k),xU.step I k _ _ zV (λj hj hn=>setRow_other w G j L (λe=>hn 0 (by rw[e1,e];simp))) Z Z Z (λb n R=> .inl ⟨n,R⟩) (λb n _=>kM M V b)
  (λe he=>by rw[hk']at he;cases he;exact .inr ⟨⟨_,rfl⟩,λ_ _ R=>R⟩) λE=>⟨G,L,el,by rw[yL];exact e1,setRow_heap w _ _ _ _ _ M,by rw[cW];omega,λi hi=>?_,λi u A=>?_⟩,.fz _ _ (.bot _)⟩
 .grind
 .rw[XB _ _ _ _ (by omega)]at A;rw[O];rw[h2]at A;split
  .rename_i hi;rw[zA5 hi]at A;exact(hv _ u A).evo E
  .rename_i hi;rw[Os hi]at A;exact(e5 i u A).evo E
def FM (x:AV) (off:Nat) (cs:List AV):AV:=match x with
 | .agg A=> .agg (TB A off cs)
 |_=>match cs with
  | [v]=>v
  |_=> .bot
def Cc {x:AV} {cs:List AV} (h:off+ln cs<=ln x.cells) (B:1<=ln cs) (A:cs.all (λv=>!v.isAgg)=true):(FM x off cs).cells=TB x.cells off cs:=by
  cases x<;>first
    |rfl
    | (simp only[AV.cells,zBl,zCd]at h
       match cs,B,h,A with
       | [v],_,h,A=>
         simp at A h;subst h
         cases v<;>first|rfl|(simp[AV.isAgg]at A))
include hP in
theorem WE {p:Operand} {k:Nat} {xs:List AV} {y v:AV} (hp:yX (zK st.tm) p= .ptr k i off) (hx:yX (zK st.tm) x=v) (hk:zD st.h k=some (.arr sz xs ⟨false,nest⟩)) (hy:xs[i]? =some y) (hT:TT[T]? =some ti)
 (h1:v.ok=true) (h2:Nat.beq (ln v.cells) ti.size=true) (h3:Nat.ble (off+ti.size) (ln y.cells)=true) (h4:(nest||v.nokey)=true) (h5:Nat.ble 1 ti.size=true) (h6:v.cells.all (λv=>!v.isAgg)=true):
  vA P st (.store T p x) .bot [(k,.arr sz (xs.set i (FM y off v.cells)) ⟨false,nest⟩)] [k] []:=by
 refine⟨?_⟩;intro X tm h hg hr _ o a w β ho HH Ht;obtain⟨d0,o0,y0,p0,f0,g0⟩:=o;dsimp only at ho;subst ho;have hk':=(hr k zV).trans hk;have h2:=zBz h2;have h3:=zBo h3;have h5:=zBo h5;have a2:=gZ Ht hg (x:=p) uO hp;have hxv:=gZ Ht hg (x:=x) uO hx;obtain⟨hl,Y,hv⟩:=hxv.cells h1
 have a4:nest=false->∀(j:Nat) u,v.cells[j]? =some u->xM w (xT X β) u ((a.eval x).cells.getD j undef):=λV j u G=>(hv j u G).toF (by
  rw[V,zDk]at h4
  cases v<;>first
   |(simp[AV.cells]at G;cases j<;>simp at G;subst G;exact h4)
   |(exact jN (by simpa [AV.nokey,AV.cells]using h4) G))
 obtain⟨b,n,hc,L,a9,a5,_,a8⟩:=Yn HH hk' hy a2;obtain⟨g1,g2,g3,g4,g5,f,g6,g7,g8⟩:=HH.ent k _ hk';have hi:i<ln xs:=(zBw.1 hy).1
 obtain⟨rr,hbk,a1,ac⟩:∃rr,β k=(b,n)::rr/\n=ln xs/\∀R n',(R,n')∈rr->n'=0:=by
  cases hbk:β k with
  |nil=>rw[hbk]at L;simp at L
  |cons q r=>
   obtain⟨b0,n0⟩:=q;obtain⟨e1,U,_⟩:=g5 b0 n0 r hbk;have U:=U Z;rw[hbk]at L;simp at L
   rcases L with⟨rfl,rfl⟩|L
   .exact⟨r,rfl,e1,U⟩
   .have:=U b n L;omega
 subst a1;obtain⟨c,el,U,e3,e4,e5⟩:=g8 b _ L
 have a7:i*sz+sz<=ln xs*sz:=by
  have:=zBt sz (show i+1<=ln xs by omega)
  rwa [zCi,zDh]at this
 obtain⟨S,av,a3,ag⟩:=Xn hP hT U (off:=i*sz+off) (x:=a.eval x) (by omega) (by omega) Y
 have hr:(execOp a.eval ⟨d0,.store T p x,y0,p0,f0,g0⟩).run P w= .ok .skip (w.setRow b S):=by
  simp[execOp,Instr.storeAt,hc,Instr.sureAddr,av]
 rw[hr];have au:=Cc (x:=y) (off:=off) (cs:=v.cells) (by omega) (by omega) h6;have a6:(xs.set i (FM y off v.cells)).length=ln xs:=by simp
 have W:∀(A:Nat) (O:AV),(xs.set i (FM y off v.cells))[A]? =some O->(A=i/\O=FM y off v.cells)\/(A≠i/\xs[A]? =some O):=by
  intro A O C;by_cases I:A=i
  .subst I;rw[zB7 hi]at C;exact .inl ⟨rfl,(zEg C).symm⟩
  .rw[zFy (λe=>I e.symm)]at C;exact .inr ⟨I,C⟩
 let f':Nat->Nat->Value:=λA j=>if A=i/\off<=j/\j<off+ti.size then(a.eval x).cells.getD (j-off) undef else f A j
 refine⟨bH β k (β k),xU.step HH k _ _ zV (λj hj V=>setRow_other w b j S (λe=>V (ln xs) Of)) Z Z Z (λb n L=> .inl ⟨n,L⟩) (λb n _=>kM U a3 b)
  (λe he=>by rw[hk']at he;cases he;exact .inr ⟨⟨_,_,rfl,by simp⟩,λ_ n L=>⟨n,zBb _,L⟩⟩) λE=>⟨g1,by simpa using g2,λ_=>by rw[yL,hbk];simp,λA O C=>?_,λR n' r B=>?_,f',λA O j u C G=>?_,λA j hi' hj=>?_,λR n' B=>?_⟩,.fz _ _ (.bot _)⟩
 .rcases W A O C with⟨_,rfl⟩|⟨_,h⟩
  .rw[au,cW];exact a5
  .exact g4 A O h
 .rw[yL,hbk]at B;simp at B;obtain⟨⟨rfl,rfl⟩,rfl⟩:=B;refine⟨by simp,λ_=>ac,λR n' L=>by have:=ac R n' L;simp;omega⟩
 .rcases W A O C with⟨rfl,rfl⟩|⟨I,h⟩
  .rw[au,XB _ _ _ _ (by omega)]at G;simp only[f',true_and];rw[h2]at G;split
   .rename_i hj;rw[zA5 hj]at G;exact⟨(hv _ u G).evo E,λV=>(a4 V _ u G).evo E.size E.fz⟩
   .rename_i hj;rw[Os hj]at G;exact⟨(g6 A y j u hy G).1.evo E,λV=>((g6 A y j u hy G).2 V).evo E.size E.fz⟩
  .simp only[f',I,false_and,zF5];exact⟨(g6 A O j u h G).1.evo E,λV=>((g6 A O j u h G).2 V).evo E.size E.fz⟩
 .simp only[f'];split
  .exact Y _ (by omega)
  .exact g7 A j (by simpa using hi') hj
 .have M:∀q,q<S.size->(S.getD q undef).oneCell'=true:=λq hq=>by
   rw[ag];split
   .exact Y _ (by omega)
   .exact e5 q (by omega)
  rw[yL,hbk]at B;simp at B
  rcases B with⟨rfl,rfl⟩|B
  case inr=>
   obtain rfl:=ac R n' B;by_cases ap:R=b
   .subst ap;exact⟨S,el,setRow_heap w _ _ _ _ _ U,by omega,λA j hi' _=>by omega,M⟩
   .obtain⟨c2,ax,q1,q2,_,q4⟩:=g8 R 0 (by rw[hbk];simp[B]);exact⟨c2,ax,(setRow_other w b R S ap).trans q1,q2,λA j hi' _=>by omega,q4⟩
  refine⟨S,el,setRow_heap w _ _ _ _ _ U,by omega,λA j hi' hj=>?_,M⟩
  have az:A*sz+j<S.size:=by
   have:=zBt sz (show A+1<=ln xs by omega);rw[zCi,zDh]at this;omega
  rw[jO S _ az,ag]
  congr 1
  have ar:(i*sz+off<=A*sz+j/\A*sz+j<i*sz+off+ti.size)↔(A=i/\off<=j/\j<off+ti.size):=by
   constructor
   .rintro⟨q1,q2⟩
    have I:A=i:=by
     rcases zFn A i with h|h|h
     .have:=zBt sz (show A+1<=i by omega);rw[zCi,zDh]at this;omega
     .exact h
     .have:=zBt sz (show i+1<=A by omega);rw[zCi,zDh]at this;omega
    subst I;exact⟨rfl,by omega,by omega⟩
   .rintro⟨rfl,q1,q2⟩;omega
  simp only[f',ar];split
  .rename_i hq;obtain⟨rfl,q1,q2⟩:=hq
   congr 1
   omega
  .exact eG (e4 A j hi' hj)
end ops
end
section
section ops
variable {P:Program} {TT:List TI} {st:St} (hP:uW P TT)
theorem AF {P:Program} {TT:List TI} (hP:uW P TT) {f o:Nat} (hT:TT[T]? =some ti) (hd:ti.d= .str fs) (E:fs[f]? =some (o,ft)) (w:World):
  ∃(A:Array Field) (B:Field),(underlying T).run P w= .ok (.struct A) w/\A[f]? =some B/\B.offset=o/\B.type=ft:=by
 obtain⟨u,I,C⟩:=wI (hP _ _ hT) w;obtain⟨A,rfl,G⟩:=Fc (C.trans hd)
 grind
theorem ZV {P:Program} {TT:List TI} (hP:uW P TT) {f o:Nat} (hT:TT[T]? =some ti) (hd:ti.d= .str fs) (M:fs[f]? =some (o,ft)) (C:TT[ft]? =some tf) (G:Nat.ble 1 tf.size=true) (w:World) (b q:Nat):
  (Instr.fieldAt T (.pointer (some ⟨b,q,none⟩)) f).run P w= .ok (.pointer (some ⟨b,q+o,none⟩)) w:=by
 obtain⟨B,R,h1,h2,I,L⟩:=AF hP hT hd M w;have O:=qN (hP _ _ C) w;have G:=zBo G;have E:¬tf.size=0:=by omega
 have A:(⟨b,q,none⟩:Addr).add o=⟨b,q+o,none⟩:=by unfold Addr.add;split<;>simp_all
 simp[Instr.fieldAt,h1,h2,Instr.sureAddr,fieldPlace,I,L,O,E,A]
theorem ZW (b q n:Nat):(⟨b,q,none⟩:Addr).add n=⟨b,q+n,none⟩:=by unfold Addr.add;split<;>simp_all
include hP in
def TC {f o:Nat} {cs:List AV} (S:yX (zK st.tm) x= .ptr k 0 off) (hk:zD st.h k=some (.box cs)) (hT:TT[T]? =some ti) (hd:ti.d= .str fs) (C:fs[f]? =some (o,ft))
 (G:TT[ft]? =some tf) (U:Nat.ble 1 tf.size=true):vA P st (.fieldAddr T x f) (.ptr k 0 (off+o)) [] [k] []:=
 yZ λV X tm h w β a I O R W L=>by
  obtain⟨d0,o0,y0,p0,f0,g0⟩:=V;dsimp only at I;subst I;have h1:=gZ L O (x:=x) uO S;have hk':=(R k zV).trans hk;have E:=λb=>ZV hP hT hd C G U w b off
  generalize M:a.eval x=Y at h1
  cases h1 with
  |fz _ _ C=>cases C
  |dptr _ _ _ _ hd _=>rw[hk']at hd;cases hd
  |parr _ _ _ _ _ _ _ _ hd _ _ _=>rw[hk']at hd;cases hd
  |pbox _ _ B b n A hb=>exact⟨_,by simp[execOp,M,E],.pbox k _ B b n A hb⟩
include hP in
def TE {f o:Nat} {xs:List AV} (S:yX (zK st.tm) x= .ptr k i off) (hk:zD st.h k=some (.arr sz xs sl)) (hT:TT[T]? =some ti) (hd:ti.d= .str fs) (C:fs[f]? =some (o,ft))
 (G:TT[ft]? =some tf) (U:Nat.ble 1 tf.size=true) (B:Nat.blt (off+o) sz=true):vA P st (.fieldAddr T x f) (.ptr k i (off+o)) [] [k] []:=
 yZ λV X tm h w β a I O R HH L=>by
  obtain⟨d0,o0,y0,p0,f0,g0⟩:=V;dsimp only at I;subst I;have h1:=gZ L O (x:=x) uO S;have hk':=(R k zV).trans hk;have E:=λb q=>ZV hP hT hd C G U w b q
  have B:off+o<sz:=zBo B;generalize M:a.eval x=cx at h1
  cases h1 with
  |fz _ _ C=>cases C
  |dptr _ _ _ _ hd _=>rw[hk']at hd;cases hd
  |pbox _ _ _ _ _ hd _=>rw[hk']at hd;cases hd
  |parr _ _ _ W Y st' b n A hb hi I=>
   have h2:=A;rw[hk']at h2;cases h2;exact⟨_,by simp[execOp,M,E];rfl,by rw[zGh];exact .parr k i (off+o) sz xs sl b n A hb hi B⟩
include hP in
def RJ {f o:Nat} {xs:List AV} {y:AV} (R:yX (zK st.tm) x= .fp xs i off) (S:xs[i]? =some y) (hT:TT[T]? =some ti) (hd:ti.d= .str fs) (B:fs[f]? =some (o,ft))
 (E:TT[ft]? =some tf) (U:Nat.ble 1 tf.size=true) (A:Nat.blt (off+o) (ln y.cells)=true):vA P st (.fieldAddr T x f) (.fp xs i (off+o)) [] [] []:=
 yZ λV X tm h w β a G M hr W I=>by
  obtain⟨d0,o0,y0,p0,f0,g0⟩:=V;dsimp only at G;subst G;have h1:=gZ I M (x:=x) uO R;have C:=λb q=>ZV hP hT hd B E U w b q
  have A:off+o<ln y.cells:=zBo A;generalize L:a.eval x=Y at h1
  cases h1 with
  | fz _ _ B=>
   cases B with
   |fp _ b q sz _ _ f hL hi G hh=>
    have O:=hL.wide i y S;exact⟨_,by simp[execOp,L,C];rfl,.fz _ _ (by rw[zGh];exact .fp xs b q sz i (off+o) f hL hi (by omega) hh)⟩
include hP in
def QH (hT:TT[T]? =some ti) (hd:ti.d= .slice e) (C:TT[e]? =some te) (w:World) (b q len cap:Nat) (k:IntKind) (i:Int) (B:0<=i) (hi:i<len):
  (Instr.indexAt T (.slice (some ⟨b,q,none⟩) len cap) (.int k i)).run P w= .ok (.pointer (some ⟨b,q+i.toNat*te.size,none⟩)) w:=by
 obtain⟨u,G,A⟩:=wI (hP _ _ hT) w;obtain rfl:=uE (A.trans hd);have E:=qN (hP _ _ C) w;simp[Instr.indexAt,asIntOf,G,B,hi,E,ZW]
include hP in
def RK {xs:List AV} {y:AV} {k:IntKind} {i:Int} (W:yX (zK st.tm) x= .sl nn xs) (hi:yX (zK st.tm) ix= .s (.int k i)) (hT:TT[T]? =some ti) (hd:ti.d= .slice e) (S:TT[e]? =some te)
 (R:0<=i) (M:xs[i.toNat]? =some y) (C:Nat.beq (ln y.cells) te.size=true) (O:Nat.ble 1 te.size=true):vA P st (.indexAddr T x ix) (.fp xs i.toNat 0) [] [] []:=
 yZ λY X tm h w β a L I hr HH G=>by
  obtain⟨d0,o0,y0,p0,f0,g0⟩:=Y;dsimp only at L;subst L;have h1:=gZ G I (x:=x) uO W;have h2:=vS G I (x:=ix) uO hi;have C:=zBz C;have O:=zBo O;have A:i.toNat<ln xs:=(zBw.1 M).1;generalize B:a.eval x=cx at h1
  cases h1 with
  | fz _ _ U=>
   cases U with
   |nil a cap=>simp at A
   |nil1 a cap=>simp at A
   |sl _ _ b o sz cap f V hL hc hh=>
    have E:=hL.wide _ y M;refine⟨_,by simp only[execOp,B,h2,Sem.run_bind,QH hP hT hd S w b o (ln xs) cap k i R (by omega),Result.andThen_ok,Sem.run_pure];rfl,.fz _ _ ?_⟩;have:=xM.fp xs b o sz i.toNat 0 f hL A (by omega) hh
    rwa [zDw,<-E,C]at this
include hP in
def TF {A:Nat} {xs:List AV} {k:IntKind} {i:Int} (Y:yX (zK st.tm) x= .ref A off len) (hi:yX (zK st.tm) ix= .s (.int k i)) (hk:zD st.h A=some (.arr sz xs sl)) (hT:TT[T]? =some ti) (hd:ti.d= .slice e) (S:TT[e]? =some te)
 (R:0<=i) (hl:i<len) (E:Nat.beq sz te.size=true):vA P st (.indexAddr T x ix) (.ptr A (off+i.toNat) 0) [] [A] []:=
 yZ λoo X tm h w β a M L V O G=>by
  obtain⟨d0,o0,y0,p0,f0,g0⟩:=oo;dsimp only at M;subst M;have h1:=gZ G L (x:=x) uO Y;have h2:=vS G L (x:=ix) uO hi;have hk':=(V A zV).trans hk;have E:=zBz E;have hp:=(O.ent A _ hk').1;generalize C:a.eval x=cx at h1
  cases h1 with
  |fz _ _ U=>cases U
  |dref _ _ _ _ hd _=>rw[hk']at hd;cases hd
  |ref0 _ _ _ _ _ _ _ _=>simp at hl;omega
  |ref _ _ _ ac ag st' b n cap B hb hn hc W=>
   have I:=B;rw[hk']at I;cases I;refine⟨_,by simp only[execOp,C,h2,Sem.run_bind,QH hP hT hd S w b _ len cap k i R hl,Result.andThen_ok,Sem.run_pure];rfl,?_⟩;have:=yK.parr (w:=w) (D:=xT X β) A (off+i.toNat) 0 sz xs sl b n B hb (by omega) (by omega);rw[zCi,zDw]at this;rw[<-E];exact this
include hP in
def TG {A:Nat} {cs:List AV} {k:IntKind} {i:Int} (Y:yX (zK st.tm) x= .ptr A 0 off) (hi:yX (zK st.tm) ix= .s (.int k i)) (hk:zD st.h A=some (.box cs)) (hT:TT[T]? =some ti) (hd:ti.d= .arr n e) (R:TT[e]? =some te)
 (O:0<=i) (hl:i<n):vA P st (.indexAddr T x ix) (.ptr A 0 (off+i.toNat*te.size)) [] [A] []:=
 yZ λoo X tm h w β a M L U HH I=>by
  obtain⟨d0,o0,y0,p0,f0,g0⟩:=oo;dsimp only at M;subst M;have h1:=gZ I L (x:=x) uO Y;have h2:=vS I L (x:=ix) uO hi;have hk':=(U A zV).trans hk;obtain⟨u,W,E⟩:=wI (hP _ _ hT) w;obtain rfl:=mn (E.trans hd);have V:=qN (hP _ _ R) w;generalize G:a.eval x=cx at h1
  cases h1 with
  |fz _ _ S=>cases S
  |dptr _ _ _ _ hd _=>rw[hk']at hd;cases hd
  |parr _ _ _ _ _ _ _ _ hd _ _ _=>rw[hk']at hd;cases hd
  |pbox _ _ C b q B hb=>
   exact⟨.pointer (some ⟨b,off+i.toNat*te.size,none⟩),by simp[execOp,Instr.indexAt,asIntOf,W,Instr.sureAddr,O,hl,V,ZW,G,h2],.pbox A _ C b q B hb⟩
theorem Wn {P:Program} {TT:List TI} (hP:uW P TT) (hT:TT[T]? =some ti) {cs:List AV} (hv:yK w D h β (.agg cs) c) {v:AV} (hl:Yb ti.d.agg ti.size cs off=some v):
  ∃(A:Array Value) (u:Value),c= .agg A/\(part T A off).run P w= .ok u w/\yK w D h β v u:=by
 obtain⟨h1,h2,E⟩:=hv.cells Z;have G:=FB (hP _ _ hT) w;have O:=qN (hP _ _ hT) w
 obtain⟨A,rfl⟩:∃A,c= .agg A:=by
  cases hv with
  |fz _ _ M=>cases M with|agg _ c=>exact⟨c,rfl⟩
  |agg _ c=>exact⟨c,rfl⟩
 simp only[Value.cells,AV.cells]at h1 h2 E;unfold Yb at hl
 cases hb:ti.d.agg with
 |false=>
  simp only[hb,zC7]at hl;have C:off<A.size:=by rw[h1];exact(zBw.1 hl).1
  exact⟨A,A.getD off undef,rfl,by simp only[part,Sem.run_bind,G,hb,Result.andThen_ok,jO A off C,zGa,zF5,Sem.run_pure],E _ _ hl⟩
 | true=>
  simp only[hb,zCm]at hl
  cases B:Nat.ble (off+ti.size) (ln cs) with
  |false=>simp[B]at hl
  | true=>
   have I:=zBo B;simp only[B,zCm,zCu]at hl;subst hl
   have L:∀i,i<ti.size->(A.extract off (off+ti.size)).getD i undef=A.getD (off+i) undef:=λi hi=>by
    apply eG;rw[Array.getElem?_extract];rw[zA5 (by omega)];exact jO A _ (by omega)
   refine⟨A,.agg (A.extract off (off+ti.size)),rfl,by simp only[part,Sem.run_bind,G,hb,Result.andThen_ok,zE8,O,Sem.run_pure],.agg _ _ qD (λi hi=>?_) λi u R=>?_⟩
   all_goals grind
def Bh (hP:uW P TT) {f o:Nat} {cs:List AV} {v:AV} (S:yX (zK st.tm) x= .agg cs) (hT:TT[T]? =some ti) (hd:ti.d= .str fs) (M:fs[f]? =some (o,ft))
 (B:TT[ft]? =some tf) (hv:Yb tf.d.agg tf.size cs o=some v):vA P st (.field T x f) v [] [] []:=
 yZ λU X tm h w β a C O E V G=>by
  obtain⟨d0,o0,y0,p0,Y,g0⟩:=U;dsimp only at C;subst C;have h1:=gZ G O (x:=x) uO S;obtain⟨A,fd,e1,I,e3,L⟩:=AF hP hT hd M w;obtain⟨W,u,hc,E,R⟩:=Wn hP B h1 hv;exact⟨u,by simp[execOp,hc,Instr.field,e1,I,asAgg,e3,L,E],R⟩
def RL {cs:List AV} (I:yX (zK st.tm) x= .ptr k 0 off) (hk:zD st.h k=some (.box cs)):vA P st (.nilCheck x) (.ptr k 0 off) [] [k] []:=
 yZ λL X S h w β a A E G B C=>by
  obtain⟨d0,o0,U,R,M,O⟩:=L;dsimp only at A;subst A;have h1:=gZ C E (x:=x) uO I;have hk':=(G k zV).trans hk;obtain⟨b,hc,_,_⟩:=OD B hk' h1;rw[hc]at h1;exact⟨_,by simp[execOp,hc],h1⟩
def bV {xs:List AV} {y:AV} (I:yX (zK st.tm) x= .ptr k i off) (hk:zD st.h k=some (.arr sz xs sl)) (L:xs[i]? =some y):vA P st (.nilCheck x) (.ptr k i off) [] [k] []:=
 yZ λM X U h w β a A E G B C=>by
  obtain⟨d0,o0,V,S,O,R⟩:=M;dsimp only at A;subst A;have h1:=gZ C E (x:=x) uO I;have hk':=(G k zV).trans hk;obtain⟨b,n,hc,_,_,_,_⟩:=Lf B hk' L h1;rw[hc]at h1;exact⟨_,by simp[execOp,hc],h1⟩
def Bc (hP:uW P TT) {xs:List AV} (L:yX (zK st.tm) x= .sl nn xs) (hT:TT[T]? =some ti) (hd:ti.d= .slice e):
  vA P st (.call ⟨.builtin .len, #[x], #[T]⟩) (.s (.int .i64 (ln xs))) [] [] []:=
 yZ λM X Y h w β a B G V O C=>by
  obtain⟨d0,o0,y0,W,S,U⟩:=M;dsimp only at B;subst B;have h1:=gZ C G (x:=x) kS L;obtain⟨u,I,A⟩:=wI (hP _ _ hT) w;obtain rfl:=uE (A.trans hd)
  obtain⟨b,cap,hc⟩:∃b cap,a.eval x= .slice b (ln xs) cap:=by
   generalize a.eval x=R at h1
   cases h1 with
   |fz _ _ E=>cases E<;>exact⟨_,_,rfl⟩
  exact⟨_,by simp[execOp,resolve,invoke,builtin,Builtin.len_,hc,I,goInt],.fz _ _ (.s _)⟩
def AG (hP:uW P TT) {xs:List AV} (M:yX (zK st.tm) x= .ref k off len) (hk:zD st.h k=some (.arr sz xs sl)) (hT:TT[T]? =some ti) (hd:ti.d= .slice e):
  vA P st (.call ⟨.builtin .len, #[x], #[T]⟩) (.s (.int .i64 len)) [] [k] []:=
 yZ λO X Y h w β a B G I R C=>by
  obtain⟨d0,o0,y0,W,U,V⟩:=O;dsimp only at B;subst B;have h1:=gZ C G (x:=x) kS M;have hk':=(I k zV).trans hk;obtain⟨u,L,A⟩:=wI (hP _ _ hT) w;obtain rfl:=uE (A.trans hd)
  obtain⟨b,cap,hc⟩:∃b cap,a.eval x= .slice b len cap:=by
   generalize a.eval x=S at h1
   cases h1 with
   |fz _ _ E=>cases E
   |dref _ _ _ _ hd _=>rw[hk']at hd;cases hd
   |ref0 _ _ _ _ _ _ _ _=>exact⟨_,_,rfl⟩
   |ref _ _ _ _ _ _ _ _ _ _ _ _ _ _=>exact⟨_,_,rfl⟩
  exact⟨_,by simp[execOp,resolve,invoke,builtin,Builtin.len_,hc,L,goInt],.fz _ _ (.s _)⟩
def AH (hP:uW P TT) {b:Option Addr} {cap:Nat} (I:yX (zK st.tm) x= .s (.slice b n cap)) (hT:TT[T]? =some ti) (hd:ti.d= .slice e):
  vA P st (.call ⟨.builtin .len, #[x], #[T]⟩) (.s (.int .i64 n)) [] [] []:=
 yZ λL X V h w β a B E S M C=>by
  obtain⟨d0,o0,W,U,O,R⟩:=L;dsimp only at B;subst B;have hc:=vS C E (x:=x) kS I;obtain⟨u,G,A⟩:=wI (hP _ _ hT) w;obtain rfl:=uE (A.trans hd);exact⟨_,by simp[execOp,resolve,invoke,builtin,Builtin.len_,hc,G,goInt],.fz _ _ (.s _)⟩
def Bd (st:St) (o:Option Operand) (A n:Nat):Prop:=match o with
 |none=>n=A
 |some x=>∃k i,yX (zK st.tm) x= .s (.int k i)/\i=(n:Int)
def fQ {P:Program} {st:St} {op:Op} {I:Nat->AV} (H:∀t,yK w D h β (I t) (a.eval (.tmp t))) (G:∀t,t∈fO op->I t=zK st.tm t) 
 (h1:∀x,lo=some x->x∈op.operands) (h2:∀x,hi=some x->x∈op.operands) {cap l:Nat} (hl:Bd st lo 0 l) (A:Bd st hi len r) (B:l<=r) (C:r<=cap) (b:Bool):
  (Instr.sliceBounds b len cap (lo.map a.eval) (hi.map a.eval) none).run P w= .ok (l,r,cap) w:=by
 unfold Instr.sliceBounds
 cases lo with
 | none=>
  simp only[Bd]at hl;subst hl
  cases hi with
  |none=>simp only[Bd]at A;subst A;simp
  |some y=>
   obtain⟨k,i,e1,rfl⟩:=A;have E:=vS H G (h2 y Z) e1;simp[Instr.sliceBound,E,asIntOf,C]
 | some x=>
  obtain⟨k,i,e1,rfl⟩:=hl;have E:=vS H G (h1 x Z) e1
  cases hi with
  |none=>simp only[Bd]at A;subst A;simp[Instr.sliceBound,E,asIntOf,B]
  |some y=>
   obtain⟨O,M,e3,rfl⟩:=A;have L:=vS H G (h2 y Z) e3;simp[Instr.sliceBound,E,L,asIntOf,B,C]
theorem aR (hP:uW P TT) {xs:List AV} (hx:yX (zK st.tm) x= .sl nn xs) (hT:TT[T]? =some ti) (hd:ti.d= .slice e) (he:TT[e]? =some te)
 (hl:Bd st lo 0 l) (hr:Bd st hi (ln xs) r) (V:l<=r) (C:r<=ln xs) (W:∀y,xs[0]? =some y->ln y.cells=te.size):vA P st (.slice T x lo hi none) (.sl nn ((xs.drop l).take (r-l))) [] [] []:=
 yZ λoo X tm h w β a ho hg _ HH Y=>by
  obtain⟨d0,o0,y0,p0,f0,g0⟩:=oo;dsimp only at ho;subst ho;have h1:=gZ Y hg (x:=x) uO hx;obtain⟨u,hu,U⟩:=wI (hP _ _ hT) w;obtain rfl:=uE (U.trans hd);have hs:=qN (hP _ _ he) w
  obtain⟨b,cap,hc,G⟩:∃b cap,a.eval x= .slice b (ln xs) cap/\xs.length<=cap:=by
   generalize a.eval x=cx at h1
   cases h1 with
   |fz _ _ I=>
    cases I with
    |nil a cap=>exact⟨_,_,rfl,by simp⟩
    |nil1 a cap=>exact⟨_,_,rfl,by simp⟩
    |sl _ _ b o sz cap f L hL hc hh=>exact⟨_,_,rfl,hc⟩
  have hb:=fQ (P:=P) Y hg (lo:=lo) (hi:=hi) (λy B=>by subst B;simp[Op.operands]) (λy B=>by subst B;simp[Op.operands]) hl hr V (zCa C G) true
  have R:(execOp a.eval ⟨d0,.slice T x lo hi none,y0,p0,f0,g0⟩).run P w= .ok (.value (.slice (if cap=l then b else b.map (·.add (l*te.size))) (r-l) (cap-l))) w:=by
   simp only[execOp,Instr.sliceAt,Instr.slice,Sem.run_bind,hu,Result.andThen_ok,hc,zD9,hb,hs,Sem.run_pure]
  refine⟨_,R,.fz _ _ ?_⟩;rw[hc]at h1;have A:((xs.drop l).take (r-l)).length=r-l:=by simp;omega
  by_cases hz:r-l=0
  .have O:(xs.drop l).take (r-l)=[]:=zB5 (by omega);rw[O,hz]
   cases nn with
   |false=>exact .nil _ _
   | true=>
    cases h1 with
    |fz _ _ I=>
     cases I with
     |nil1 a cap=>split<;>exact .nil1 _ _
     |sl _ _ b o sz cap f L hL hc hh=>split<;>exact .nil1 _ _
  .cases h1 with
   | fz _ _ I=>
    cases I with
    |nil a cap=>simp at C;omega
    |nil1 a cap=>simp at C;omega
    | sl _ _ b o sz cap f L hL hc hh=>
     have M:¬cap=l:=by omega
     have S:te.size=sz:=by
      obtain⟨y,B⟩:∃y,xs[0]? =some y:=⟨xs[0]'(by omega),by simp⟩;rw[<-W y B,hL.wide 0 y B]
     have E:∀(i:Nat) y,((xs.drop l).take (r-l))[i]? =some y->xs[l+i]? =some y:=λi y B=>by
      rw[zCv]at B;split at B
      .rwa [zDe]at B
      .cases B
     rw[Os M,zC0,ZW,S]
     have:=xM.sl (w:=w) (D:=xT X β) nn ((xs.drop l).take (r-l)) b (o+l*sz) sz (cap-l) (λi j=>f (l+i) j) (λh0=>hz (by rw[<-A,h0];rfl))
      ⟨hL.lt,hL.nd,hL.pos,by rw[A];exact zCa (Nat.sub_le _ _) (zCa C hL.max),λi y B=>hL.wide _ y (E i y B),λi j hi hj=>by
       rw[A]at hi;have:=hL.cell (l+i) j (by omega) hj
       rwa [zCi,<-zGh]at this,λi j hi hj=>hL.one _ _ (by rw[A]at hi;omega) hj⟩ (by omega) (λi y j v B hv=>hh _ y j v (E i y B) hv)
     rwa [A]at this
def bI (hP:uW P TT) {xs:List AV} (hx:yX (zK st.tm) x= .ref k off len) (hk:zD st.h k=some (.arr sz xs sl)) (hT:TT[T]? =some ti) (hd:ti.d= .slice e) (he:TT[e]? =some te)
 (hl:Bd st lo 0 l) (hr:Bd st hi len r) (R:l<=r) (V:r<=len) (C:Nat.beq sz te.size=true):vA P st (.slice T x lo hi none) (.ref k (off+l) (r-l)) [] [k] []:=
 yZ λoo X tm h w β a ho hg U HH Ht=>by
  obtain⟨d0,o0,y0,p0,f0,g0⟩:=oo;dsimp only at ho;subst ho;have h1:=gZ Ht hg (x:=x) uO hx;have hk':=(U k zV).trans hk;have C:=zBz C;obtain⟨u,hu,O⟩:=wI (hP _ _ hT) w;obtain rfl:=uE (O.trans hd);have hs:=qN (hP _ _ he) w;have hE:=HH.ent k _ hk';generalize M:a.eval x=cx at h1
  have B:∀b cap,cx= .slice b len cap->len<=cap->(execOp a.eval ⟨d0,.slice T x lo hi none,y0,p0,f0,g0⟩).run P w= .ok (.value (.slice (if cap=l then b else b.map (·.add (l*te.size))) (r-l) (cap-l))) w:=by
   intro b cap hc E;have hb:=fQ (P:=P) Ht hg (lo:=lo) (hi:=hi) (λy Y=>by subst Y;simp[Op.operands]) (λy Y=>by subst Y;simp[Op.operands]) hl hr R (zCa V E) true;simp only[execOp,Instr.sliceAt,Instr.slice,Sem.run_bind,hu,Result.andThen_ok,M,hc,zD9,hb,hs,Sem.run_pure]
  cases h1 with
  |fz _ _ hf=>cases hf
  |dref _ _ _ _ hd _=>rw[hk']at hd;cases hd
  |ref0 _ _ I L st' b A hn=>
   have S:=B b 0 Z (zBb _);obtain rfl:r=0:=by omega
   obtain rfl:l=0:=by omega
   exact⟨_,S,.ref0 k off I L st' _ A hn⟩
  | ref _ _ _ I L st' b n cap A hb hn hc W=>
   have S:=B _ cap Z hc;have h3:=A;rw[hk']at h3;cases h3;refine⟨_,S,?_⟩;obtain⟨_,_,_,_,g5,_⟩:=hE
   have ac:n<=ln xs:=by
    cases hbk:β k with
    |nil=>rw[hbk]at hb;simp at hb
    |cons q rr=>
     obtain⟨b0,n0⟩:=q;obtain⟨e1,_,e3⟩:=g5 b0 n0 rr hbk;rw[hbk]at hb;simp at hb
     rcases hb with⟨_,rfl⟩|hb
     .omega
     .exact zFk (e3 b n hb)
   by_cases G:cap=l
   .obtain rfl:r=l:=by omega
    rw[zA5 G,show r-r=0 by omega,show cap-r=0 by omega];exact .ref0 k _ sz xs sl _ A (by omega)
   .rw[Os G,zC0,ZW,<-C,<-zCi];exact .ref k (off+l) (r-l) sz xs sl b n (cap-l) A hb (by omega) (by omega) (by rw[show off+l+(cap-l)=off+cap by omega];exact W)
end ops
end
section
def TH (ne:Bool) (h:yT):AV->Option (List AV)
 | .sl _ ys=>some ys
 | .s v=>match v with
  | .slice none 0 0=>some []
  |_=>none
 | .ref k off len=>match h k with
  |some (.arr _ xs fl)=>bif fl.nest&& !ne then none else some ((xs.drop off).take len)
  |_=>none
 |_=>none
abbrev AI (h:yT):AV->Option (List AV):=TH false h
def OE:AV->List Nat
 | .ref k _ _=>[k]
 |_=>[]
structure Z3 (w:World) (D:Nat->Prop) (h:yT) (β:uP) (ne:Bool) (ys:List AV) (sz:Nat) (b o:Nat) (f:Nat->Nat->Value):Prop where
 wide:∀(i:Nat) (y:AV),ys[i]? =some y->y.cells.length=sz
 cell:∀i j,i<ys.length->j<sz->w.cell? ⟨b,o+i*sz+j,none⟩=some (f i j)
 one:∀i j,i<ys.length->j<sz->(f i j).oneCell'=true
 rep:gH w D h β ne ys f
theorem cX (H:jM X h β w) {x:AV} (hv:yK w (xT X β) h β x c) {ys:List AV} (C:TH ne h x=some ys) (L:∀y,ys[0]? =some y->ln y.cells=sz):
  ∃a cap,c= .slice a (ln ys) cap/\ys.length<=cap/\ys.length<=cF/\(ys≠[]->∃b o f,a=some ⟨b,o,none⟩/\Z3 w (xT X β) h β ne ys sz b o f):=by
 cases hv with
 | fz _ _ hf=>
  cases hf with
  |s v=>
   simp only[TH]at C
   grind
  |nil a cap=>cases C;exact⟨a,cap,rfl,by simp,by simp,λh=>absurd Z h⟩
  |nil1 a cap=>cases C;exact⟨some a,cap,rfl,by simp,by simp,λh=>absurd Z h⟩
  | sl nn xs b o A cap f G hL hc hh=>
   cases C
   have U:A=sz:=by
    obtain⟨y,B⟩:∃y,ys[0]? =some y:=by cases ys with|nil=>exact absurd Z G|cons y _=>exact⟨y,rfl⟩
    rw[<-L y B,hL.wide 0 y B]
   subst U;exact⟨_,cap,rfl,hc,hL.max,λ_=>⟨b,o,f,rfl,hL.wide,hL.cell,hL.one,.ofF hh⟩⟩
  |_=>cases C
 | ref k off len A xs st b n cap hk hb M hc U=>
  simp only[TH,hk]at C
  obtain⟨I,C⟩:(ne=false->st.nest=false)/\some ((xs.drop off).take len)=some ys:=by
   grind
  obtain rfl:=zEg C;obtain⟨g1,g2,g3,R,g5,f,S,V,W⟩:=H.ent k _ hk
  have ag:n<=ln xs:=by
   cases hbk:β k with
   |nil=>rw[hbk]at hb;simp at hb
   |cons q rr=>
    grind
  have hl:((xs.drop off).take len).length=len:=by simp;omega
  have E:∀(i:Nat) y,((xs.drop off).take len)[i]? =some y->xs[off+i]? =some y:=λi y B=>by
   rw[zCv]at B;split at B
   .rwa [zDe]at B
   .cases B
  refine⟨_,cap,by rw[hl],by rw[hl];exact hc,by omega,λG=>?_⟩
  have O:A=sz:=by
   obtain⟨y,B⟩:∃y,((xs.drop off).take len)[0]? =some y:=by
    cases Y:(xs.drop off).take len with|nil=>exact absurd Y G|cons y _=>exact⟨y,rfl⟩
   rw[<-L y B,R _ y (E 0 y B)]
  subst O;obtain⟨c,el,e1,e2,e3,_⟩:=W b n hb;refine⟨b,off*A,λi j=>f (off+i) j,rfl,λi y B=>R _ y (E i y B),λi j hi hj=>?_,λi j hi hj=>V _ _ Nf hj,λi y j v B hv=>⟨S.toV _ y j v (E i y B) hv,λM=>S.toF (I M) _ y j v (E i y B) hv⟩⟩;rw[hl]at hi;rw[uU e1,show off*A+i*A+j=(off+i)*A+j by rw[zCi]];exact e3 _ _ (by omega) hj
 | ref0 k off A xs st a hk M=>
  simp only[TH,hk,zEm]at C
  obtain rfl: []=ys:=by
   cases ac:st.nest<;>cases ne<;>simp_all
  exact⟨a,0,rfl,by simp,by simp,λh=>absurd Z h⟩
 |dref _ _ _ _ hk _=>simp[TH,hk]at C
 |_=>simp[TH]at C
def flat (f:Nat->Nat->Value) (n sz:Nat):List Value:=(pi (n*sz)).map λq=>f (q/sz) (q % sz)
def zZ (f:Nat->Nat->Value) (n sz:Nat):(flat f n sz).length=n*sz:=by simp[flat]
def FN (f:Nat->Nat->Value) {q:Nat} (h:q<n*sz):(flat f n sz)[q]? =some (f (q/sz) (q % sz)):=by simp[flat,h]
theorem kT (f:Nat->Nat->Value) (hi:i<n) (hj:j<sz):(flat f n sz)[i*sz+j]? =some (f i j):=by
 have h1:i*sz+j<n*sz:=by
  have:=zBt sz (show i+1<=n by omega)
  grind
 rw[FN f h1];have h2:(i*sz+j)/sz=i:=Nat.div_eq_of_lt_le (by omega) (by rw[zCi,zDh];omega)
 grind [flat,Nat.mul_comm,Nat.mul_add_mod,Nat.mod_eq_of_lt]
theorem Z3.flat {ys:List AV} (C:Z3 w D h β ne ys sz b o f) (G:1<=sz):
  (∀j u,(Av.flat f (ln ys) sz)[j]? =some u->w.cell? ((⟨b,o,none⟩:Addr).add j)=some u)/\∀u∈Av.flat f (ln ys) sz,u.oneCell'=true:=by
 have B:∀j,j<ln ys*sz->j/sz<ln ys/\j % sz<sz/\j/sz*sz+j % sz=j:=λj hj=>
  ⟨(Nat.div_lt_iff_lt_mul (by omega)).2 hj,zGu _ (by omega),by rw[zE7];exact Nat.div_add_mod j sz⟩
 refine⟨λj u A=>?_,λu A=>?_⟩
 .have hj:j<ln ys*sz:=by rw[<-zZ f (ln ys) sz];exact(zBw.1 A).1
  rw[FN f hj]at A;cases A;obtain⟨h1,h2,E⟩:=B j hj;have:=C.cell _ _ h1 h2;rw[ZW]
  grind
 .obtain⟨j,A⟩:=zEo A;have hj:j<ln ys*sz:=by rw[<-zZ f (ln ys) sz];exact(zBw.1 A).1
  rw[FN f hj]at A;cases A;obtain⟨h1,h2,_⟩:=B j hj;exact C.one _ _ h1 h2
section runs
variable {P:Program} {TT:List TI} (hP:uW P TT) {T e:Nat} {ti te:TI} (hT:TT[T]? =some ti) (hd:ti.d= .slice e) (he:TT[e]? =some te) (w:World)
include hP hT hd he
theorem vB:∃(i:TypeInfo) (z:Value),P.underlying T=some (.slice e)/\P.info? e=some i/\i.zero=some z/\i.size=te.size/\i.bytes=te.bytes/\z.cells.toList=te.zero:=by
 obtain⟨_,u,_,_,E,_,A,_⟩:=vR (hP _ _ hT);obtain rfl:=uE (A.symm.trans hd);obtain⟨i,_,z,hi,_,G,_,C,hb,B⟩:=vR (hP _ _ he)
 grind
def gF (ty:Nat) (b B:Option Addr) (n cap A:Nat) (hc:n<=cap):(Builtin.append_ #[T,T] ty #[.slice b n cap,.slice B 0 A]).run P w= .ok (.slice b n cap) w:=by
 obtain⟨i,z,C,hi,E,_⟩:=vB hP hT hd he
 have h1:(Builtin.firstCells i.size 0 (.slice B 0 A)).run P w= .ok #[] w:=by
  cases B with
  |none=>rfl
  |some a=>simp only[Builtin.firstCells,loadCells,zEp,loadCellsFrom];rfl
 cases b with
 |none=>simp[Builtin.append_,run_underlying C,sizeOf,typeInfo,hi,Builtin.lenOf,hc,h1]
 |some a=>simp[Builtin.append_,run_underlying C,sizeOf,typeInfo,hi,Builtin.lenOf,hc,h1,storeCells]
def bJ (ty:Nat) (g o n cap:Nat) (A:Array Value) (el:Nat) (L:w.heap[g]? =some (.cells A el (0,0))) (a:Addr) (m c:Nat) (news:List Value) (hl:ln news=m*te.size)
  (C:∀j u,news[j]? =some u->w.cell? (a.add j)=some u) (h1:∀u∈news,u.oneCell'=true) (E:n+m<=cap) (B:o+n*te.size+ln news<=A.size):
  (Builtin.append_ #[T,T] ty #[.slice (some ⟨g,o,none⟩) n cap,.slice (some a) m c]).run P w=
   .ok (.slice (some ⟨g,o,none⟩) (n+m) cap) (w.setRow g (A.toList.take (o+n*te.size)++news++A.toList.drop (o+n*te.size+ln news)).toArray):=by
 obtain⟨i,z,O,hi,R,M,_⟩:=vB hP hT hd he;rw[<-M]at hl B⊢;have I:=run_firstCells_some (P:=P) w i.size m a m c news hl C;have G:=run_storeCells_at P g (o+n*i.size) el news 0 A w L (by simpa using B) h1;simp only[zDw]at G;simp[Builtin.append_,run_underlying O,sizeOf,typeInfo,hi,Builtin.lenOf,E,I,ZW,G]
end runs
section ops
variable {P:Program} {TT:List TI} {st:St}
def fS {x:AV} (H:∀k,k∈OE x->h k=h' k):TH ne h x=TH ne h' x:=by
 cases x with
 |ref k off len=>simp only[TH];rw[H k (by simp[OE])]
 |_=>rfl
theorem ZX (hP:uW P TT) {xv:AV} {ys:List AV} (kn:Nat) (hs:yX (zK st.tm) s= .s (.slice none 0 0)) (hx:yX (zK st.tm) x=xv) (hT:TT[T]? =some ti) (hd:ti.d= .slice e) (L:TT[e]? =some te)
 (av:AI (zD st.h) xv=some ys) (au:∀y,ys[0]? =some y->ln y.cells=te.size) (R:Nat.ble 1 te.size=true) (hb:Nat.ble te.bytes 65536=true) (hz:Nat.beq (ln te.zero) te.size=true) (ax:te.zero.all (·.oneCell')=true) (hn:ln ys<=1073741824):
  vA P st (.call ⟨.builtin .append, #[s,x], #[T,T]⟩) (.ref kn 0 (ln ys)) [(kn,.arr te.size ys false)] (OE xv) [kn]:=by
 refine⟨?_⟩;intro X tm h hg hr ar o a w β ho I Ht;obtain⟨d0,o0,y0,p0,f0,g0⟩:=o;dsimp only at ho;subst ho;have M:=ar kn zV;have h1:=vS Ht hg (x:=s) kS hs;have h2:=gZ Ht hg (x:=x) kS hx;have R:=zBo R;have hb:=zBo hb;obtain⟨ad,cap,hc,_,C,V⟩:=cX I h2 ((fS hr).trans av) au;obtain⟨i,z,hu,hi,a1,e1,e2,e3⟩:=vB hP hT hd L;have hz:=zBz hz
 have O:∀{v w'},(Builtin.append_ #[T,T] y0 #[.slice none 0 0,a.eval x]).run P w= .ok v w'->(execOp a.eval ⟨d0,.call ⟨.builtin .append, #[s,x], #[T,T]⟩,y0,p0,f0,g0⟩).run P w= .ok (.value v) w':=λhv=>by
  simp[execOp,resolve,invoke,builtin,h1,hv]
 by_cases A:ys=[]
 .subst A;rw[O (by rw[hc];exact gF hP hT hd L w y0 none ad 0 0 cap (zBb _))]
  refine⟨bH β kn [],xU.step I kn _ _ (zBb _) (λ_ _ _=>rfl) Z Z Z (λb n hm=>by simp at hm) (λ_ _ _=>rfl) (λe L=>by rw[M]at L;cases L) (λE=>⟨R,by simp,λh=>absurd Z h,λi y W=>by simp at W,
   λb n r hr=>by rw[yL]at hr;simp at hr,λ_ _=>undef,λi y j v W _=>by simp at W,λi j hi _=>by simp at hi,λb n hm=>by rw[yL]at hm;simp at hm⟩),.ref0 kn 0 _ _ _ _ (qV _ _ _) zV⟩
 .obtain⟨b,q,f,rfl,Y⟩:=V A
  have S:0<ln ys:=by cases ys with|nil=>exact absurd Z A|cons _ _=>simp
  obtain⟨ac,ag⟩:=Y.flat R
  have B:ln ys*i.bytes<=281474976710656:=by
   have:=zDx hn (show i.bytes<=65536 by omega);omega
  have U:=run_append_nil (P:=P) w T y0 e i z hu hi a1 ⟨b,q,none⟩ (ln ys) cap (flat f (ln ys) te.size) (by rw[zZ,e1]) ac S (by unfold cF at C;omega) B;rw[O (by rw[hc];exact U)];have HD:=I.drew (w.drawn+1);have az:z.cells.size=ln te.zero:=by rw[<-e3];simp
  have ap:=grownCap_ge w (ln ys) 0 e
  obtain⟨β',G,hv⟩:=xU.newArr HD M ((flat f (ln ys) te.size).toArray++Builtin.zeroCells z.cells (grownCap w (ln ys) 0 e-ys.length)) e te.size ys (grownCap w (ln ys) 0 e) f R C ap (by
    simp only[zFm,zD6,zZ,size_zeroCells,az,hz,<-zCi]
    congr 1;omega) (kE.get ((kE.arr ag).app (kE.zero (λv hv=>zBk.1 ax v MN) _))) Y.wide
   (λi j hi hj=>by
    rw[zC8 (by simp[zZ];have:=zBt te.size (show i+1<=ln ys by omega);rw[zCi,zDh]at this;omega)]
    simpa using kT f hi hj) Y.one (λi y j v W hv=>xM.evo (w:=w) (w':={w with drawn:=w.drawn+1}) (zBb _) (λ_ _ hd=>⟨rfl,hd⟩) (Y.rep.toF Z i y j v W hv))
  exact⟨β',xU.trans I (xU.drew I (w.drawn+1)) G,hv⟩
def PA (hP:uW P TT) {xv:AV} {ys:List AV} (hs:yX (zK st.tm) s= .s (.slice none 0 0)) (hx:yX (zK st.tm) x=xv) (hT:TT[T]? =some ti) (hd:ti.d= .slice e) (he:TT[e]? =some te)
 (ac:AI (zD st.h) xv=some ys) (Y:∀y,ys[0]? =some y->ln y.cells=te.size) (S:Nat.ble 1 te.size=true) (hb:Nat.ble te.bytes 65536=true) (hz:Nat.beq (ln te.zero) te.size=true) (hn:ln ys<=1073741824):
  vA P st (.call ⟨.builtin .append, #[s,x], #[T,T]⟩) (.sl false ys) [] (OE xv) []:=by
 refine⟨?_⟩;intro X tm h hg hr _ o a w β ho E Ht;obtain⟨d0,o0,U,p0,f0,g0⟩:=o;dsimp only at ho;subst ho;have h1:=vS Ht hg (x:=s) kS hs;have h2:=gZ Ht hg (x:=x) kS hx;have S:=zBo S;have hb:=zBo hb;obtain⟨ad,cap,hc,_,C,O⟩:=cX E h2 ((fS hr).trans ac) Y;obtain⟨i,z,hu,hi,ag,e1,e2,e3⟩:=vB hP hT hd he;have hz:=zBz hz
 have I:∀{v w'},(Builtin.append_ #[T,T] U #[.slice none 0 0,a.eval x]).run P w= .ok v w'->(execOp a.eval ⟨d0,.call ⟨.builtin .append, #[s,x], #[T,T]⟩,U,p0,f0,g0⟩).run P w= .ok (.value v) w':=λhv=>by
  simp[execOp,resolve,invoke,builtin,h1,hv]
 by_cases A:ys=[]
 .subst A;rw[I (by rw[hc];exact gF hP hT hd he w U none ad 0 0 cap (zBb _))];rw[cG];exact⟨β,xU.refl E,.fz _ _ (.nil _ _)⟩
 .obtain⟨b,q,f,rfl,R⟩:=O A
  have L:0<ln ys:=by cases ys with|nil=>exact absurd Z A|cons _ _=>simp
  obtain⟨V,ap⟩:=R.flat S
  have B:ln ys*i.bytes<=281474976710656:=by
   have:=zDx hn (show i.bytes<=65536 by omega);omega
  have M:=run_append_nil (P:=P) w T U e i z hu hi ag ⟨b,q,none⟩ (ln ys) cap (flat f (ln ys) te.size) (by rw[zZ,e1]) V L (by unfold cF at C;omega) B;rw[I (by rw[hc];exact M)];have HD:=E.drew (w.drawn+1);have ar:z.cells.size=ln te.zero:=by rw[<-e3];simp
  have W:=grownCap_ge w (ln ys) 0 e;have G:=xU.newFz HD ((flat f (ln ys) te.size).toArray++Builtin.zeroCells z.cells (grownCap w (ln ys) 0 e-ys.length)) e
  have hv:=xM.newArr HD ((flat f (ln ys) te.size).toArray++Builtin.zeroCells z.cells (grownCap w (ln ys) 0 e-ys.length)) e te.size ys (grownCap w (ln ys) 0 e) f S C W R.wide
   (λi j hi hj=>by
    rw[zC8 (by simp[zZ];have:=zBt te.size (show i+1<=ln ys by omega);rw[zCi,zDh]at this;omega)]
    simpa using kT f hi hj) R.one (λi y j v hy hv=>xM.evo (w:=w) (w':={w with drawn:=w.drawn+1}) (zBb _) (λ_ _ hd=>⟨rfl,hd⟩) (R.rep.toF Z i y j v hy hv))
  rw[cG];refine⟨β,xU.trans E (xU.drew E (w.drawn+1)) G,.fz _ _ hv.wkF⟩
theorem wU (st' ne:Bool) (hP:uW P TT) {k:Nat} {xs:List AV} {xv:AV} {ys:List AV} (hs:yX (zK st.tm) s= .ref k 0 (ln xs)) (hk:zD st.h k=some (.arr sz xs sl)) (hx:yX (zK st.tm) x=xv) (hT:TT[T]? =some ti) (hd:ti.d= .slice e) (he:TT[e]? =some te)
 (br:ne=false->sl.nest=false) (cj:TH ne (zD st.h) xv=some ys) (ci:∀y,ys[0]? =some y->ln y.cells=sz) (O:Nat.beq sz te.size=true) (hb:Nat.ble te.bytes 65536=true) (hz:Nat.beq (ln te.zero) te.size=true) (ck:te.zero.all (·.oneCell')=true) (hn:ln xs+ln ys<=1073741824) (bu:st'=false->xs=[]):
    vA P st (.call ⟨.builtin .append, #[s,x], #[T,T]⟩) (.ref k 0 (xs++ys).length) [(k,.arr sz (xs++ys) ⟨st',ne⟩)] (k::OE xv) []:=by
  refine⟨?_⟩;intro X tm h hg hr _ o a w β ho HH Ht;obtain⟨d0,o0,y0,p0,f0,g0⟩:=o;dsimp only at ho;subst ho;have hk':=(hr k zV).trans hk;have h1:=gZ Ht hg (x:=s) kS hs;have h2:=gZ Ht hg (x:=x) kS hx;have O:=zBz O;have hb:=zBo hb;have hz:=zBz hz;obtain⟨g1,g2,g3,g4,g5,fs,g6,g7,g8⟩:=HH.ent k _ hk';obtain⟨ad,cap,hc,_,cm,b6⟩:=cX HH h2 ((fS λk' hk=>hr k' (by simp[hk])).trans cj) ci;obtain⟨i,z,hu,hi,bx,e1,e2,e3⟩:=vB hP hT hd he;have C:(xs++ys).length=ln xs+ln ys:=by simp
  have a4:∃bd S,a.eval s= .slice bd (ln xs) S/\xs.length<=S/\((∃b,bd=some ⟨b,0,none⟩/\(b,ln xs)∈β k/\S*sz=wO w b)\/(xs=[]/\S=0)):=by
    generalize a.eval s=cs at h1;generalize hL:ln xs=L at h1
    cases h1 with
    |fz _ _ hf=>cases hf
    |dref _ _ _ _ hd _=>rw[hk']at hd;cases hd
    |ref0 _ _ _ _ _ bd _ _=>exact⟨bd,0,rfl,zBb _,.inr ⟨zB5 hL,rfl⟩⟩
    | ref _ _ _ cr cu st' b n S b4 hb hn hc ch=>
      have h3:=b4;rw[hk']at h3;cases h3;subst hL
      have ce:n=ln xs:=by
        cases hbk:β k with
        |nil=>rw[hbk]at hb;simp at hb
        | cons q R=>
          obtain⟨M,n0⟩:=q;obtain⟨e1,_,e3⟩:=g5 M n0 R hbk;rw[hbk]at hb;simp at hb
          rcases hb with⟨_,rfl⟩|hb
          · exact e1
          · have:=e3 b n hb;omega
      subst ce;exact⟨_,S,by rw[zEp],hc,.inl ⟨b,rfl,hb,by rwa [zCn]at ch⟩⟩
  obtain⟨bd,S,a3,cd,a4⟩:=a4
  have bl:∀{v w'},(Builtin.append_ #[T,T] y0 #[a.eval s,a.eval x]).run P w= .ok v w'->(execOp a.eval ⟨d0,.call ⟨.builtin .append, #[s,x], #[T,T]⟩,y0,p0,f0,g0⟩).run P w= .ok (.value v) w':=λhv=>by
    simp[execOp,resolve,invoke,builtin,hv]
  rw[C];by_cases ax:ys=[]
  ·
    subst ax;rw[bl (by rw[a3,hc];exact gF hP hT hd he w y0 bd ad (ln xs) S cap cd)]
    have G:=xU.step (w':=w) HH k (.arr sz (xs++[]) ⟨st',ne⟩) (β k) (zBb _) (λ_ _ _=>rfl) Z Z Z (λb n A=> .inl ⟨n,A⟩) (λ_ _ _=>rfl) (λe he=>by rw[hk']at he;cases he;exact .inr ⟨⟨_,_,rfl,by simp⟩,λ_ n A=>⟨n,zBb _,A⟩⟩)
      (λE=>⟨g1,by simpa using g2,λh=>by rw[yL];exact g3 MJ,λi y hy=>g4 i y (by simpa using hy),λb n r hr=>by
        rw[yL]at hr;obtain⟨q1,_,q3⟩:=g5 b n r hr
        exact⟨by simpa using q1,λh b' n' A=>by have:=q3 b' n' A;rw[bu h]at this;simp at this,by simpa using q3⟩,fs,λi y j v hy hv=>⟨(g6.toV i y j v (by simpa using hy) hv).evo E,λhn=>(g6.toF (br hn) i y j v (by simpa using hy) hv).evo E.size E.fz⟩,λi j hi hj=>g7 i j ML hj,λb n A=>by rw[yL]at A;exact g8 b n A⟩)
    exact⟨_,G,(a3▸h1:yK w (xT X β) h β (.ref k 0 (ln xs)) (.slice bd (ln xs) S)).evo G.evo⟩
  · obtain ⟨b2, q,f,rfl,hS⟩:=b6 ax
    have b5:0<ln ys:=by cases ys with|nil=>exact absurd Z ax|cons _ _=>simp
    obtain⟨a5,ba⟩:=hS.flat g1
    have hbk:β k=[]\/∃M R,β k=(M,ln xs)::R:=by
      cases hbk:β k with
      |nil=>exact .inl Z
      |cons q R=>obtain⟨M,n0⟩:=q;obtain⟨q1,_⟩:=g5 M n0 R hbk;exact .inr ⟨M,R,by rw[q1]⟩
    let f':Nat->Nat->Value:=λi j=>if i<ln xs then fs i j else f (i-xs.length) j
    have bz:∀(i:Nat) y,(xs++ys)[i]? =some y->(i<ln xs/\xs[i]? =some y)\/(¬i<ln xs/\ys[i-xs.length]? =some y):=λi y hy=>by
      by_cases hi:i<ln xs
      · rw[zB9 hi]at hy;exact .inl ⟨hi,hy⟩
      · rw[zCe (by omega)]at hy;exact .inr ⟨hi,hy⟩
    have a2:∀(i:Nat) (y:AV),(xs++ys)[i]? =some y->ln y.cells=sz:=λi y hy=>by
      rcases bz i y hy with⟨_,h⟩|⟨_,h⟩
      · exact g4 i y h
      · exact hS.wide _ y h
    have a6:∀i j,i<(xs++ys).length->j<sz->(f' i j).oneCell'=true:=λi j hi hj=>by
      simp only[f'];split
      · exact g7 i j ‹_› hj
      · exact hS.one _ _ (by rw[C]at hi;omega) hj
    have a7:∀{w':World} {D':Nat->Prop} {h':yT} {β':uP},EZ w (xT X β) h β w' D' h' β'->gH w' D' h' β' ne (xs++ys) f':=λE i y j v hy hv=>by
      simp only[f']
      rcases bz i y hy with⟨hi,h⟩|⟨hi,h⟩
      · rw[zA5 hi];exact⟨(g6.toV i y j v h hv).evo E,λhn=>(g6.toF (br hn) i y j v h hv).evo E.size E.fz⟩
      · rw[Os hi];exact⟨(hS.rep.toV _ y j v h hv).evo E,λhn=>(hS.rep.toF hn _ y j v h hv).evo E.size E.fz⟩
    by_cases ar:ln xs+ln ys<=S
    ·
      rcases a4 with⟨b,rfl,A,cb⟩|⟨b7,cn⟩
      case inr=>omega
      obtain⟨V,el,c1,c2,c3,c4⟩:=g8 b _ A
      have cc:S*sz<=V.size:=by
        have:wO w b=V.size:=by unfold wO World.shape?;rw[c1];rfl
        omega
      have au:(ln xs+ln ys)*sz<=V.size:=zCa (zBt _ ar) cc
      have a1:=bJ hP hT hd he w y0 b 0 (ln xs) S V el c1 ⟨b2,q,none⟩ (ln ys) cap (flat f (ln ys) sz) (by rw[zZ,O]) a5 ba ar (by
        rw[zZ,<-O,zCn,<-zCi];exact au)
      rw[bl (by rw[a3,hc];exact a1)];generalize I:(V.toList.take (0+ln xs*te.size)++flat f (ln ys) sz++V.toList.drop (0+ln xs*te.size+(flat f (ln ys) sz).length)).toArray=B
      have U:B.size=V.size:=by
        rw[<-I];simp only[zD6,zBa,zBv,zB6,zD8,zZ,zCn,<-O];rw[zCi]at au;omega
      have ap:∀q,q<B.size->(B.getD q undef).oneCell'=true:=by
        rw[<-I];refine kE.get (kE.arr λv hv=>?_);have b1:=kE.of c4
        rcases zBs.1 hv with hv|hv
        · rcases zBs.1 hv with hv|hv
          · exact b1 v (zC2 hv)
          · exact ba v hv
        · exact b1 v (zCc hv)
      have ac:∀i j,i<ln xs+ln ys->j<sz->B[i*sz+j]? =some (f' i j):=λi j hi hj=>by
        rw[<-I];simp only[f',zDv,zCn,<-O];rw[zCi]at au;by_cases ag:i<ln xs
        · have av:i*sz+j<ln xs*sz:=by
            have:=zBt sz (show i+1<=ln xs by omega);rw[zCi,zDh]at this;omega
          rw[zA5 ag,zB9 qD,zB9 qD,zCv,zA5 av];simpa using c3 i j ag hj
        · have b3:ln xs*sz<=i*sz:=zBt _ (by omega);have e4:i*sz+j-xs.length*sz=(i-xs.length)*sz+j:=by rw[zF7];omega
          have av:(i-xs.length)*sz+j<ln ys*sz:=by
            have:=zBt sz (show(i-xs.length)+1<=ln ys by omega);rw[zCi,zDh]at this;omega
          rw[Os ag,zB9 (by simp[zZ];omega),zCe qD];have e5:(List.take (ln xs*sz) V.toList).length=ln xs*sz:=by simp;omega
          rw[e5,e4];exact kT f (by omega) hj
      obtain⟨M,R,hbk⟩:=hbk.resolve_left (λY=>by rw[Y]at A;simp at A)
      have ca:M=b:=by
        rw[hbk]at A;simp at A
        rcases A with rfl|A
        · rfl
        · have:=(g5 M _ R hbk).2.2 b _ A;omega
      subst ca
      have G := xU.step (w' := w.setRow M B) HH k (.arr sz (xs++ys) ⟨st',ne⟩) ((M,ln xs+ln ys)::R) zV (λj hj hn=>setRow_other w M j B (λe=>hn (ln xs) Of)) Z Z Z
        (λb n A=>by
          simp at A
          rcases A with⟨rfl,_⟩|A
          · exact .inl ⟨ln xs,by rw[hbk];simp⟩
          · exact .inl ⟨n,by rw[hbk];simp[A]⟩) (λb n _=>kM c1 U b)
        (λe he=>by
          rw[hk']at he;cases he;refine .inr ⟨⟨_,_,rfl,by rw[C];omega⟩,λb n A=>?_⟩;rw[hbk]at A;simp at A
          rcases A with⟨rfl,rfl⟩|A
          · exact⟨ln xs+ln ys,by omega,by simp⟩
          · exact⟨n,zBb _,by simp[A]⟩)
        (λE=>⟨g1,by rw[C];unfold cF;omega,λ_=>by rw[yL];simp,a2,λb n r hr=>by
          rw[yL]at hr;simp at hr;obtain⟨⟨rfl,rfl⟩,rfl⟩:=hr
          exact⟨C.symm,λh b' n' A=>by have:=(g5 M _ R hbk).2.2 b' n' A;rw[bu h]at this;simp at this,λb' n' A=>by have:=(g5 M _ R hbk).2.2 b' n' A;rw[C];omega⟩,f',a7 E,a6,λb n A=>by
          rw[yL]at A;simp at A;by_cases a9:b=M
          · subst a9
            have bf:n<=ln xs+ln ys:=by
              rcases A with⟨_,rfl⟩|A
              · omega
              · have:=(g5 b _ R hbk).2.2 b n A;omega
            exact⟨B,el,setRow_heap w _ _ _ _ _ c1,by rw[U];exact zCa (zBt _ bf) au,λi j hi hj=>ac i j (by omega) hj,ap⟩
          · have A : (b, n) ∈ R := by   rcases A with⟨h,_⟩|A;· exact absurd h a9
                                        · exact A
            obtain⟨c',a8,d1,d2,d3,d4⟩:=g8 b n (by rw[hbk];simp[A]);have bf:=(g5 M _ R hbk).2.2 b n A
            exact⟨c',a8,(setRow_other w M b B a9).trans d1,d2,λi j hi hj=>by simp only[f'];rw[zA5 (by omega)];exact d3 i j hi hj,d4⟩⟩)
      refine⟨_,G,?_⟩
      have:=yK.ref (w:=w.setRow M B) (D:=xT X (bH β k ((M,ln xs+ln ys)::R))) (h:=over [(k,.arr sz (xs++ys) ⟨st',ne⟩)] h) (β:=bH β k ((M,ln xs+ln ys)::R)) k 0 (ln xs+ln ys) sz (xs++ys) ⟨st',ne⟩ M (ln xs+ln ys) S (qV _ _ _)
        (by rw[yL];simp) (by omega) ar (by rw[kM c1 U,zCn];exact cb)
      rwa [zEp]at this
    ·
      have W:(ln xs+ln ys)*i.bytes<=140737488355328:=by
        have:=zDx hn (show i.bytes<=65536 by omega);omega
      have b3:=grownCap_ge w (ln xs+ln ys) S e;have cl:z.cells.size=ln te.zero:=by rw[<-e3];simp
      have bb:∃olds:List Value,(∀u∈olds,u.oneCell'=true)/\olds.length=ln xs*sz/\(∀i j,i<ln xs->j<sz->olds[i*sz+j]? =some (fs i j))/\
          (Builtin.append_ #[T,T] y0 #[.slice bd (ln xs) S,.slice (some ⟨b2,q,none⟩) (ln ys) cap]).run P w= .ok (.slice (some ⟨w.heap.size,0,none⟩) (ln xs+ln ys) (grownCap w (ln xs+ln ys) S e))
            (w.drew.alloc (.cells (olds.toArray++(flat f (ln ys) sz).toArray++Builtin.zeroCells z.cells (grownCap w (ln xs+ln ys) S e-(ln xs+ln ys))) e)):=by
        rcases a4 with⟨b,rfl,A,_⟩|⟨rfl,rfl⟩
        · obtain⟨V,el,c1,c2,c3,_⟩:=g8 b _ A;have b9:Z3 w (xT X β) h β ne xs sz b 0 fs:=⟨g4,λi j hi hj=>by rw[uU c1,zCn];exact c3 i j hi hj,g7,λi x j v hx hv=>⟨g6.toV i x j v hx hv,λhn=>g6.toF (br hn) i x j v hx hv⟩⟩;obtain⟨q1,q2⟩:=b9.flat g1;exact⟨flat fs (ln xs) sz,q2,zZ _ _ _,λi j hi hj=>kT fs hi hj,run_append_grow (P:=P) w T y0 e i z hu hi bx ⟨b,0,none⟩ (ln xs) S (flat fs (ln xs) sz) (by rw[zZ,O,e1]) q1 ⟨b2,q,none⟩ (ln ys) cap (flat f (ln ys) sz) (by rw[zZ,O,e1]) a5 (by omega) (by omega) (growslice_fits (by omega) W)⟩
        · refine⟨[],(λu hu=>by simp at hu),by simp,λi j hi _=>by simp at hi,?_⟩
          cases bd with
          | none=>
            have:=run_append_nil (P:=P) w T y0 e i z hu hi bx ⟨b2,q,none⟩ (ln ys) cap (flat f (ln ys) sz) (by rw[zZ,O,e1]) a5 b5 (by omega) (by simp only[zCd,zCn]at W;omega);simpa using this
          | some ad=>
            have:=run_append_grow (P:=P) w T y0 e i z hu hi bx ad 0 0 [] zV zV ⟨b2,q,none⟩ (ln ys) cap (flat f (ln ys) sz) (by rw[zZ,O,e1]) a5 (by omega) (by omega) (growslice_fits (by omega) (by simpa using W));simpa using this
      obtain⟨olds,cf,az,cg,a1⟩:=bb;rw[bl (by rw[a3,hc];exact a1)];generalize co:grownCap w (ln xs+ln ys) S e=gc at *;generalize I:olds.toArray++(flat f (ln ys) sz).toArray++Builtin.zeroCells z.cells (gc-(ln xs+ln ys))=B
      have ap:∀q,q<B.size->(B.getD q undef).oneCell'=true:=by
        rw[<-I];exact kE.get (((kE.arr cf).app (kE.arr ba)).app (kE.zero (λv hv=>zBk.1 ck v MN) _))
      have U:B.size=gc*sz:=by
        rw[<-I];simp only[zFm,zD6,zZ,size_zeroCells,cl,hz,<-O,az,<-zCi]
        congr 1
        omega
      have ac:∀i j,i<ln xs+ln ys->j<sz->B[i*sz+j]? =some (f' i j):=λi j hi hj=>by
        have av:i*sz+j<(ln xs+ln ys)*sz:=by
          have:=zBt sz (show i+1<=ln xs+ln ys by omega);rw[zCi,zDh]at this;omega
        rw[zCi]at av;rw[<-I,zC8 (by simp[zZ,az];omega)];simp only[f'];by_cases ag:i<ln xs
        · have av:i*sz+j<ln xs*sz:=by
            have:=zBt sz (show i+1<=ln xs by omega);rw[zCi,zDh]at this;omega
          rw[zA5 ag,zC8 (by simp[az];omega)];simpa using cg i j ag hj
        · have b3:ln xs*sz<=i*sz:=zBt _ (by omega);have e4:i*sz+j-xs.length*sz=(i-xs.length)*sz+j:=by rw[zF7];omega
          rw[Os ag,zE9 (by simp[az];omega)];simp only[zD6,az,e4,zDv];exact kT f (by omega) hj
      have HD:=HH.drew (w.drawn+1);have dr:∀{w':World} {D':Nat->Prop} {h':yT} {β':uP},EZ w.drew (xT X β) h β w' D' h' β'->EZ w (xT X β) h β w' D' h' β':=λE=>⟨E.size,E.fz,E.bs,E.key⟩
      have cq:=grownCap_ge w (ln xs+ln ys) S e;have bk:=a6
      have G := xU.step (w:=w.drew) (w':=w.drew.alloc (.cells B e)) HD k (.arr sz (xs++ys) ⟨st',ne⟩) ((w.heap.size,ln xs+ln ys)::β k) zV (λj hj _=>heap_alloc_old w.drew _ j hj) Z Z Z
        (λb n A=>by
          simp at A
          rcases A with⟨rfl,_⟩|A
          · exact .inr zV
          · exact .inl ⟨n,A⟩) (λb n A=>by
          unfold wO World.shape?
          rw[heap_alloc_old w.drew _ b (HH.lt b (.inr ⟨k,n,A⟩))])
        (λe he=>by
          rw[hk']at he;cases he
          exact .inr ⟨⟨_,_,rfl,by rw[C];omega⟩,λb n A=>⟨n,zBb _,by simp[A]⟩⟩)
        (λE=>⟨g1,by rw[C];unfold cF;omega,λ_=>by rw[yL];simp,a2,λb n r hr=>by
          rw[yL]at hr;simp at hr;obtain⟨⟨rfl,rfl⟩,rfl⟩:=hr;refine⟨C.symm,λh b' n' A=>?_,λb' n' A=>?_⟩
          · have b7:ln xs=0:=by rw[bu h];rfl
            rcases hbk with Y|⟨M,R,Y⟩
            · rw[Y]at A;simp at A
            · rw[Y]at A;simp at A
              rcases A with⟨_,rfl⟩|A
              · exact b7
              · have:=(g5 M _ R Y).2.2 b' n' A;omega
          rw[C]
          rcases hbk with Y|⟨M,R,Y⟩
          · rw[Y]at A;simp at A
          · rw[Y]at A;simp at A
            rcases A with⟨_,rfl⟩|A
            · omega
            · have:=(g5 M _ R Y).2.2 b' n' A;omega,f',a7 (w':=w.drew.alloc (.cells B e)) (dr E),bk,λb n A=>by
          rw[yL]at A;simp at A
          rcases A with⟨rfl,rfl⟩|A
          · exact⟨B,e,heap_alloc_new w.drew _,by rw[U];exact zBt _ (by omega),λi j hi hj=>ac i j hi hj,ap⟩
          · obtain⟨c',a8,d1,d2,d3,d4⟩:=g8 b n A
            have bf:n<=ln xs:=by
              rcases hbk with Y|⟨M,R,Y⟩
              · rw[Y]at A;simp at A
              · rw[Y]at A;simp at A
                rcases A with⟨_,rfl⟩|A
                · omega
                · exact zFk ((g5 M _ R Y).2.2 b n A)
            exact⟨c',a8,(heap_alloc_old w.drew _ b (HH.lt b (.inr ⟨k,n,A⟩))).trans d1,d2,λi j hi hj=>by simp only[f'];rw[zA5 (by omega)];exact d3 i j hi hj,d4⟩⟩)
      refine⟨_,xU.trans HH (xU.drew HH (w.drawn+1)) G,?_⟩
      have:=yK.ref (w:=w.drew.alloc (.cells B e)) (D:=xT X (bH β k ((w.heap.size,ln xs+ln ys)::β k))) (h:=over [(k,.arr sz (xs++ys) ⟨st',ne⟩)] h) (β:=bH β k ((w.heap.size,ln xs+ln ys)::β k)) k 0 (ln xs+ln ys) sz (xs++ys) ⟨st',ne⟩ w.heap.size (ln xs+ln ys) gc (qV _ _ _)
        (by rw[yL];simp) (by omega) (by omega) (by
          have:wO (w.drew.alloc (.cells B e)) w.heap.size=B.size:=by
            unfold wO World.shape?;rw[show(w.drew.alloc (.cells B e)).heap[w.heap.size]? =_ from heap_alloc_new w.drew _];rfl
          rw[this,U,zCn])
      rwa [zEp]at this
def MP (I:uW P TT) {k:Nat} {xs:List AV} {U:Bool} {G:AV} {ys:List AV} (O:yX (zK st.tm) s= .ref k 0 (ln xs)) (hk:zD st.h k=some (.arr sz xs ⟨U,false⟩)) (R:yX (zK st.tm) x=G) (hT:TT[T]? =some ti) (hd:ti.d= .slice e) (L:TT[e]? =some te)
 (C:AI (zD st.h) G=some ys) (B:∀y,ys[0]? =some y->ln y.cells=sz) (A:Nat.beq sz te.size=true) (hb:Nat.ble te.bytes 65536=true) (S:Nat.beq (ln te.zero) te.size=true) (E:te.zero.all (·.oneCell')=true) (M:ln xs+ln ys<=1073741824):
  vA P st (.call ⟨.builtin .append, #[s,x], #[T,T]⟩) (.ref k 0 (xs++ys).length) [(k,.arr sz (xs++ys) true)] (k::OE G) []:=
 wU true false I O hk R hT hd L (λ_=>rfl) C B A hb S E M (λh=>by cases h)
def PB (I:uW P TT) {k:Nat} {xs:List AV} {G:AV} {ys:List AV} (O:yX (zK st.tm) s= .ref k 0 (ln xs)) (hk:zD st.h k=some (.arr sz xs sl)) (R:yX (zK st.tm) x=G) (hT:TT[T]? =some ti) (hd:ti.d= .slice e) (L:TT[e]? =some te)
 (C:TH true (zD st.h) G=some ys) (B:∀y,ys[0]? =some y->ln y.cells=sz) (A:Nat.beq sz te.size=true) (hb:Nat.ble te.bytes 65536=true) (S:Nat.beq (ln te.zero) te.size=true) (E:te.zero.all (·.oneCell')=true) (M:ln xs+ln ys<=1073741824):
  vA P st (.call ⟨.builtin .append, #[s,x], #[T,T]⟩) (.ref k 0 (xs++ys).length) [(k,.arr sz (xs++ys) ⟨true,true⟩)] (k::OE G) []:=
 wU true true I O hk R hT hd L (λh=>by cases h) C B A hb S E M (λh=>by cases h)
end ops
end
section
def MQ (B:Nat->Option (Nat×Nat)):List AV->List (Nat×AV)->Option (List AV)
 |A,[]=>some A
 |A,(i,v)::rest=>match B i with
  |none=>none
  |some (off,size)=>bif Nat.beq (ln v.cells) size&&(Nat.ble (off+size) (ln A)&&v.ok)then MQ B (TB A off v.cells) rest else none
theorem MR (B:Nat->Option (Nat×Nat)):∀(C:List (Nat×AV)) (A:List (Nat×Value)) (cs:List AV) (c:Array Value) (G:List AV),MQ B cs C=some G->
  (ln A)=ln C->(∀(j:Nat) p M,C[j]? =some p->A[j]? =some M->M.1=p.1/\yK w D h β p.2 M.2)->
  c.size=ln cs->(∀i,i<c.size->(c.getD i undef).oneCell'=true)->(∀(i:Nat) u,cs[i]? =some u->yK w D h β u (c.getD i undef))->
  ∃O,Instr.fill B c A=some O/\O.size=ln G/\(∀i,i<O.size->(O.getD i undef).oneCell'=true)/\∀(i:Nat) u,G[i]? =some u->yK w D h β u (O.getD i undef)
 | [],A,cs,c,G,L,hl,_,h1,h2,h3=>by
  obtain rfl:A=[]:=zB5 BU;cases L;exact⟨c,rfl,h1,h2,h3⟩
 | (i, v)::rest,A,cs,c,G,L,hl,hp,h1,h2,h3=>by
  cases A with
  |nil=>simp at hl
  | cons M U=>
   obtain⟨e1,e2⟩:=hp 0 (i,v) M Z Z;obtain⟨i',V⟩:=M;dsimp only at e1 e2;subst e1;unfold MQ at L
   cases S:B i' with
   |none=>simp[S]at L
   | some q=>
    obtain⟨off,E⟩:=q;simp only[S]at L
    cases hc:Nat.beq (ln v.cells) E&&(Nat.ble (off+E) (ln cs)&&v.ok)with
    |false=>simp[hc]at L
    | true=>
     simp only[hc,zCm]at L;simp only[zBg]at hc;have q1:=zBz hc.1;have q2:=zBo hc.2.1;obtain⟨r1,r2,r3⟩:=e2.cells hc.2.2;obtain⟨s1,s2⟩:=Great.foldl_set off V.cells.toList 0 c
     have R:V.cells.zipIdx.foldl (λcs (x:Value×Nat)=>cs.setIfInBounds (off+x.2) x.1) c=(V.cells.toList.zipIdx 0).foldl (λcs (x:Value×Nat)=>cs.setIfInBounds (off+x.2) x.1) c:=by
      rw[<-Array.foldl_toList,Array.toList_zipIdx]
     generalize ag:(V.cells.toList.zipIdx 0).foldl (λcs (x:Value×Nat)=>cs.setIfInBounds (off+x.2) x.1) c=c2 at*
     have W:∀k,c2.getD k undef=if off<=k/\k<off+E then V.cells.getD (k-off) undef else c.getD k undef:=λk=>by
      have hk:=s2 k;simp only[zDw,zD8]at hk;by_cases I:off<=k/\k<off+E
      .rw[zA5 I];rw[zA5 (by omega)]at hk;apply eG;rw[hk];have:=jO V.cells (k-off) (by omega);simpa using this
      .rw[Os I];rw[Os (by omega)]at hk;simp[zB4,hk]
     obtain⟨O,t1,t2,t3,t4⟩:=MR B rest U (TB cs off v.cells) c2 G L BU (λj p M hj ac=>hp (j+1) p M (by simpa using hj) (by simpa using ac))
      (by rw[s1,cW];exact h1) (λk hk=>by
       rw[W];split
       .exact r2 _ (by omega)
       .exact h2 k (by omega)) (λk u Y=>by
       rw[XB _ _ _ _ (by omega),q1]at Y;rw[W];split
       .rename_i I;rw[zA5 I]at Y;exact r3 _ u Y
       .rename_i I;rw[Os I]at Y
        exact h3 k u Y)
     refine⟨O,?_,t2,t3,t4⟩;unfold Instr.fill;simp only[S];rw[Os qD,R];exact t1
def Ac (TT:List TI):List (Nat×Nat)->Option (List (Nat×Nat))
 | []=>some []
 |(o,t)::r=>match TT[t]?,Ac TT r with
  |some ti,some l=>some ((o,ti.size)::l)
  |_,_=>none
theorem AJ (C:uW P TT):∀(fs:List Field) (l:List (Nat×Nat)),Ac TT (fs.map λf=>(f.offset,f.type))=some l->fs.mapM (λf=>(P.info? f.type).map λi=>(f.offset,i.size))=some l
 | [],l,h=>by simp[Ac]at h;simp[h]
 | f::fs,l,h=>by
  simp only[zCo,Ac]at h
  cases A:TT[f.type]? with
  |none=>simp[A]at h
  | some ti=>
   cases B:Ac TT (fs.map λf=>(f.offset,f.type))with
   |none=>simp[A,B]at h
   |some G=>
    simp[A,B]at h;subst h;obtain⟨i,_,_,hi,_,_,_,E,_⟩:=vR (C _ _ A);simp[zGs,hi,AJ C fs G B,E]
section ops
variable {P:Program} {TT:List TI} {st:St}
def bW (st:St) (ps:Array (Nat×Operand)):List (Nat×AV):=ps.toList.map λp=>(p.1,yX (zK st.tm) p.2)
def AK {op:Op} {E:Nat->AV} (H:∀t,yK w D h β (E t) (a.eval (.tmp t))) (G:∀t,t∈fO op->E t=zK st.tm t) (A:∀p∈ps.toList,p.2∈op.operands)
 (j:Nat) (p:Nat×AV) (B:Nat×Value) (h1:(bW st ps)[j]? =some p) (h2:(ps.map λx=>(x.1,a.eval x.2)).toList[j]? =some B):B.1=p.1/\yK w D h β p.2 B.2:=by
 simp only[bW,zBe,zBp]at h1;obtain⟨q,C,rfl⟩:=h1;simp only[zFr,zBe,C,zC0,zCu]at h2;subst h2;exact⟨rfl,gZ H G (A q (zCq C)) Z⟩
def AL (z:Value) (A:List Value) (C:z.cells.toList=A) (h1:A.all (·.oneCell')=true):
  z.cells.size=(A.map AV.s).length/\(∀i,i<z.cells.size->(z.cells.getD i undef).oneCell'=true)/\∀(i:Nat) u,(A.map AV.s)[i]? =some u->yK w D h β u (z.cells.getD i undef):=by
 subst C;refine⟨by simp,λi hi=>zBk.1 h1 _ (zCq (by simpa using jO _ i hi)),λi u B=>?_⟩;simp only[zBe,zBp]at B;obtain⟨v,hv,rfl⟩:=B;rw[eG BV];exact .fz _ _ (.s _)
def Ah (M:uW P TT) {C:List (Nat×Nat)} {cs:List AV} (hT:TT[T]? =some ti) (hd:ti.d= .str fs) (h1:ti.zero.all (·.oneCell')=true) (G:Ac TT fs=some C)
 (Y:MQ (C[·]?) (ti.zero.map .s) (bW st ps)=some cs):vA P st (.build T ps) (.agg cs) [] [] []:=
 yZ λoo X tm h w β a O hg hr HH R=>by
  obtain⟨d0,o0,y0,p0,f0,g0⟩:=oo;dsimp only at O;subst O;obtain⟨i,u,z,hi,hu,hz,E,_,_,I⟩:=vR (M _ _ hT);obtain⟨A,rfl,hm⟩:=Fc (E.symm.trans hd);have B:=AJ M A.toList C (by rw[hm];exact G);obtain⟨z1,z2,z3⟩:=AL (w:=w) (D:=xT X β) (h:=h) (β:=β) z ti.zero I.symm h1
  obtain⟨L,S,U,V,W⟩:=MR (w:=w) (D:=xT X β) (h:=h) (β:=β) (C[·]?) (bW st ps) (ps.map λx=>(x.1,a.eval x.2)).toList _ _ cs Y (by simp[bW]) (AK (op:= .build T ps) R hg λp hp=>by
   simp only[Op.operands,zGn]
   exact zCl.2 ⟨p,hp,rfl⟩) z1 z2 z3
  have hb:P.built T (ps.map λx=>(x.1,a.eval x.2)).toList=some L:=by
   simp only[Program.built,hi,hu,hz,B];simpa using S
  exact⟨_,by simp only[execOp,Sem.run_bind,run_build w T _ L hb,Result.andThen_ok,Sem.run_pure],.agg _ _ U V W⟩
def KI (I:uW P TT) {cs:List AV} (hT:TT[T]? =some ti) (hd:ti.d= .arr n e) (V:TT[e]? =some te) (h1:ti.zero.all (·.oneCell')=true)
 (W:MQ (λi=>some (i*te.size,te.size)) (ti.zero.map .s) (bW st ps)=some cs):vA P st (.build T ps) (.agg cs) [] [] []:=
 yZ λoo X tm h w β a L Y hr HH M=>by
  obtain⟨d0,o0,y0,p0,f0,g0⟩:=oo;dsimp only at L;subst L;obtain⟨i,u,z,hi,hu,hz,A,_,_,E⟩:=vR (I _ _ hT);obtain rfl:=mn (A.symm.trans hd);obtain⟨ie,_,_,B,_,_,_,C,_,_⟩:=vR (I _ _ V);obtain⟨z1,z2,z3⟩:=AL (w:=w) (D:=xT X β) (h:=h) (β:=β) z ti.zero E.symm h1
  obtain⟨G,O,R,S,U⟩:=MR (w:=w) (D:=xT X β) (h:=h) (β:=β) (λi=>some (i*te.size,te.size)) (bW st ps) (ps.map λx=>(x.1,a.eval x.2)).toList _ _ cs W (by simp[bW]) (AK (op:= .build T ps) M Y λp hp=>by
   simp only[Op.operands,zGn]
   exact zCl.2 ⟨p,hp,rfl⟩) z1 z2 z3
  have hb:P.built T (ps.map λx=>(x.1,a.eval x.2)).toList=some G:=by
   simp only[Program.built,hi,hu,hz,B,<-C];exact O
  exact⟨_,by simp only[execOp,Sem.run_bind,run_build w T _ G hb,Result.andThen_ok,Sem.run_pure],.agg _ _ R S U⟩
theorem MS (ne:Bool) (hP:uW P TT) {xs:List AV} (hT:TT[T]? =some ti) (hd:ti.d= .slice e) (he:TT[e]? =some te) (hp:Nat.ble 1 te.size=true) (ag:bW st ps=(xs.zipIdx 0).map λx=>(x.2,x.1)) (hl:Nat.beq (ln xs) len=true)
 (hw:xs.all (λx=>Nat.beq (ln x.cells) te.size&&(x.ok&&(ne||x.nokey)))=true) (hb:Nat.ble (len*te.size) 65536=true) (U:Nat.beq (ln te.zero) te.size=true):
  ∀ (o:Oper) (X:Nat->Prop) (tm:Nat->AV) (h:yT) (w:World) (β:uP) (a:Act),o.op= .buildSlice T len ps->(∀t,t∈fO (.buildSlice T len ps)->tm t=zK st.tm t)->(∀t,yK w (xT X β) h β (tm t) (a.eval (.tmp t)))->
   ∃(C:Array Value) (f:Nat->Nat->Value),(execOp a.eval o).run P w= .ok (.value (.slice (some ⟨w.heap.size,0,none⟩) (ln xs) (ln xs))) (w.alloc (.cells C e))/\C.size=ln xs*te.size/\xs.length<=cF/\xs.length=len/\
    (∀(i:Nat) (x:AV),xs[i]? =some x->ln x.cells=te.size)/\(∀i j,i<ln xs->j<te.size->C[i*te.size+j]? =some (f i j))/\(∀i j,i<ln xs->j<te.size->(f i j).oneCell'=true)/\
    gH w (xT X β) h β ne xs f:=by
 intro o X tm h w β a ho hg Ht;obtain⟨d0,o0,y0,p0,f0,g0⟩:=o;dsimp only at ho;subst ho;have hp:=zBo hp;have hl:=zBz hl;have hb:=zBo hb;have U:=zBz U;subst hl;obtain⟨i,z,B,hi,hz,e1,e2,e3⟩:=vB hP hT hd he
 have S:∀(j:Nat) (x:AV),xs[j]? =some x->ln x.cells=te.size/\x.ok=true/\(ne||x.nokey)=true:=λj x E=>by
  have:=zBk.1 hw x (zCq E)
  simp_all [uW,hT,bW,yT,uP,fO,zK,xT,cF,gH]
 have I:ln ps.toList=ln xs:=by
  have:=zBq List.length ag;simpa [bW]using this
 let vs:List Value:=ps.toList.map λp=>a.eval p.2
 have R:ln vs=ln xs:=by simp[vs];simpa using I
 have ar:∀(j:Nat) (x:AV),xs[j]? =some x->∃p,ps.toList[j]? =some p/\p.1=j/\yX (zK st.tm) p.2=x:=λj x E=>by
  have hj:=zBq (·[j]?) ag;simp only[bW,zBe,zFb,E,zC0,zCn]at hj
  grind
 have av:∀(j:Nat) (x:AV),xs[j]? =some x->∃v,vs[j]? =some v/\yK w (xT X β) h β x v:=λj x E=>by
  obtain⟨p,M,_,a4⟩:=ar j x E;refine⟨a.eval p.2,by simp only[vs,zBe,M,zC0],gZ (op:= .buildSlice T (ln xs) ps) Ht hg ?_ a4⟩;simp only[Op.operands,zGn]
  grind
 have a5:(ps.map λx=>(x.1,a.eval x.2)).toList=(vs.zipIdx 0).map λx=>(x.2,x.1):=by
  apply zCf;intro j;simp only[zFr,zBe,zFb,vs,zCn];by_cases hj:j<ln xs
  .obtain⟨p,M,a3,_⟩:=ar j xs[j] (by simp[hj]);simp[M,a3]
  all_goals grind
 have O:∀v∈vs,v.cells.size=te.size:=λv hv=>by
  obtain⟨j,hj⟩:=zEo hv;have Y:j<ln xs:=by rw[<-R];exact(zBw.1 hj).1
  obtain⟨v',h1,h2⟩:=av j xs[j] (by simp[Y]);rw[hj]at h1;cases h1;obtain⟨q1,q2,_⟩:=S j xs[j] (by simp[Y]);rw[(h2.cells q2).1,q1]
 have a7:z.cells.size=te.size:=by rw[<-U,<-e3];simp
 have G:=Great.fill_whole (s:=te.size) (by omega) vs ((Array.range (ln xs*te.size)).map (z.cells[· % z.cells.size]!)) O (by simp[R]);have L:=Great.flat_get (s:=te.size) (by omega) vs O;generalize hC:(vs.flatMap λv=>v.cells.toList).toArray=C at G
 have W:C.size=ln xs*te.size:=by
  rw[<-hC]
  have:∀l:List Value,(∀v∈l,v.cells.size=te.size)->(l.flatMap λv=>v.cells.toList).length=ln l*te.size:=by
   intro l
   induction l with
   |nil=>simp
   |cons v l ih=>
    intro hv;rw[List.flatMap_cons,zBa,ih λu B=>hv u (by simp[B])];have:=hv v zV;simp only[zD8,this,zBl,zCi,zDh];omega
  simpa [R]using this vs O
 have au:(execOp a.eval ⟨d0,.buildSlice T (ln xs) ps,y0,p0,f0,g0⟩).run P w= .ok (.value (.slice (some ⟨w.heap.size,0,none⟩) (ln xs) (ln xs))) (w.alloc (.cells C e)):=by
  have ax:¬xs.length*te.size>2 ^ 24:=by omega
  have hs:=qN (hP _ _ he) w;simp only[execOp,Instr.buildSlice,Sem.run_bind,AA w B,Result.andThen_ok,hs];by_cases h0:ln xs*te.size=0
  .have a6:xs=[]:=by
    rcases Nat.mul_eq_zero.1 h0 with h|h
    .exact zB5 h
    .omega
   subst a6
   have ap:ps= #[]:=by
    have:ln ps.toList=0:=by simpa using I
    exact Array.eq_empty_of_size_eq_zero Pf
   subst ap;have az:C= #[]:=by simpa using W
   subst az;simp[Instr.fill,newRow,Array.range_zero']
  .have ac:(ps.map λx=>(x.1,a.eval x.2)).toList=(vs.zipIdx 0).map λx=>(x.2,x.1):=a5
   simp only[Os ax,Sem.run_pure,Result.andThen_ok,Os h0,Sem.run_bind,zeroValue,typeInfo,run_program,hi,hz,ac];rw[G];simp[newRow]
 have A:∀(j:Nat) (x:AV),xs[j]? =some x->∃v,vs[j]? =some v/\v.cells.size=te.size/\(∀q,q<te.size->C[j*te.size+q]? =some (v.cells.getD q undef))/\(∀q,q<te.size->(v.cells.getD q undef).oneCell'=true)/\
   ∀(q:Nat) u,x.cells[q]? =some u->yK w (xT X β) h β u (v.cells.getD q undef)/\(ne=false->xM w (xT X β) u (v.cells.getD q undef)):=λj x E=>by
  obtain⟨v,h1,h2⟩:=av j x E;obtain⟨q1,q2,q3⟩:=S j x E;obtain⟨r1,r2,r3⟩:=h2.cells q2;refine⟨v,h1,by omega,λq V=>?_,λq V=>r2 q (by omega),λq u B=>⟨r3 q u B,λhn=>(r3 q u B).toF ?_⟩⟩
  .have a1:(j*te.size+q)/te.size=j:=Nat.div_eq_of_lt_le (by omega) (by rw[zCi,zDh];omega);have a2:(j*te.size+q) % te.size=q:=by rw[zE7,zFz];exact zD0 V
   have:=L (j*te.size+q);rw[a1,a2,h1]at this;rw[<-hC];simp only[zDv,this,Option.bind_some];exact jO _ _ (by omega)
  .rw[hn,zDk]at q3
   cases x<;>first
    |(simp[AV.cells]at B;cases q<;>simp at B;subst B;exact q3)
    |(exact jN (by simpa [AV.nokey,AV.cells]using q3) B)
 refine⟨C,λj q=>(vs.getD j undef).cells.getD q undef,au,W,?_,rfl,λj x E=>(S j x E).1,?_,?_,?_⟩
 .have:ln xs*1<=ln xs*te.size:=Nat.mul_le_mul_left _ hp;unfold cF;omega
 .intro j q hj V;obtain⟨v,h1,_,h3,_⟩:=A j xs[j] (by simp[hj]);have:vs.getD j undef=v:=by simp[py,h1]
  dsimp only;rw[this];exact h3 q V
 .intro j q hj V;obtain⟨v,h1,_,_,h4,_⟩:=A j xs[j] (by simp[hj]);have:vs.getD j undef=v:=by simp[py,h1]
  dsimp only;rw[this];exact h4 q V
 .intro j x q u E B;obtain⟨v,h1,_,_,_,h5⟩:=A j x E;have:vs.getD j undef=v:=by simp[py,h1]
  dsimp only;rw[this];exact h5 q u B
def yV (W:uW P TT) {xs:List AV} (k:Nat) (hT:TT[T]? =some ti) (hd:ti.d= .slice e) (Y:TT[e]? =some te) (L:Nat.ble 1 te.size=true) (M:bW st ps=(xs.zipIdx 0).map λx=>(x.2,x.1)) (hl:Nat.beq (ln xs) len=true)
 (hw:xs.all (λx=>Nat.beq (ln x.cells) te.size&&(x.ok&&x.nokey))=true) (hb:Nat.ble (len*te.size) 65536=true) (O:Nat.beq (ln te.zero) te.size=true):
  vA P st (.buildSlice T len ps) (.ref k 0 len) [(k,.arr te.size xs false)] [] [k]:=by
 refine⟨?_⟩;intro X tm h hg _ hn o a w β ho U V;obtain⟨C,f,B,A,I,E,q1,R,S,q4⟩:=MS false W hT hd Y L M hl hw hb O o X tm h w β a ho hg V;rw[B];subst E;obtain⟨β',G,hv⟩:=xU.newArr U (hn k zV) C e te.size xs (ln xs) f (zBo L) I (zBb _) (by rw[A]) (AE A (zBo L) R S) q1 R S (q4.toF Z);exact⟨β',G,hv⟩
def PC (W:uW P TT) {xs:List AV} (k:Nat) (hT:TT[T]? =some ti) (hd:ti.d= .slice e) (Y:TT[e]? =some te) (L:Nat.ble 1 te.size=true) (M:bW st ps=(xs.zipIdx 0).map λx=>(x.2,x.1)) (hl:Nat.beq (ln xs) len=true)
 (hw:xs.all (λx=>Nat.beq (ln x.cells) te.size&&x.ok)=true) (hb:Nat.ble (len*te.size) 65536=true) (O:Nat.beq (ln te.zero) te.size=true):
  vA P st (.buildSlice T len ps) (.ref k 0 len) [(k,.arr te.size xs ⟨false,true⟩)] [] [k]:=by
 refine⟨?_⟩;intro X tm h hg _ hn o a w β ho U V;obtain⟨C,f,B,A,I,E,q1,R,S,q4⟩:=MS true W hT hd Y L M hl (by simpa using hw) hb O o X tm h w β a ho hg V;rw[B];subst E;obtain⟨β',G,hv⟩:=xU.newArrN U (hn k zV) C e te.size xs (ln xs) f (zBo L) I (zBb _) (by rw[A]) (AE A (zBo L) R S) q1 R S (q4.toV);exact⟨β',G,hv⟩
def PD (R:uW P TT) {xs:List AV} (hT:TT[T]? =some ti) (hd:ti.d= .slice e) (S:TT[e]? =some te) (L:Nat.ble 1 te.size=true) (E:bW st ps=(xs.zipIdx 0).map λx=>(x.2,x.1)) (hl:Nat.beq (ln xs) len=true)
 (Y:xs.all (λx=>Nat.beq (ln x.cells) te.size&&(x.ok&&x.nokey))=true) (hb:Nat.ble (len*te.size) 65536=true) (G:Nat.beq (ln te.zero) te.size=true):
  vA P st (.buildSlice T len ps) (.sl true xs) [] [] []:=by
 refine⟨?_⟩;intro X tm h U _ hn o a w β W I M;obtain⟨C,f,A,O,B,V,q1,q2,q3,q4⟩:=MS false R hT hd S L E hl Y hb G o X tm h w β a W U M;rw[A];rw[cG];exact⟨β,xU.newFz I C e,.fz _ _ (xM.newArr I C e te.size xs (ln xs) f (zBo L) B (zBb _) q1 q2 q3 (q4.toF Z))⟩
def uK (ti:TI):AV:=bif ti.d.agg then .agg (ti.zero.map .s)else match ti.zero with
 | [v]=> .s v
 |_=> .bot
theorem WF (hP:uW P TT) {n:Nat} {kx ky:IntKind} {nx A:Int} (k:Nat) (hx:yX (zK st.tm) x= .s (.int kx nx)) (hy:yX (zK st.tm) y= .s (.int ky A)) (hT:TT[T]? =some ti) (hd:ti.d= .slice e) (he:TT[e]? =some te)
 (ar:nx=(n:Int)) (au:nx<=A) (a1:A<=1073741824) (hb:Nat.ble te.bytes 65536=true) (hp:Nat.ble 1 te.size=true) (E:Nat.beq (ln te.zero) te.size=true) (V:te.zero.all (·.oneCell')=true) (L:Nat.beq (uK te).cells.length te.size=true) (W:(uK te).cells=te.zero.map .s):
  vA P st (.makeSlice T x y) (.ref k 0 n) [(k,.arr te.size (pb n (uK te)) false)] [] [k]:=by
 refine⟨?_⟩;intro X tm h hg _ hn o a w β ho HH Ht;obtain⟨d0,o0,y0,p0,f0,g0⟩:=o;dsimp only at ho;subst ho;have h1:=vS Ht hg (x:=x) uO hx;have h2:=vS Ht hg (x:=y) uO hy;have hp:=zBo hp;have hb:=zBo hb;have E:=zBz E;have L:=zBz L;subst ar;obtain⟨i,z,S,hi,hz,e1,e2,e3⟩:=vB hP hT hd he
 have B:(i.bytes:Int)*A<=281474976710656:=by
  obtain⟨m,rfl⟩:=zCz (show 0<=A by omega);have:i.bytes*m<=65536*1073741824:=zDx (by omega) (by omega)
  grind
 have R:=run_make (P:=P) w T e i z S hi hz kx ky (n:Int) A (by omega) au B (by omega)
 have Y:(execOp a.eval ⟨d0,.makeSlice T x y,y0,p0,f0,g0⟩).run P w= .ok (.value (.slice (some ⟨w.heap.size,0,none⟩) n A.toNat)) (w.alloc (.cells (madeCells z.cells (A.toNat*i.size)) e)):=by
  simp only[execOp,h1,h2,Sem.run_bind,R,Result.andThen_ok,Sem.run_pure];rfl
 rw[Y];have az:z.cells.size=te.size:=by rw[<-E,<-e3];simp
 have C:(pb n (uK te)).length=n:=by simp
 have O:∀(j:Nat) v,(pb n (uK te))[j]? =some v->v=uK te:=λj v hv=>by
  grind
 have I:∀j,j<te.size->∃v,te.zero[j]? =some v/\z.cells.getD j undef=v:=λj hj=>by
  have:=jO z.cells j (by omega)
  grind
 have:=xU.newArr HH (hn k zV) (madeCells z.cells (A.toNat*i.size)) e te.size (pb n (uK te)) A.toNat (λ_ j=>z.cells.getD j undef) hp (by rw[C];unfold cF;omega) (by rw[C];omega) (by rw[size_madeCells,e1]) (kE.get (kE.made (λv hv=>zBk.1 V v MN) (by omega) _))
  (λj v hv=>by rw[O j v hv];exact L) (λM j hi' hj=>by
   rw[C]at hi'
   have ag:M*te.size+j<A.toNat*te.size:=by
    have:=zBt te.size (show M+1<=A.toNat by omega)
    grind
   have ap:(M*te.size+j) % te.size=j:=by rw[zE7,zFz];exact zD0 hj
   simp only[madeCells,e1,zF9,zFt,ag,zE8,zC0,az,ap]
   congr 1
   have ac:j<z.cells.size:=by omega
   simp[zB4,ac]) (λM j _ hj=>by
   obtain⟨v,hv,av⟩:=I j hj;rw[av]
   exact zBk.1 V v (zCq hv)) (λM v j u hv S=>by
   rw[O M v hv,W]at S;simp only[zBe,zBp]at S;obtain⟨q,hq,rfl⟩:=S;have hj:j<te.size:=by rw[<-E];exact(zBw.1 hq).1
   obtain⟨v',U,ax⟩:=I j hj;rw[ax];rw[hq]at U;cases U
   exact .s _)
 obtain⟨β',G,hv⟩:=this;rw[C]at hv;exact⟨β',G,hv⟩
def Tu {E G:Nat} {k:IntKind} {n:Int} (I:yX (zK st.tm) x= .s (.int k m)) (L:yX (zK st.tm) y= .s (.int k n)):vA P st (.call ⟨.builtin .max, #[x,y], #[E,G]⟩) (.s (.int k (max m n))) [] [] []:=
 yZ λM X W h w β a C B U O A=>by
  obtain⟨d0,o0,Y,V,R,S⟩:=M;dsimp only at C;subst C;have h1:=vS A B (x:=x) kS I;have h2:=vS A B (x:=y) kS L;refine⟨.int k (max m n),?_,.fz _ _ (.s _)⟩;have:(if n>m then n else m)=max m n:=by omega
  simp[execOp,resolve,invoke,builtin,Builtin.max_,Builtin.max2,h1,h2,this]
def Su {E G:Nat} {k:IntKind} {n:Int} (I:yX (zK st.tm) x= .s (.int k m)) (L:yX (zK st.tm) y= .s (.int k n)):vA P st (.call ⟨.builtin .min, #[x,y], #[E,G]⟩) (.s (.int k (min m n))) [] [] []:=
 yZ λM X W h w β a C B U O A=>by
  obtain⟨d0,o0,Y,V,R,S⟩:=M;dsimp only at C;subst C;have h1:=vS A B (x:=x) kS I;have h2:=vS A B (x:=y) kS L;refine⟨.int k (min m n),?_,.fz _ _ (.s _)⟩;have:(if n<m then n else m)=min m n:=by omega
  simp[execOp,resolve,invoke,builtin,Builtin.min_,Builtin.min2,h1,h2,this]
def VK (h:yT):AV->Bool
 | .sl true _=>true
 | .sl false (_::_)=>true
 | .ref k _ (_+1)=>match h k with
  |some (.arr _ _ _)=>true
  |_=>false
 |_=>false
def QI (B:uW P TT) (hT:TT[T]? =some ti) (hd:ti.d= .slice e) (w:World) (b:Option Addr) (n c:Nat):(Op.equal T (.slice b n c) (.slice none 0 0)).run P w= .ok b.isNone w:=by
 obtain⟨_,u,_,_,C,_,A,_⟩:=vR (B _ _ hT);obtain rfl:=uE (A.symm.trans hd)
 show(Op.equalIn (9999+1) T _ _).run P w=_
 unfold Op.equalIn
 cases b<;>simp[AA w C]
def xX (I:uW P TT) {C:AV} {v:Bool} (B:op= .eql/\v=false\/op= .neq/\v=true) (U:yX (zK st.tm) x=C) (hT:TT[T]? =some ti) (hd:ti.d= .slice e) (A:VK (zD st.h) C=true):
  vA P st (.binOp op T x (.const (.slice none 0 0)) ty) (.s (.bool v)) [] (OE C) []:=
 yZ λV X tm h w β a E O S W G=>by
  obtain⟨d0,o0,y0,p0,f0,g0⟩:=V;dsimp only at E;subst E;have h1:=gZ G O (x:=x) uO U
  obtain⟨b,n,c,hc⟩:∃b n c,a.eval x= .slice (some b) n c:=by
   generalize a.eval x=Y at h1
   cases h1 with
   |fz _ _ M=>
    cases M with
    |nil a cap=>simp[VK]at A
    |nil1 a cap=>exact⟨_,_,_,rfl⟩
    |sl _ _ b o sz cap f R hL hc hh=>exact⟨_,_,_,rfl⟩
    |_=>simp[VK]at A
   |ref _ _ _ _ _ _ _ _ _ _ _ _ _ _=>exact⟨_,_,_,rfl⟩
   |ref0 _ _ _ _ _ _ _ _=>simp[VK]at A
   |dref k off len _ hk _=>
    have:=S k (by simp[OE])
    cases len with
    |zero=>simp[VK]at A
    |succ m=>simp[VK,<-this,hk]at A
   |_=>simp[VK]at A
  have L:=QI I hT hd w (some b) n c;refine⟨.bool v,?_,.fz _ _ (.s _)⟩
  rcases B with⟨rfl,rfl⟩|⟨rfl,rfl⟩<;>simp[execOp,hc,show a.eval (.const (.slice none 0 0))= .slice none 0 0 from Z,eqGuard,binOp,L]
def yd (E:uW P TT) {v:Bool} {c:Nat} (A:op= .eql/\v=true\/op= .neq/\v=false) (L:yX (zK st.tm) x= .s (.slice none n c)) (hT:TT[T]? =some ti) (hd:ti.d= .slice e):
  vA P st (.binOp op T x (.const (.slice none 0 0)) ty) (.s (.bool v)) [] [] []:=
 yZ λM X W h w β a B I U O C=>by
  obtain⟨d0,o0,Y,V,R,S⟩:=M;dsimp only at B;subst B;have hc:=vS C I (x:=x) uO L;have G:=QI E hT hd w none n c;refine⟨.bool v,?_,.fz _ _ (.s _)⟩
  rcases A with⟨rfl,rfl⟩|⟨rfl,rfl⟩<;>simp[execOp,hc,show a.eval (.const (.slice none 0 0))= .slice none 0 0 from Z,eqGuard,binOp,G]
def QJ {p q:ByteArray} {v:Bool} (G:yX (zK st.tm) x= .s (.string p)) (I:yX (zK st.tm) y= .s (.string q))
 (A:op= .eql/\v=(p.toList==q.toList)\/op= .neq/\v= !(p.toList==q.toList)):vA P st (.binOp op tx x y ty) (.s (.bool v)) [] [] []:=
 yZ λo X R h w β a E C _ _ B=>by
  obtain⟨d0,o0,S,O,L,M⟩:=o;dsimp only at E;subst E;have h1:=vS B C (x:=x) uO G;have h2:=vS B C (x:=y) uO I;refine⟨.bool v,?_,.fz _ _ (.s _)⟩
  rcases A with⟨rfl,rfl⟩|⟨rfl,rfl⟩<;>simp[execOp,h1,h2,eqGuard,binOp,Op.stringOp]
end ops
end
