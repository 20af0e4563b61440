/- Part 1. -/
import Derived.Below
import Derived.Orders
import Derived.LoopN
import Derived.Laws.Sem
import Derived.KernelRfl
import Derived.Laws.AppendOwn
import Derived.Laws.CopyRow
import Derived.IntWalk
import Derived.Laws.MakeOwn
import Derived.Laws.Append
import Derived.Great.FillDense
import Derived.Laws.Tables
namespace Go.Proofs.YtdjfiebpnmieoaaGreat.Av
open List renaming length->ln,replicate->nm,range->ny,getD->oj
open Inhabited renaming default->dd
variable {a:Act}{ps:Array (Nat×Operand)}{z:Array Value}{op:BinOp}{ne nest nn:Bool}{m:Int}{fs:List (Nat×Nat)}{T b e el ft i j k l len n o off r sz tx ty:Nat}{f:Nat->Nat->Value}{D D' X:Nat->Prop}{ix s x y:Operand}{hi lo:Option Operand}{P:Program}{p:Prop}{α:Type}{u:TypeDesc}{c:Value}{w w':World}
theorem Z{α:Sort _}{a:α}:a=a:=rfl
set_option linter.all false
def Of:=@if_neg
def Os:=@if_pos
def zAa:=@List.length_map
def zAb:=@List.take_length
def zAc:=@decide_eq_false
def zAd:=@decide_eq_true
def zAe:=@decide_eq_true_eq
def zAf:=@List.map_append
def zAg:=@Nat.le_refl
def zAh:=@List.length_append
def zAi:=@List.getElem?_map
def zAj:=@List.take_of_length_le
def zAk:=@decide_eq_false_iff_not
def zAl:=@List.getD_eq_getElem?_getD
def zAm:=@List.length_cons
def zAn:=@Bool.and_eq_true
def zAo:=@Bool.true_and
def zAp:=@Bool.false_ne_true
def zAq:=@List.all_eq_true
def zAr:=@Nat.zero_le
def zAs:=@Option.map_eq_some_iff
def zAt:=@Nat.le_of_ble_eq_true
def zAu:=@List.drop_zero
def zAv:=@congrArg
def zAw:=@List.length_take
def zAx:=@Int.toNat_natCast
def zAy:=@beq_eq_false_iff_ne
def zAz:=@List.getElem?_eq_some_iff
def zA0:=@List.append_assoc
def zA1:=@Nat.mul_le_mul_right
def zA2:=@List.append_nil
def zA3:=@List.mem_range
def zA4:=@List.getElem?_eq_getElem
def zA5:=@List.mem_append
def zA6:=@List.getElem?_set_self
def zA7:=@Bool.false_and
def zA8:=@List.length_drop
def zA9:=@Nat.eq_of_beq_eq_true
def zBa:=@List.eq_nil_of_length_eq_zero
def zBb:=@List.ext_getElem?
def zBc:=@List.getElem?_append_right
def zBd:=@bne_eq_false_iff_eq
def zBe:=@Array.getD_eq_getD_getElem?
def zBf:=@List.mem_singleton
def zBg:=@List.getElem?_append_left
def zBh:=@List.length_nil
def zBi:=@Nat.le_trans
def zBj:=@List.mem_of_mem_drop
def zBk:=@List.map_cons
def zBl:=@beq_iff_eq
def zBm:=@Int.tmod_eq_emod_of_nonneg
def zBn:=@Nat.lt_of_lt_of_le
def zBo:=@List.length_range
def zBp:=@List.length_set
def zBq:=@Nat.add_mul
def zBr:=@cond_true
def zBs:=@List.map_set
def zBt:=@List.map_nil
def zBu:=@List.getElem?_range
def zBv:=@List.mem_cons
def zBw:=@Option.some.injEq
def zBx:=@Nat.zero_add
def zBy:=@List.length_filter_le
def zBz:=@List.any_eq_true
def zB0:=@List.mem_map
def zB1:=@List.mem_of_getElem?
def zB2:=@List.getElem?_eq_none
def zB3:=@List.getElem?_take
def zB4:=@Int.eq_ofNat_of_zero_le
def zB5:=@List.mem_of_mem_take
def zB6:=@List.length_replicate
def zB7:=@Nat.not_lt_zero
def zB8:=@Option.map_some
def zB9:=@bne_iff_ne
def zCa:=@Bool.and_false
def zCb:=@Nat.le_of_eq
def zCc:=@cond_false
def zCd:=@List.take_append_of_le_length
def zCe:=@Int.tdiv_eq_ediv_of_nonneg
def zCf:=@List.range_succ
def zCg:=@Array.getElem?_append_left
def zCh:=@Int.fdiv_eq_ediv_of_nonneg
def zCi:=@List.length_singleton
def zCj:=@List.getElem?_replicate
def zCk:=@List.take_succ_eq_append_getElem
def zCl:=@Nat.sub_self
def zCm:=@Bool.or_eq_true
def zCn:=@Int.le_refl
def zCo:=@Array.getElem?_eq_some_iff
def zCp:=@Bool.false_or
def zCq:=@Bool.not_eq_true
def zCr:=@Prod.mk.injEq
def zCs:=@Decidable.not_not
def zCt:=@List.getElem?_drop
def zCu:=@Nat.one_mul
def zCv:=@List.nil_append
def zCw:=@List.getElem_of_mem
def zCx:=@Bool.not_eq_true'
def zCy:=@List.any_eq_false
def zCz:=@List.take_add_one
def zC0:=@List.cons_append
def zC1:=@Option.getD_some
def zC2:=@ne_eq
def zC3:=@Bool.and_true
def zC4:=@List.map_drop
def zC5:=@Nat.lt_irrefl
def zC6:=@Bool.true_or
def zC7:=@List.contains_iff_mem
def zC8:=@Nat.add_zero
def zC9:=@Nat.mod_eq_of_lt
def zDa:=@Nat.mul_le_mul
def zDb:=@List.flatten_cons
def zDc:=@Option.map_none
def zDd:=@List.getElem?_toArray
def zDe:=@List.set_append_right
def zDf:=@BitVec.toNat_ofNat
def zDg:=@List.map_take
def zDh:=@BitVec.ofInt_natCast
def zDi:=@List.take_zero
def zDj:=@List.all_eq_false
def zDk:=@List.getElem?_set
def zDl:=@List.size_toArray
def zDm:=@Option.some.inj
def zDn:=@Array.length_toList
def zDo:=@List.drop_eq_nil_of_le
def zDp:=@List.zipWith_cons_cons
def zDq:=@Int.emod_lt_of_pos
def zDr:=@List.map_replicate
def zDs:=@List.take_append_drop
def zDt:=@Nat.ble_eq_true_of_le
def zDu:=@List.drop_eq_getElem_cons
def zDv:=@List.mem_or_eq_of_mem_set
def zDw:=@Bool.or_true
def zDx:=@Int.not_le
def zDy:=@Int.not_lt
def zDz:=@List.getElem?_of_mem
def zD0:=@of_decide_eq_true
def zD1:=@Nat.shiftLeft_add_eq_or_of_lt
def zD2:=@List.flatten_append
def zD3:=@List.replicate_succ
def zD4:=@Int.emod_nonneg
def zD5:=@List.mem_filter
def zD6:=@Classical.byContradiction
def zD7:=@List.replicate_succ'
def zD8:=@Nat.pow_le_pow_right
def zD9:=@List.getElem_mem
def zEa:=@Int.toNat_of_nonneg
def zEb:=@List.set_cons_zero
def zEc:=@of_decide_eq_false
def zEd:=@Bool.eq_false_iff
def zEe:=@Bool.not_false
def zEf:=@List.map_map
def zEg:=@List.singleton_append
def zEh:=@Nat.mul_comm
def zEi:=@Nat.zero_mul
def zEj:=@Array.getElem?_append_right
def zEk:=@List.drop_length
def zEl:=@List.getElem?_zipIdx
def zEm:=@List.mem_flatten
def zEn:=@List.pairwise_append
def zEo:=@Nat.le_of_mul_le_mul_right
def zEp:=@if_true
def zEq:=@List.mem_replicate
def zEr:=@List.set_set
def zEs:=@Array.size_append
def zEt:=@not_true_eq_false
def zEu:=@Bool.or_false
def zEv:=@Array.toList_map
def zEw:=@List.not_mem_nil
def zEx:=@and_false
def zEy:=@Array.getElem?_range
def zEz:=@Bool.eq_iff_iff
def zE0:=@Int.natCast_mul
def zE1:=@List.getElem?_set_ne
def zE2:=@Nat.le_of_lt
def zE3:=@Nat.mul_add_mod
def zE4:=@Nat.sub_zero
def zE5:=@decide_false
def zE6:=@List.replicate_zero
def zE7:=@List.take_succ_cons
def zE8:=@List.nodup_nil
def zE9:=@if_false
def zFa:=@Int.one_mul
def zFb:=@Nat.sub_mul
def zFc:=@decide_true
def zFd:=@Array.getElem?_map
def zFe:=@Bool.false_eq_true
def zFf:=@List.filter_append
def zFg:=@List.pairwise_cons
def zFh:=@Bool.not_true
def zFi:=@List.all_cons
def zFj:=@Nat.add_assoc
def zFk:=@Nat.or_lt_two_pow
def zFl:=@not_false_eq_true
def zFm:=@List.mem_of_find?_eq_some
def zFn:=@dif_pos
def zFo:=@Int.natCast_succ
def zFp:=@Int.pow_succ
def zFq:=@List.mem_toArray
def zFr:=@Nat.lt_or_ge
def zFs:=@Nat.shiftLeft_eq
def zFt:=@or_false
def zFu:=@BitVec.toNat_or
def zFv:=@List.drop_of_length_le
def zFw:=@List.mapM_cons
def zFx:=@List.set_getElem_self
def zFy:=@Nat.mod_lt
def zFz:=@and_true
def zF0:=@List.any_cons
def zF1:=@Int.min_self
def zW (h:p:=by simp):p:=h
def yX (h:p:=by decide):p:=h
def vF (h:p:=by(first|rfl|assumption)):p:=h
def uH (h:p:=by(simp;omega)):p:=h
def qF (h:p:=by simp[Op.operands]):p:=h
def gH (h:p:=by simp[Op.operands,Call.operands]):p:=h
def aO (h:p:=by assumption):p:=h
def XD (h:p:=by simp[List.getD,hi']):p:=h
def UH (h:p:=by kernel_rfl):p:=h
def NM (h:p:=by(dsimp only;omega)):p:=h
def YZ (h:p:=by(rw[hd];simp)):p:=h
def WC (h:p:=by simpa using h):p:=h
def UV (h:p:=by(have:=H.vl;omega)):p:=h
def QO (h:p:=by simp[hi]):p:=h
def OT (h:p:=by simp[hx]):p:=h
def OU (h:p:=by(rw[zA8];omega)):p:=h
def JE (h:p:=by(first|exact zC4.symm|rfl)):p:=h
def JF (h:p:=by(first|exact zDg.symm|rfl)):p:=h
def JG (h:p:=by(first|assumption|rfl)):p:=h
def JH (h:p:=by(rw[hh j hj];exact hk')):p:=h
def JJ (h:p:=by(rw[<-e3];exact hv)):p:=h
def GM (h:p:=by(rw[zAw];omega)):p:=h
def GN (h:p:=by(have:=J.n;omega)):p:=h
def GO (h:p:=by(rw[hd];decide)):p:=h
def GP (h:p:=by simpa using hb):p:=h
def GQ (h:p:=by(rw[hk];rfl)):p:=h
def GR (h:p:=by(rw[hk];exact q1)):p:=h
def Sa (h:p:=by(rw[hh];decide)):p:=h
def Qa (h:p:=by(rw[hL];simp)):p:=h
def Pa (h:p:=by simpa using hi):p:=h
def Oa (h:p:=by simpa using h2):p:=h
def Na (h:p:=by simpa using hl):p:=h
def Ma (h:p:=by simpa using h1):p:=h
def La (h:p:=by simpa using hv):p:=h
def Wg (h:p:=by(rw[zAw,zA8];omega)):p:=h
def Vg (h:p:=by(rw[hβ j hj];exact hb)):p:=h
def Ug (h:p:=by simpa using this):p:=h
def Tg (h:p:=by(rw[hl]at hi;omega)):p:=h
def Qg (h:p:=by(rw[hbk,e];simp)):p:=h
def Pg (h:p:=by(simp[List.getD];rw[zA4 zB];simp)):p:=h
def Og (h:p:=by(rw[zAe];exact hs)):p:=h
def Xo (h:p:=by(rw[zBp];exact zAg _)):p:=h
def Wo (h:p:=by(rcases hxv with h|h;exact .inl h;exact .inr h.1)):p:=h
def Vo (h:p:=by(rw[hh j hk];exact hk')):p:=h
def Uo (h:p:=by rw[zAu,zAb]):p:=h
def Gx (h:p:=by(rw[zB6];exact zAg _)):p:=h
def Fx (h:p:=by(rw[zAh,zCi];omega)):p:=h
def Ex (h:p:=by rw[hN,zAu,<-hz3l,zAb]):p:=h
def Dx (h:p:=by(rw[zAl,zA4 hr1];exact zD9 _)):p:=h
def Cx (h:p:=by(rcases hk with hk|hk|hk|hk<;>rw[hk]<;>rfl)):p:=h
inductive AV where
 |bot
 |gh (n:Nat)
 |s (v:Value)
 |agg (cs:List AV)
 |sl (nn:Bool) (xs:List AV)
 |slc (cap:Nat) (xs:List AV)
 |ref (k off len:Nat)
 |ptr (k i off:Nat)
 |fp (xs:List AV) (i off:Nat)
 |fn (f:Nat) (caps:List AV)
 |tup (vs:List AV)
 |fm (ob:Option Nat) (p:Obj->Prop)
 deriving Inhabited
def AV.cells:AV->List AV
 | .agg cs=>cs
 |v=>[v]
def AV.isAgg:AV->Bool
 | .agg _=>true
 |_=>false
def aP:Nat:=9223372036854775807
structure J1 (w:World) (D:Nat->Prop) (xs:List AV) (b o sz:Nat) (f:Nat->Nat->Value):Prop where
 lt:b<w.heap.size
 nd:¬D b
 pos:1<=sz
 max:xs.length<=aP
 wide:∀(i:Nat) (x:AV),xs[i]? =some x->x.cells.length=sz
 cell:∀i j,i<xs.length->j<sz->w.cell? ⟨b,o+i*sz+j,none⟩=some (f i j)
 one:∀i j,i<xs.length->j<sz->(f i j).oneCell'=true
inductive xS (w:World) (D:Nat->Prop):AV->Value->Prop
 |bot (c:Value):xS w D .bot c
 |gh (n:Nat) (c:Value):xS w D (.gh n) c
 |s (v:Value):xS w D (.s v) v
 |agg (cs:List AV) (c:Array Value) (hl:c.size=cs.length) (h1:∀i,i<c.size->(c.getD i undef).oneCell'=true) (h:∀(i:Nat) v,cs[i]? =some v->xS w D v (c.getD i undef)):xS w D (.agg cs) (.agg c)
 |nil (a:Option Addr) (cap:Nat):xS w D (.sl false []) (.slice a 0 cap)
 |nil1 (a:Addr) (cap:Nat):xS w D (.sl true []) (.slice (some a) 0 cap)
 |sl (nn:Bool) (xs:List AV) (b o sz cap:Nat) (f:Nat->Nat->Value) (hx:xs≠[]) (hL:J1 w D xs b o sz f) (hc:xs.length<=cap)
  (h:∀(i:Nat) (x:AV) (j:Nat) v,xs[i]? =some x->x.cells[j]? =some v->xS w D v (f i j)):xS w D (.sl nn xs) (.slice (some ⟨b,o,none⟩) xs.length cap)
 |slc (cap:Nat) (xs:List AV) (b o sz:Nat) (f:Nat->Nat->Value) (hL:J1 w D xs b o sz f) (hc:xs.length<=cap)
  (h:∀(i:Nat) (x:AV) (j:Nat) v,xs[i]? =some x->x.cells[j]? =some v->xS w D v (f i j)):xS w D (.slc cap xs) (.slice (some ⟨b,o,none⟩) xs.length cap)
 |fp (xs:List AV) (b o sz i off:Nat) (f:Nat->Nat->Value) (hL:J1 w D xs b o sz f) (hi:i<xs.length) (ho:off<sz)
  (h:∀(i:Nat) (x:AV) (j:Nat) v,xs[i]? =some x->x.cells[j]? =some v->xS w D v (f i j)):xS w D (.fp xs i off) (.pointer (some ⟨b,o+i*sz+off,none⟩))
 |fm (ob:Option Nat) (p:Obj->Prop) (b:Nat) (x:Obj) (ho:∀n,ob=some n->n=b) (hl:b<w.heap.size) (hd:¬D b) (hx:w.heap[b]? =some x) (hp:p x):xS w D (.fm ob p) (.map (some b))
structure Fl where
 stale:Bool
 nest:Bool
variable {sl:Fl}
instance:Coe Bool Fl:=⟨λb=>⟨b,false⟩⟩
inductive wB where
 |box (cs:List AV)
 |arr (sz:Nat) (xs:List AV) (fl:Fl)
 |dead
 |obj (o:Nat×(Obj->Prop))
abbrev yS:=Nat->Option wB
variable {h h':yS}
abbrev qG:=Nat->List (Nat×Nat)
variable {β β':qG}
def wW (w:World) (b:Nat):Nat:=((w.shape? b).map (·.2)).getD 0
inductive yK (w:World) (D:Nat->Prop) (h:yS) (β:qG):AV->Value->Prop
 |fz (v:AV) (c:Value) (hf:xS w D v c):yK w D h β v c
 |agg (cs:List AV) (c:Array Value) (hl:c.size=cs.length) (h1:∀i,i<c.size->(c.getD i undef).oneCell'=true) (hh:∀(i:Nat) v,cs[i]? =some v->yK w D h β v (c.getD i undef)):yK w D h β (.agg cs) (.agg c)
 |fn (f:Nat) (caps:List AV) (c:Array Value) (hl:c.size=caps.length) (hh:∀(i:Nat) v,caps[i]? =some v->yK w D h β v (c.getD i undef)):yK w D h β (.fn f caps) (.func (.func f) #[] c)
 |tup (vs:List AV) (c:Array Value) (hl:c.size=vs.length) (hh:∀(i:Nat) v,vs[i]? =some v->yK w D h β v (c.getD i undef)):yK w D h β (.tup vs) (.tuple c)
 |dref (k off len:Nat) (c:Value) (hk:h k=some .dead) (h1:c.oneCell'=true):yK w D h β (.ref k off len) c
 |dptr (k i off:Nat) (c:Value) (hk:h k=some .dead) (h1:c.oneCell'=true):yK w D h β (.ptr k i off) c
 |ref (k off len sz:Nat) (xs:List AV) (st:Fl) (b n cap:Nat) (hk:h k=some (.arr sz xs st)) (hb:(b,n)∈β k) (hn:off+len<=n) (hc:len<=cap) (hs:(off+cap)*sz=wW w b):
  yK w D h β (.ref k off len) (.slice (some ⟨b,off*sz,none⟩) len cap)
 |ref0 (k off sz:Nat) (xs:List AV) (st:Fl) (a:Option Addr) (hk:h k=some (.arr sz xs st)) (hn:off<=xs.length):yK w D h β (.ref k off 0) (.slice a 0 0)
 |pbox (k off:Nat) (cs:List AV) (b n:Nat) (hk:h k=some (.box cs)) (hb:(b,n)∈β k):yK w D h β (.ptr k 0 off) (.pointer (some ⟨b,off,none⟩))
 |parr (k i off sz:Nat) (xs:List AV) (st:Fl) (b n:Nat) (hk:h k=some (.arr sz xs st)) (hb:(b,n)∈β k) (hi:i<n) (ho:off<sz):
  yK w D h β (.ptr k i off) (.pointer (some ⟨b,i*sz+off,none⟩))
def xX (X:Nat->Prop) (β:qG) (b:Nat):Prop:=X b\/∃k n,(b,n)∈β k
def fI (w:World) (D:Nat->Prop) (h:yS) (β:qG) (nest:Bool) (xs:List AV) (f:Nat->Nat->Value):Prop:=
 ∀(i:Nat) (x:AV) (j:Nat) v,xs[i]? =some x->x.cells[j]? =some v->yK w D h β v (f i j)/\(nest=false->xS w D v (f i j))
theorem fI.ofF {xs:List AV} (H:∀(i:Nat) (x:AV) (j:Nat) v,xs[i]? =some x->x.cells[j]? =some v->xS w D v (f i j)):fI w D h β nest xs f:=
 λi x j v hx hv=>⟨.fz _ _ (H i x j v hx hv),λ_=>H i x j v hx hv⟩
theorem fI.toF {xs:List AV} (H:fI w D h β nest xs f) (A:nest=false) (i:Nat) (x:AV) (j:Nat) (v:AV) (hx:xs[i]? =some x) (hv:x.cells[j]? =some v):xS w D v (f i j):=
 (H i x j v hx hv).2 A
theorem fI.toV {xs:List AV} (H:fI w D h β nest xs f) (i:Nat) (x:AV) (j:Nat) (v:AV) (hx:xs[i]? =some x) (hv:x.cells[j]? =some v):yK w D h β v (f i j):=
 (H i x j v hx hv).1
def UW (w:World) (D:Nat->Prop) (h:yS) (β:qG) (k:Nat):wB->Prop
 | .box cs=>∃b c el,β k=[(b,0)]/\w.heap[b]? =some (.cells c el (0,0))/\c.size=ln cs/\(∀i,i<c.size->(c.getD i undef).oneCell'=true)/\∀(i:Nat) v,cs[i]? =some v->yK w D h β v (c.getD i undef)
 | .obj o=>β k=[(o.1,0)]/\∃x,w.heap[o.1]? =some x/\o.2 x
 | .arr sz xs st=>1<=sz/\xs.length<=aP/\(xs≠[]->β k≠[])/\(∀(i:Nat) (x:AV),xs[i]? =some x->ln x.cells=sz)/\
  (∀b n r,β k=(b,n)::r->n=ln xs/\(st.stale=false->∀B A,(B,A)∈r->A=0)/\∀B A,(B,A)∈r->A<ln xs)/\
  ∃f:Nat->Nat->Value,fI w D h β st.nest xs f/\(∀i j,i<ln xs->j<sz->(f i j).oneCell'=true)/\
   ∀b n,(b,n)∈β k->∃c el,w.heap[b]? =some (.cells c el (0,0))/\n*sz<=c.size/\(∀i j,i<n->j<sz->c[i*sz+j]? =some (f i j))/\∀i,i<c.size->(c.getD i undef).oneCell'=true
 | .dead=>β k=[]
structure gW (X:Nat->Prop) (h:yS) (β:qG) (w:World):Prop where
 ent:∀k e,h k=some e->UW w (xX X β) h β k e
 off:∀k,h k=none->β k=[]
 disj:∀k k' b n n',(b,n)∈β k->(b,n')∈β k'->k=k'
 free:∀k b n,(b,n)∈β k->¬X b
 lt:∀b,xX X β b->b<w.heap.size
structure CR (w:World) (D:Nat->Prop) (h:yS) (β:qG) (w':World) (D':Nat->Prop) (h':yS) (β':qG):Prop where
 size:w.heap.size<=w'.heap.size
 fz:∀b,b<w.heap.size->¬D b->w'.heap[b]? =w.heap[b]? /\¬D' b
 bs:∀k b n,(b,n)∈β k->wW w' b=wW w b
 key:∀k e,h k=some e->h' k=some .dead\/match e with
  | .dead=>False
  | .box _=>(∃cs',h' k=some (.box cs'))/\∀b n,(b,n)∈β k->(b,n)∈β' k
  | .obj _=>(∃cs',h' k=some (.obj cs'))/\∀b n,(b,n)∈β k->(b,n)∈β' k
  | .arr sz xs _=>(∃xs' st',h' k=some (.arr sz xs' st')/\xs.length<=xs'.length)/\∀b n,(b,n)∈β k->∃n',n<=n'/\(b,n')∈β' k
theorem J1.evo {xs:List AV} {b:Nat} (hL:J1 w D xs b o sz f) (hs:w.heap.size<=w'.heap.size)
 (A:∀b,b<w.heap.size->¬D b->w'.heap[b]? =w.heap[b]? /\¬D' b):J1 w' D' xs b o sz f:=
 ⟨zBn hL.lt hs,(A b hL.lt hL.nd).2,hL.pos,hL.max,hL.wide,λi j hi hj=>(World.cell?_of_block (a:=⟨b,o+i*sz+j,none⟩) (A b hL.lt hL.nd).1).trans (hL.cell i j hi hj),hL.one⟩
theorem xS.evo (hs:w.heap.size<=w'.heap.size) (B:∀b,b<w.heap.size->¬D b->w'.heap[b]? =w.heap[b]? /\¬D' b)
 {v:AV} (h:xS w D v c):xS w' D' v c:=by
 induction h with
 |bot c=>exact .bot c
 |gh n c=>exact .gh n c
 |s v=>exact .s v
 |agg cs c hl h1 _ A=>exact .agg cs c hl h1 A
 |nil a cap=>exact .nil a cap
 |nil1 a cap=>exact .nil1 a cap
 |sl nn xs b o sz cap f hx hL hc _ A=>exact .sl nn xs b o sz cap f hx (hL.evo hs B) hc A
 |slc cap xs b o sz f hL hc _ A=>exact .slc cap xs b o sz f (hL.evo hs B) hc A
 |fp xs b o sz i off f hL hi C _ A=>exact .fp xs b o sz i off f (hL.evo hs B) hi C A
 |fm G p b x C hl hd hx E=>exact .fm G p b x C (zBn hl hs) (B b hl hd).2 ((B b hl hd).1.trans hx) E
theorem yK.evo (E:CR w D h β w' D' h' β') {v:AV} (hv:yK w D h β v c):yK w' D' h' β' v c:=by
 induction hv with
 |fz v c M=>exact .fz v c (M.evo E.size E.fz)
 |agg cs c hl h1 _ G=>exact .agg cs c hl h1 G
 |fn f C c hl _ G=>exact .fn f C c hl G
 |tup vs c hl _ G=>exact .tup vs c hl G
 |dref k off len c hk h1=>exact .dref _ _ _ _ ((E.key k _ hk).resolve_right (λf=>f)) h1
 |dptr k i off c hk h1=>exact .dptr _ _ _ _ ((E.key k _ hk).resolve_right (λf=>f)) h1
 |ref k off len sz xs st b n cap hk hb I hc hs=>
  rcases E.key k _ hk with hd|⟨⟨xs',st',hk',_⟩,hm⟩
  .exact .dref _ _ _ _ hd Z
  .obtain⟨L,B,A⟩:=hm b n hb;exact .ref k off len sz xs' st' b L cap hk' A (zBi I B) hc (by rw[E.bs k b n hb];exact hs)
 |ref0 k off sz xs st a hk I=>
  rcases E.key k _ hk with hd|⟨⟨xs',st',hk',hl⟩,hm⟩
  .exact .dref _ _ _ _ hd Z
  .exact .ref0 k off sz xs' st' a hk' (zBi I hl)
 |pbox k off cs b n hk hb=>
  rcases E.key k _ hk with hd|⟨⟨cs',hk'⟩,hm⟩
  .exact .dptr _ _ _ _ hd Z
  .exact .pbox k off cs' b n hk' (hm b n hb)
 |parr k i off sz xs st b n hk hb hi O=>
  rcases E.key k _ hk with hd|⟨⟨xs',st',hk',hl⟩,hm⟩
  .exact .dptr _ _ _ _ hd Z
  .obtain⟨L,B,A⟩:=hm b n hb;exact .parr k i off sz xs' st' b L hk' A (zBn hi B) O
theorem fI.evo (E:CR w D h β w' D' h' β') {xs:List AV} (H:fI w D h β nest xs f):fI w' D' h' β' nest xs f:=
 λi x j v hx hv=>⟨(H i x j v hx hv).1.evo E,λA=>((H i x j v hx hv).2 A).evo E.size E.fz⟩
structure wG (X:Nat->Prop) (w:World) (h:yS) (β:qG) (w':World) (h':yS) (β':qG):Prop where
 size:w.heap.size<=w'.heap.size
 keep:∀b,b<w.heap.size->(∀k n,(b,n)∉β k)->w'.heap[b]? =w.heap[b]?
 own:∀k b n,(b,n)∈β' k->(∃k' n',(b,n')∈β k')\/w.heap.size<=b
 bs:∀k b n,(b,n)∈β k->wW w' b=wW w b
 key:∀k e,h k=some e->h' k=some .dead\/match e with
  | .dead=>False
  | .box _=>(∃cs',h' k=some (.box cs'))/\∀b n,(b,n)∈β k->(b,n)∈β' k
  | .obj _=>(∃cs',h' k=some (.obj cs'))/\∀b n,(b,n)∈β k->(b,n)∈β' k
  | .arr sz xs _=>(∃xs' st',h' k=some (.arr sz xs' st')/\xs.length<=xs'.length)/\∀b n,(b,n)∈β k->∃n',n<=n'/\(b,n')∈β' k
 hok:gW X h' β' w'
 os:w'.os=w.os
 tape:w'.tape=w.tape
 output:w'.output=w.output
theorem wG.evo (G:wG X w h β w' h' β'):CR w (xX X β) h β w' (xX X β') h' β' where
 size:=G.size
 fz b hb hd:=by
  have h1:∀k n,(b,n)∉β k:=λk n A=>hd (.inr ⟨k,n,A⟩)
  refine⟨G.keep b hb h1,?_⟩;rintro(hx|⟨k,n,A⟩)
  .exact hd (.inl hx)
  .rcases G.own k b n A with⟨B,C,h2⟩|h2
   .exact h1 _ _ h2
   .omega
 bs:=G.bs
 key:=G.key
theorem jS (h:yS) (β:qG):∀k e,h k=some e->h k=some .dead\/match e with
 | .dead=>False
 | .box _=>(∃A,h k=some (.box A))/\∀b n,(b,n)∈β k->(b,n)∈β k
 | .obj _=>(∃A,h k=some (.obj A))/\∀b n,(b,n)∈β k->(b,n)∈β k
 | .arr sz xs _=>(∃B st',h k=some (.arr sz B st')/\xs.length<=ln B)/\∀b n,(b,n)∈β k->∃C,n<=C/\(b,C)∈β k:=by grind
theorem wG.refl (H:gW X h β w):wG X w h β w h β:=
 ⟨zAg _,λ_ _ _=>rfl,λk _ n A=> .inl ⟨k,n,A⟩,λ_ _ _ _=>rfl,jS h β,H,rfl,rfl,rfl⟩
theorem gW.drew {w:World} (H:gW X h β w) (n:Nat):gW X h β {w with drawn:=n}:=by
 have E:∀{v c},yK w (xX X β) h β v c->yK {w with drawn:=n} (xX X β) h β v c:=λhv=>
  yK.evo (w:=w) (w':={w with drawn:=n}) (D':=xX X β) (h':=h) (β':=β) ⟨zAg _,λ_ _ hd=>⟨rfl,hd⟩,λ_ _ _ _=>rfl,jS h β⟩ hv
 have I:∀{v c},xS w (xX X β) v c->xS {w with drawn:=n} (xX X β) v c:=λhv=>xS.evo (w:=w) (w':={w with drawn:=n}) (D':=xX X β) (zAg _) (λ_ _ hd=>⟨rfl,hd⟩) hv
 refine⟨λk e M=>?_,H.off,H.disj,H.free,H.lt⟩;have:=H.ent k e M
 cases e with
 |dead=>exact this
 |box cs=>
  obtain⟨b,c,el,h1,h2,A,B,C⟩:=this;exact⟨b,c,el,h1,h2,A,B,λi v hv=>E (C i v hv)⟩
 |obj cs=>
  exact this
 |arr sz xs st=>
  obtain⟨h1,h2,A,B,C,f,G,L⟩:=this;exact⟨h1,h2,A,B,C,f,λi x j v hx hv=>⟨E (G i x j v hx hv).1,λO=>I ((G i x j v hx hv).2 O)⟩,L⟩
theorem wG.drew {w:World} (H:gW X h β w) (n:Nat):wG X w h β {w with drawn:=n} h β:=
 ⟨zAg _,λ_ _ _=>rfl,λk _ n A=> .inl ⟨k,n,A⟩,λ_ _ _ _=>rfl,jS h β,H.drew n,rfl,rfl,rfl⟩
theorem wG.trans {O:World} {E:yS} {R:qG} (H:gW X h β w) (G:wG X w h β w' h' β') (K:wG X w' h' β' O E R):wG X w h β O E R where
 size:=zBi G.size K.size
 keep b hb hn:=by
  rw[K.keep b (zBn hb G.size),G.keep b hb hn];intro k n A
  rcases G.own k b n A with⟨S,C,h2⟩|h2
  .exact hn _ _ h2
  .omega
 own k b n A:=by
  rcases K.own k b n A with⟨S,C,h2⟩|h2
  .exact G.own S b C h2
  .exact .inr (zBi G.size h2)
 bs k b n A:=by
  have hb:=H.lt b (.inr ⟨k,n,A⟩);by_cases hd:∃k n,(b,n)∈β' k
  .obtain⟨S,C,B⟩:=hd;rw[K.bs S b C B,G.bs k b n A]
  .rw[<-G.bs k b n A];unfold wW World.shape?;rw[K.keep b (zBn hb G.size) λk n A=>hd ⟨k,n,A⟩]
 key k e he:=by
  rcases G.key k e he with h1|h1
  .rcases K.key k _ h1 with h2|h2
   .exact .inl h2
   .exact h2.elim
  .cases e with
   |dead=>exact h1.elim
   |box cs=>
    obtain⟨⟨U,h2⟩,I⟩:=h1
    rcases K.key k _ h2 with h4|⟨h4,h5⟩
    .exact .inl h4
    .exact .inr ⟨h4,λb n A=>h5 b n (I b n A)⟩
   |obj cs=>
    obtain⟨⟨U,h2⟩,I⟩:=h1
    rcases K.key k _ h2 with h4|⟨h4,h5⟩
    .exact .inl h4
    .exact .inr ⟨h4,λb n A=>h5 b n (I b n A)⟩
   |arr sz xs st=>
    obtain⟨⟨Y,st',h2,hl⟩,I⟩:=h1
    rcases K.key k _ h2 with h4|⟨⟨xs'',st'',h4,hl'⟩,h5⟩
    .exact .inl h4
    .refine .inr ⟨⟨xs'',st'',h4,zBi hl hl'⟩,λb n A=>?_⟩;obtain⟨C,V,B⟩:=I b n A;obtain⟨W,M,L⟩:=h5 b C B;exact⟨W,zBi V M,L⟩
 hok:=K.hok
 os:=K.os.trans G.os
 tape:=K.tape.trans G.tape
 output:=K.output.trans G.output
section
inductive TD where
 |str (fs:List (Nat×Nat))
 |slice (e:Nat)
 |arr (n e:Nat)
 |int (k:IntKind)
 |bool
 |string
 |ptr (e:Nat)
 |func
 |other
structure TI where
 d:TD
 size:Nat
 bytes:Nat
 zero:List Value
def TD.agg:TD->Bool
 | .str _| .arr _ _=>true
 |_=>false
def UI:TypeDesc->TD
 | .struct fs=> .str (fs.toList.map λf=>(f.offset,f.type))
 | .slice e=> .slice e
 | .array n e=> .arr n e
 | .int k=> .int k
 | .bool=> .bool
 | .string=> .string
 | .pointer e=> .ptr e
 | .func .. => .func
 |_=> .other
def To (P:Program) (t:Nat):Option TI:=
 match P.info? t,P.underlying t with
 |some i,some u=>i.zero.map λz=>⟨UI u,i.size,i.bytes,z.cells.toList⟩
 |_,_=>none
def qS (P:Program) (TT:List TI):Prop:=∀(t:Nat) ti,TT[t]? =some ti->To P t=some ti
def uU {t:Nat} {A:TI} (h:To P t=some A):∃i u z,P.info? t=some i/\P.underlying t=some u/\i.zero=some z/\A.d=UI u/\A.size=i.size/\A.bytes=i.bytes/\A.zero=z.cells.toList:=by
 unfold To at h;split at h
 .rename_i i u hi C
  cases B:i.zero with
  |none=>simp[B]at h
  |some z=>
   grind
 .cases h
section runs
variable {P:Program} {t:Nat} {ti:TI} (h:To P t=some ti) (w:World)
include h
def Ka:∃i z,(typeInfo t).run P w= .ok i w/\i.size=ti.size/\i.bytes=ti.bytes/\i.zero=some z/\z.cells.toList=ti.zero:=by
 obtain⟨i,u,z,hi,_,B,_,hs,hb,A⟩:=uU h;exact⟨i,z,by simp[typeInfo,hi],hs.symm,hb.symm,B,A.symm⟩
def kE:(sizeOf t).run P w= .ok ti.size w:=by
 obtain⟨i,z,A,hs,_⟩:=Ka h w;simp[sizeOf,A,hs]
def So:∃z,(zeroValue t).run P w= .ok z w/\z.cells.toList=ti.zero:=by
 obtain⟨i,z,B,_,_,C,A⟩:=Ka h w;exact⟨z,by simp[zeroValue,B,C],A⟩
def wL:∃u,(underlying t).run P w= .ok u w/\UI u=ti.d:=by
 obtain⟨i,u,z,_,A,_,hd,_⟩:=uU h;exact⟨u,by simp[underlying,A],hd.symm⟩
def Ng:(isAgg t).run P w= .ok ti.d.agg w:=by
 obtain⟨u,A,hd⟩:=wL h w;rw[<-hd];simp only[isAgg,Sem.run_bind,A,Result.andThen_ok]
 cases u<;>rfl
end runs
def Ja {t:Nat} (w:World) (A:P.underlying t=some u):(underlying t).run P w= .ok u w:=by simp[underlying,A]
def uP (h:UI u= .slice e):u= .slice e:=by cases u<;>simp[UI]at h;rw[h]
def Ro (h:UI u= .arr n e):u= .array n e:=by cases u<;>simp[UI]at h;rw[h.1,h.2]
def EU {k:IntKind} (h:UI u= .int k):u= .int k:=by cases u<;>simp[UI]at h;rw[h]
def Ku (h:UI u= .bool):u= .bool:=by cases u<;>simp[UI]at h;rfl
def Si (h:UI u= .string):u= .string:=by cases u<;>simp[UI]at h;rfl
def Qo (h:UI u= .str fs):∃f,u= .struct f/\f.toList.map (λf=>(f.offset,f.type))=fs:=by
 cases u with
 |struct f=>exact⟨f,rfl,by simpa [UI]using h⟩
 |_=>simp[UI]at h
structure St where
 tm:List (Nat×AV)
 h:List (Nat×wB)
def zM:List (Nat×AV)->Nat->AV
 | [],_=> .bot
 |(k,v)::r,t=>bif Nat.beq t k then v else zM r t
def zE:List (Nat×wB)->Nat->Option wB
 | [],_=>none
 |(k,e)::r,t=>bif Nat.beq t k then some e else zE r t
def over (d:List (Nat×wB)) (h:yS):yS:=λk=>match zE d k with
 |some e=>some e
 |none=>h k
def yY (A:Nat->AV):Operand->AV
 | .tmp t=>A t
 | .const v=> .s v
 | .func f=> .fn f []
 | .global _=> .bot
def dI (op:Op):List Nat:=op.operands.toList.filterMap λ| .tmp t=>some t|_=>none
def WE (P:Program) (N:Value->World->Prop):Result Next->Prop
 | .ok (.value c) w'=>N c w'
 | .ok .skip w'=>N undef w'
 | .ok (.enter f args) w'=>Calls P f args w' λe A=>∃c,e= .returned c/\N c A
 |_=>False
def J6 (P:Program) (X:Nat->Prop) (A:Nat->AV) (h:yS) (op:Op) (v:AV) (h':yS):Prop:=
 ∀(o:Oper) (a:Act) (w:World) (β:qG),o.op=op->gW X h β w->(∀t,yK w (xX X β) h β (A t) (a.eval (.tmp t)))->
  WE P (λc w'=>∃β',wG X w h β w' h' β'/\yK w' (xX X β') h' β' v c) ((execOp a.eval o).run P w)
structure vC (P:Program) (st:St) (op:Op) (v:AV) (d:List (Nat×wB)) (r nw:List Nat):Prop where
 run:∀(X:Nat->Prop) (tm:Nat->AV) (h:yS),(∀t,t∈dI op->tm t=zM st.tm t)->(∀k,k∈r->h k=zE st.h k)->(∀k,k∈nw->h k=none)->J6 P X tm h op v (over d h)
section
variable {w:World} {D:Nat->Prop} {h:yS} {β:qG}
def MQ {A:Nat->AV} (H:∀t,yK w D h β (A t) (a.eval (.tmp t))) (x:Operand):yK w D h β (yY A x) (a.eval x):=by
 cases x with
 |tmp t=>exact H t
 |const v=>exact .fz _ _ (.s v)
 |global g=>exact .fz _ _ (.bot _)
 |func f=>exact .fn f [] #[] Z (λi v hv=>by simp at hv)
def Ri {op:Op} {B A:Nat->AV} (H:∀t,t∈dI op->B t=A t) (hx:x∈op.operands):yY B x=yY A x:=by
 cases x with
 |tmp t=>exact H t (by simp only[dI,List.mem_filterMap];exact⟨.tmp t,by simpa using hx,rfl⟩)
 |_=>rfl
theorem yK.s_inv {x:Value} (hv:yK w D h β (.s x) c):c=x:=by
 cases hv with
 |fz _ _ A=>cases A;rfl
def cC {op:Op} {A:Nat->AV} {st:St} (H:∀t,yK w D h β (A t) (a.eval (.tmp t))) (B:∀t,t∈dI op->A t=zM st.tm t) (hx:x∈op.operands) {v:AV}
 (hv:yY (zM st.tm) x=v):yK w D h β v (a.eval x):=by
 rw[<-hv,<-Ri B hx];exact MQ H x
def vY {op:Op} {A:Nat->AV} {st:St} (H:∀t,yK w D h β (A t) (a.eval (.tmp t))) (B:∀t,t∈dI op->A t=zM st.tm t) (hx:x∈op.operands) {v:Value}
 (hv:yY (zM st.tm) x= .s v):a.eval x=v:=(cC H B hx hv).s_inv
end
def ZI (h:yS):over [] h=h:=rfl
def xA {st:St} {op:Op} {v:AV} {r:List Nat}
 (H:∀(o:Oper) (X:Nat->Prop) (A:Nat->AV) (h:yS) (w:World) (β:qG) (a:Act),o.op=op->(∀t,t∈dI op->A t=zM st.tm t)->(∀k,k∈r->h k=zE st.h k)->gW X h β w->
 (∀t,yK w (xX X β) h β (A t) (a.eval (.tmp t)))->∃c,(execOp a.eval o).run P w= .ok (.value c) w/\yK w (xX X β) h β v c):vC P st op v [] r []:=by
 refine⟨?_⟩;intro X A h E I _ o a w β G B C;obtain⟨c,hc,hv⟩:=H o X A h w β a G E I B C;rw[hc,ZI];exact⟨β,wG.refl B,hv⟩
section ops
variable {P:Program} {TT:List TI} {st:St}
theorem Po {v:AV} (hv:yY (zM st.tm) x=v):vC P st (.move x) v [] [] []:=
 xA λo X L h w β a A C _ _ B=>by
  obtain⟨d0,o0,M,I,E,G⟩:=o;dsimp only at A;subst A;exact⟨a.eval x,rfl,cC B C qF hv⟩
theorem we {v:AV} (hv:yY (zM st.tm) x=v):vC P st (.assign x) v [] [] []:=
 xA λo X L h w β a A C _ _ B=>by
  obtain⟨d0,o0,M,I,E,G⟩:=o;dsimp only at A;subst A;exact⟨a.eval x,rfl,cC B C qF hv⟩
theorem Oo {c:Operand} {t:Bool} {v:AV} (hc:yY (zM st.tm) c= .s (.bool t)) (hv:(bif t then yY (zM st.tm) x else yY (zM st.tm) y)=v):vC P st (.pick c x y) v [] [] []:=
 xA λo X L h w β a C B _ _ A=>by
  obtain⟨d0,o0,M,I,E,G⟩:=o;dsimp only at C;subst C;have h1:=vY A B (x:=c) qF hc;refine⟨if t then a.eval x else a.eval y,by simp[execOp,h1,asBool],?_⟩;cases t
  all_goals exact cC A B qF hv
theorem Ia {vs:List AV} {v:AV} (hx:yY (zM st.tm) x= .tup vs) (hv:vs[i]? =some v):vC P st (.extract x i) v [] [] []:=
 xA λo X S h w β a A G _ _ B=>by
  obtain⟨d0,o0,U,R,M,O⟩:=o;dsimp only at A;subst A;have h1:=cC B G (x:=x) qF hx;have hi:=(zAz.1 hv).1;generalize C:a.eval x=L at h1
  cases h1 with
  |fz _ _ E=>cases E
  |tup _ c hl hh=>
   obtain⟨u,hc⟩:∃u,c[i]? =some u:=⟨c[i],by simp[show i<c.size by omega]⟩;have I:c.getD i undef=u:=by simp[zBe,hc]
   exact⟨u,by simp[execOp,Instr.extract,C,hc],I▸hh i v hv⟩
def UJ:IntKind->Int->Prop
 | .i64,n=> -9223372036854775808<=n/\n<=9223372036854775807
 | .u8,n=>0<=n/\n<=255
 | .i32,n=> -2147483648<=n/\n<=2147483647
 | .u32,n=>0<=n/\n<=4294967295
 | .u64,n=>0<=n/\n<=18446744073709551615
 | .i8,n=> -128<=n/\n<=127
 | .i16,n=> -32768<=n/\n<=32767
 | .u16,n=>0<=n/\n<=65535
theorem jD {k:IntKind} {n:Int} (h:UJ k n):k.wrap n=n:=by
 cases k<;>first
  |exact IntWalk.i64_in n h
  |exact IntWalk.u8_in n h
  |exact IntWalk.i32_in n h
  |exact IntWalk.u32_in n h
  |exact IntWalk.u64_in n h
  |exact IntWalk.i8_in n h
  |exact IntWalk.i16_in n h
  |exact IntWalk.u16_in n h
def qN {k:IntKind} {n:Int} {v:Value} (hx:yY (zM st.tm) x= .s (.int k m)) (G:yY (zM st.tm) y= .s (.int k n))
 (H:∀w,(binOp op tx (.int k m) (.int k n)).run P w= .ok v w):vC P st (.binOp op tx x y ty) (.s v) [] [] []:=
 xA λo X O h w β a E C _ _ B=>by
  obtain⟨d0,o0,R,M,I,L⟩:=o;dsimp only at E;subst E;have h1:=vY B C (x:=x) qF hx;have h2:=vY B C (x:=y) qF G;refine⟨v,?_,.fz _ _ (.s v)⟩
  have A:(eqGuard op tx x y (.int k m) (.int k n)).run P w= .ok () w:=by
   unfold eqGuard;cases op<;>rfl
  simp only[execOp,h1,h2,Sem.run_bind,A,Result.andThen_ok,H,Sem.run_pure]
section
variable {tx ty:Nat} {x y:Operand} {k:IntKind} {m n:Int} (hx:yY (zM st.tm) x= .s (.int k m)) (hy:yY (zM st.tm) y= .s (.int k n))
include hx hy
def dS (A:UJ k (m+n)):vC P st (.binOp .add tx x y ty) (.s (.int k (m+n))) [] [] []:=qN hx hy λw=>by simp[binOp,Op.intArith,jD A]
def YI (A:UJ k (m-n)):vC P st (.binOp .sub tx x y ty) (.s (.int k (m-n))) [] [] []:=qN hx hy λw=>by simp[binOp,Op.intArith,jD A]
def dT (A:UJ k (m*n)):vC P st (.binOp .mul tx x y ty) (.s (.int k (m*n))) [] [] []:=qN hx hy λw=>by simp[binOp,Op.intArith,jD A]
def YJ (B:UJ k (m.tdiv n)) (A:n≠0):vC P st (.binOp .quo tx x y ty) (.s (.int k (m.tdiv n))) [] [] []:=qN hx hy λw=>by simp[binOp,Op.intDiv,A,jD B]
def YL (A:n≠0):vC P st (.binOp .rem tx x y ty) (.s (.int k (m.tmod n))) [] [] []:=qN hx hy λw=>by simp[binOp,Op.intDiv,A]
theorem MR:vC P st (.binOp .and tx x y ty) (.s (.int k (k.wrap (BitVec.ofInt k.bits m &&& BitVec.ofInt k.bits n).toNat))) [] [] []:=qN hx hy λw=>by simp only[binOp,Op.intBits];simp
theorem EV:vC P st (.binOp .or tx x y ty) (.s (.int k (k.wrap (BitVec.ofInt k.bits m ||| BitVec.ofInt k.bits n).toNat))) [] [] []:=qN hx hy λw=>by simp only[binOp,Op.intBits];simp
def YM:vC P st (.binOp .xor tx x y ty) (.s (.int k (k.wrap (BitVec.ofInt k.bits m ^^^ BitVec.ofInt k.bits n).toNat))) [] [] []:=qN hx hy λw=>by simp only[binOp,Op.intBits];simp
def ue:vC P st (.binOp .andNot tx x y ty) (.s (.int k (k.wrap (BitVec.ofInt k.bits m &&& ~~~BitVec.ofInt k.bits n).toNat))) [] [] []:=qN hx hy λw=>by simp only[binOp,Op.intBits];simp
def EW:vC P st (.binOp .eql tx x y ty) (.s (.bool (m==n))) [] [] []:=qN hx hy λw=>by simp[binOp,Op.intCmp]
def EX:vC P st (.binOp .neq tx x y ty) (.s (.bool (m != n))) [] [] []:=qN hx hy λw=>by simp[binOp,Op.intCmp]
def EY:vC P st (.binOp .lss tx x y ty) (.s (.bool (decide (m<n)))) [] [] []:=qN hx hy λw=>by simp[binOp,Op.intCmp]
def EZ:vC P st (.binOp .leq tx x y ty) (.s (.bool (decide (m<=n)))) [] [] []:=qN hx hy λw=>by simp[binOp,Op.intCmp]
def DA:vC P st (.binOp .gtr tx x y ty) (.s (.bool (decide (n<m)))) [] [] []:=qN hx hy λw=>by simp[binOp,Op.intCmp]
def DB:vC P st (.binOp .geq tx x y ty) (.s (.bool (decide (n<=m)))) [] [] []:=qN hx hy λw=>by simp[binOp,Op.intCmp]
end
def vT {k L:IntKind} {n:Int} {v:Int} (A:op= .shl/\v=k.wrap (m*2 ^ (min n.toNat k.bits))\/op= .shr/\v=m.fdiv (2 ^ (min n.toNat k.bits)))
 (hx:yY (zM st.tm) x= .s (.int k m)) (I:yY (zM st.tm) y= .s (.int L n)) (R:0<=n):vC P st (.binOp op tx x y ty) (.s (.int k v)) [] [] []:=
 xA λo X U h w β a E C _ _ B=>by
  obtain⟨d0,o0,V,S,M,O⟩:=o;dsimp only at E;subst E;have h1:=vY B C (x:=x) qF hx;have h2:=vY B C (x:=y) qF I;have G:¬n<0:=by omega
  refine⟨.int k v,?_,.fz _ _ (.s _)⟩
  rcases A with⟨rfl,rfl⟩|⟨rfl,rfl⟩<;>simp[execOp,h1,h2,eqGuard,binOp,Op.shift,G]
def Ju {b:Bool} (hx:yY (zM st.tm) x= .s (.bool b)):vC P st (.unOp .not tx x) (.s (.bool !b)) [] [] []:=
 xA λo X L h w β a A C _ _ B=>by
  obtain⟨d0,o0,M,I,E,G⟩:=o;dsimp only at A;subst A;have h1:=vY B C (x:=x) qF hx;exact⟨_,by simp[execOp,h1,Op.unary],.fz _ _ (.s _)⟩
def YN {k:IntKind} {n:Int} (hx:yY (zM st.tm) x= .s (.int k n)) (E:UJ k (-n)):vC P st (.unOp .neg tx x) (.s (.int k (-n))) [] [] []:=
 xA λo X M h w β a A C _ _ B=>by
  obtain⟨d0,o0,O,L,G,I⟩:=o;dsimp only at A;subst A;have h1:=vY B C (x:=x) qF hx;exact⟨.int k (-n),by simp[execOp,h1,Op.unary,Op.intArith,jD E],.fz _ _ (.s _)⟩
def cD {C A:Nat} {k B:IntKind} {n:Int} {ts S:TI} (O:qS P TT) (hs:TT[C]? =some ts) (hd:TT[A]? =some S) (hk:S.d= .int B) (hx:yY (zM st.tm) x= .s (.int k n)):
  vC P st (.convert C A x) (.s (.int B (B.wrap n))) [] [] []:=
 xA λo X tm h w β a R W _ _ V=>by
  obtain⟨M,ac,U,pos,E,G⟩:=o;dsimp only at R;subst R;have h1:=vY V W (x:=x) qF hx;obtain⟨u,Y,_⟩:=wL (O _ _ hs) w;obtain⟨u',L,I⟩:=wL (O _ _ hd) w;obtain rfl:=EU (I.trans hk);exact⟨.int B (B.wrap n),by simp[execOp,convert,h1,Y,L,Conv.intToInt],.fz _ _ (.s _)⟩
def uV {p q:Bool} {v:Bool} {I:TI} (L:qS P TT) (O:TT[tx]? =some I) (hd:I.d= .bool) (hx:yY (zM st.tm) x= .s (.bool p)) (S:yY (zM st.tm) y= .s (.bool q))
 (B:op= .eql/\v=(p==q)\/op= .neq/\v=(p != q)):vC P st (.binOp op tx x y ty) (.s (.bool v)) [] [] []:=
 xA λo X Y h w β a G E _ _ C=>by
  obtain⟨d0,o0,y0,W,U,V⟩:=o;dsimp only at G;subst G;have h1:=vY C E (x:=x) qF hx;have h2:=vY C E (x:=y) qF S;obtain⟨u,R,A⟩:=wL (L _ _ O) w;obtain rfl:=Ku (A.trans hd)
  have M:(Op.equal tx (.bool p) (.bool q)).run P w= .ok (p==q) w:=by
   show(Op.equalIn (9999+1) tx (.bool p) (.bool q)).run P w=_
   unfold Op.equalIn;simp[R]
  refine⟨.bool v,?_,.fz _ _ (.s _)⟩
  rcases B with⟨rfl,rfl⟩|⟨rfl,rfl⟩<;>simp[execOp,h1,h2,eqGuard,binOp,M,bne]
def DC {f:Nat} {cap:Array Operand}:vC P st (.makeFunc (.func f) #[] cap) (.fn f (cap.toList.map (yY (zM st.tm)))) [] [] []:=
 xA λo X L h w β a A C _ _ B=>by
  obtain⟨d0,o0,M,I,E,G⟩:=o;dsimp only at A;subst A;refine⟨.func (.func f) #[] (cap.map a.eval),by simp[execOp,Instr.makeFunc],.fn _ _ _ zW λi v hv=>?_⟩;simp only[zAi,zAs]at hv;obtain⟨x,hx,rfl⟩:=hv
  have:(cap.map a.eval).getD i undef=a.eval x:=by
   have:cap[i]? =some x:=by simpa using hx
   simp[zBe,this]
  rw[this];refine cC B C ?_ Z
  have:x∈cap:=by
   have:=zB1 hx;simpa using this
  simp[Op.operands,this]
end ops
end
def ZJ (β:qG) (k:Nat) (l:List (Nat×Nat)):qG:=λj=>if j=k then l else β j
variable {TT:List TI}{te tf ti:TI}
def yO (β:qG) (k:Nat) (l:List (Nat×Nat)):ZJ β k l k=l:=by simp[ZJ]
def jL (β:qG) (l:List (Nat×Nat)) (h:j≠k):ZJ β k l j=β j:=by simp[ZJ,h]
def Qi (k:Nat):Nat.beq k k=true:=by simp
def GT (h:j≠k):Nat.beq j k=false:=by grind [Nat.beq,Nat.eq_of_beq_eq_true]
def kQ (k:Nat) (e:wB) (h:yS):over [(k,e)] h k=some e:=by simp[over,zE]
def SF {k:Nat} (e:wB) (h:yS) (hj:j≠k):over [(k,e)] h j=h j:=by simp[over,zE,GT hj]
theorem UW.evo (E:CR w D h β w' D' h' β') {e:wB} (hb:β' k=β k) (hk:∀b n,(b,n)∈β k->w'.heap[b]? =w.heap[b]?)
 (H:UW w D h β k e):UW w' D' h' β' k e:=by
 cases e with
 |dead=>exact hb.trans H
 |box cs=>
  obtain⟨b,c,el,h1,h2,G,B,I⟩:=H;exact⟨b,c,el,hb.trans h1,(hk b 0 (by rw[h1];simp)).trans h2,G,B,λi v hv=>(I i v hv).evo E⟩
 |obj cs=>
  simp_all [yS,qG,UW]
 |arr sz xs st=>
  obtain⟨h1,h2,G,B,I,f,L,M,O⟩:=H;refine⟨h1,h2,by rwa [hb],B,by rwa [hb],f,L.evo E,M,λb n C=>?_⟩;rw[hb]at C;obtain⟨c,el,R,A⟩:=O b n C;exact⟨c,el,(hk b n C).trans R,A⟩
theorem wG.step (H:gW X h β w) (k:Nat) (O:wB) (l:List (Nat×Nat)) (L:w.heap.size<=w'.heap.size)
 (U:∀b,b<w.heap.size->(∀n,(b,n)∉β k)->w'.heap[b]? =w.heap[b]?) (os:w'.os=w.os) (ar:w'.tape=w.tape) (W:w'.output=w.output)
 (Y:∀b n,(b,n)∈l->(∃C,(b,C)∈β k)\/(w.heap.size<=b/\b<w'.heap.size)) (bs:∀b n,(b,n)∈β k->wW w' b=wW w b)
 (ax:∀e,h k=some e->O= .dead\/match e with
 | .dead=>False
 | .box _=>(∃A,O= .box A)/\∀b n,(b,n)∈β k->(b,n)∈l
 | .obj _=>(∃A,O= .obj A)/\∀b n,(b,n)∈β k->(b,n)∈l
 | .arr sz xs _=>(∃M st',O= .arr sz M st'/\xs.length<=ln M)/\∀b n,(b,n)∈β k->∃C,n<=C/\(b,C)∈l)
 (au:CR w (xX X β) h β w' (xX X (ZJ β k l)) (over [(k,O)] h) (ZJ β k l)->UW w' (xX X (ZJ β k l)) (over [(k,O)] h) (ZJ β k l) k O):
  wG X w h β w' (over [(k,O)] h) (ZJ β k l):=by
 have ag:∀j b n,(b,n)∈ZJ β k l j->(∃k' C,(b,C)∈β k')\/w.heap.size<=b:=by
  intro j b n B;by_cases hj:j=k
  .subst hj;rw[yO]at B
   grind
  .rw[jL _ _ hj]at B;exact .inl ⟨_,_,B⟩
 have G:∀j b n C,j≠k->(b,n)∈β j->(b,C)∉β k:=λj b n C hj h1 h2=>hj (H.disj _ _ _ _ _ h1 h2)
 have V:∀b,b<w.heap.size->(∀k n,(b,n)∉β k)->w'.heap[b]? =w.heap[b]? :=λb hb hn=>U b hb (hn k)
 have ap:∀j b n,(b,n)∈β j->wW w' b=wW w b:=by
  intro j b n B;by_cases hj:j=k
  .grind
  .unfold wW World.shape?;rw[U b (H.lt b (.inr ⟨j,n,B⟩)) λC h1=>G j b n C hj B h1]
 have ac:∀j e,h j=some e->over [(k,O)] h j=some .dead\/match e with
   | .dead=>False
   | .box _=>(∃A,over [(k,O)] h j=some (.box A))/\∀b n,(b,n)∈β j->(b,n)∈ZJ β k l j
   | .obj _=>(∃A,over [(k,O)] h j=some (.obj A))/\∀b n,(b,n)∈β j->(b,n)∈ZJ β k l j
   | .arr sz xs _=>(∃M st',over [(k,O)] h j=some (.arr sz M st')/\xs.length<=ln M)/\∀b n,(b,n)∈β j->∃C,n<=C/\(b,C)∈ZJ β k l j:=by
  intro j e R;by_cases hj:j=k
  .subst hj;rw[kQ,yO]
   rcases ax e R with h1|h1
   .exact .inl (by rw[h1])
   .cases e with
    |dead=>exact h1.elim
    |box cs=>obtain⟨⟨A,h2⟩,I⟩:=h1;exact .inr ⟨⟨A,by rw[h2]⟩,I⟩
    |obj cs=>obtain⟨⟨A,h2⟩,I⟩:=h1;exact .inr ⟨⟨A,by rw[h2]⟩,I⟩
    |arr sz xs st=>obtain⟨⟨M,st',h2,av⟩,I⟩:=h1;exact .inr ⟨⟨M,st',by rw[h2],av⟩,I⟩
  .rw[SF _ _ hj,jL _ _ hj];exact jS h β j e R
 have E:CR w (xX X β) h β w' (xX X (ZJ β k l)) (over [(k,O)] h) (ZJ β k l):=by
  refine⟨L,λb hb hd=>?_,ap,ac⟩;have h1:∀k n,(b,n)∉β k:=λk n B=>hd (.inr ⟨k,n,B⟩)
  refine⟨V b hb h1,?_⟩;rintro(hx|⟨j,n,B⟩)
  .exact hd (.inl hx)
  .rcases ag j b n B with⟨k',C,h2⟩|h2
   .exact h1 _ _ h2
   .omega
 refine⟨L,V,ag,ap,ac,⟨λj e R=>?_,λj R=>?_,λj j' b n C h1 h2=>?_,λj b n B hx=>?_,λb hd=>?_⟩,os,ar,W⟩
 .by_cases hj:j=k
  .subst hj;rw[kQ]at R;cases R;exact au E
  .rw[SF _ _ hj]at R;exact(H.ent j e R).evo E (jL _ _ hj) λb n B=>U b (H.lt b (.inr ⟨j,n,B⟩)) λC h1=>G j b n C hj B h1
 .by_cases hj:j=k
  .subst hj;rw[kQ]at R;cases R
  .rw[SF _ _ hj]at R;rw[jL _ _ hj];exact H.off j R
 .by_cases hj:j=k<;>by_cases S:j'=k
  .rw[hj,S]
  .subst hj;rw[yO]at h1;rw[jL _ _ S]at h2
   rcases Y b n h1 with⟨m,I⟩|⟨I,_⟩
   .exact absurd I (G j' b C m S h2)
   .have:=H.lt b (.inr ⟨_,_,h2⟩);omega
  .subst S;rw[yO]at h2;rw[jL _ _ hj]at h1
   rcases Y b C h2 with⟨m,I⟩|⟨I,_⟩
   .exact absurd I (G j b n m hj h1)
   .have:=H.lt b (.inr ⟨_,_,h1⟩);omega
  .rw[jL _ _ hj]at h1;rw[jL _ _ S]at h2;exact H.disj _ _ _ _ _ h1 h2
 .by_cases hj:j=k
  .subst hj;rw[yO]at B
   rcases Y b n B with⟨m,I⟩|⟨I,_⟩
   .exact H.free _ _ _ I hx
   .have:=H.lt b (.inl hx);omega
  .rw[jL _ _ hj]at B;exact H.free _ _ _ B hx
 .rcases hd with hx|⟨j,n,B⟩
  .exact zBn (H.lt b (.inl hx)) L
  .by_cases hj:j=k
   .subst hj;rw[yO]at B
    rcases Y b n B with⟨m,I⟩|⟨_,I⟩
    .exact zBn (H.lt b (.inr ⟨_,_,I⟩)) L
    .exact I
   .rw[jL _ _ hj]at B;exact zBn (H.lt b (.inr ⟨_,_,B⟩)) L
theorem wG.new (H:gW X h β w) {k:Nat} (hk:h k=none) (A:wB) (n:Nat) (c:Array Value) (el:Nat)
 (C:CR w (xX X β) h β (w.alloc (.cells c el)) (xX X (ZJ β k [(w.heap.size,n)])) (over [(k,A)] h) (ZJ β k [(w.heap.size,n)])->
 UW (w.alloc (.cells c el)) (xX X (ZJ β k [(w.heap.size,n)])) (over [(k,A)] h) (ZJ β k [(w.heap.size,n)]) k A):
  wG X w h β (w.alloc (.cells c el)) (over [(k,A)] h) (ZJ β k [(w.heap.size,n)]):=by
 refine wG.step H k A _ zW (λb hb _=>heap_alloc_old w _ b hb) Z Z Z (λb n B=>?_) (λb n B=>?_) (λe E=>?_) C
 .simp at B;refine .inr ?_;simp[B.1]
 .rw[H.off k hk]at B;simp at B
 .rw[hk]at E;cases E
theorem wG.newBox (H:gW X h β w) {k:Nat} (hk:h k=none) (c:Array Value) (el:Nat) (cs:List AV) (hl:c.size=ln cs) (h1:∀i,i<c.size->(c.getD i undef).oneCell'=true)
 (hv:∀(i:Nat) v,cs[i]? =some v->yK w (xX X β) h β v (c.getD i undef)):
  ∃β',wG X w h β (w.alloc (.cells c el)) (over [(k,.box cs)] h) β'/\yK (w.alloc (.cells c el)) (xX X β') (over [(k,.box cs)] h) β' (.ptr k 0 0) (.pointer (some ⟨w.heap.size,0,none⟩)):=
 ⟨_,wG.new H hk (.box cs) 0 c el λE=>⟨_,c,el,yO _ _ _,heap_alloc_new w _,hl,h1,λi v hx=>(hv i v hx).evo E⟩,
  .pbox k 0 cs w.heap.size 0 (kQ _ _ _) (by rw[yO];simp)⟩
def kT (c:Array Value):Prop:=∀v,v∈c.toList->v.oneCell'=true
theorem kT.get {c:Array Value} (h:kT c):∀i,i<c.size->(c.getD i undef).oneCell'=true:=λi hi=>by
 have e:c.getD i undef=c[i]:=by simp[Array.getD,hi]
 rw[e];exact h _ zW
theorem kT.of {c:Array Value} (h:∀i,i<c.size->(c.getD i undef).oneCell'=true):kT c:=λv hv=>by
 obtain⟨i,hi,rfl⟩:=zCw hv;have hi':i<c.size:=by simpa using hi
 have:=h i hi';simpa [Array.getD,hi']using this
theorem kT.app {a b:Array Value} (A:kT a) (hb:kT b):kT (a++b):=λv hv=>by
 rw[Array.toList_append,zA5]at hv;exact hv.elim (A v) (hb v)
theorem kT.arr {l:List Value} (h:∀v∈l,v.oneCell'=true):kT l.toArray:=λv hv=>h v La
def Ha (h:i<z.size):z[i]! ∈z.toList:=by grind
theorem kT.zero (h:∀v,v∈z.toList->v.oneCell'=true) (n:Nat):kT (Builtin.zeroCells z n):=λv hv=>by
 simp only[Builtin.zeroCells,zEv,Array.toList_range,zB0,zA3]at hv;obtain⟨i,hi,rfl⟩:=hv
 have B:0<z.size:=by
  rcases Nat.eq_zero_or_pos z.size with A|A
  .rw[A,Nat.mul_zero]at hi;omega
  .exact A
 exact h _ (Ha (zFy _ B))
def Ga {c:Array Value} (hs:c.size=n*sz) (E:1<=sz) (C:∀i j,i<n->j<sz->c[i*sz+j]? =some (f i j)) (h1:∀i j,i<n->j<sz->(f i j).oneCell'=true):∀i,i<c.size->(c.getD i undef).oneCell'=true:=λi hi=>by
 have A:i % sz<sz:=zFy _ (by omega);have hd:i/sz<n:=by rw[Nat.div_lt_iff_lt_mul (by omega)];omega
 have e:i/sz*sz+i % sz=i:=by rw[zEh];exact Nat.div_add_mod i sz
 have h2:=C (i/sz) (i % sz) hd A;rw[e]at h2;have B:c.getD i undef=f (i/sz) (i % sz):=by simp[zBe,h2]
 rw[B];exact h1 _ _ hd A
theorem kT.made (h:∀v,v∈z.toList->v.oneCell'=true) (A:0<z.size) (n:Nat):kT (madeCells z n):=λv hv=>by
 simp only[madeCells,zEv,Array.toList_range,zB0,zA3]at hv;obtain⟨i,hi,rfl⟩:=hv;exact h _ (Ha (zFy _ A))
theorem wG.newArr (H:gW X h β w) {k:Nat} (hk:h k=none) (c:Array Value) (el sz:Nat) (xs:List AV) (cap:Nat) (f:Nat->Nat->Value) (I:1<=sz) (G:ln xs<=aP)
 (A:ln xs<=cap) (hc:cap*sz=c.size) (B:∀i,i<c.size->(c.getD i undef).oneCell'=true) (M:∀(i:Nat) (x:AV),xs[i]? =some x->ln x.cells=sz) (C:∀i j,i<ln xs->j<sz->c[i*sz+j]? =some (f i j)) (h1:∀i j,i<ln xs->j<sz->(f i j).oneCell'=true)
 (hv:∀(i:Nat) (x:AV) (j:Nat) v,xs[i]? =some x->x.cells[j]? =some v->xS w (xX X β) v (f i j)):
  ∃β',wG X w h β (w.alloc (.cells c el)) (over [(k,.arr sz xs false)] h) β'/\yK (w.alloc (.cells c el)) (xX X β') (over [(k,.arr sz xs false)] h) β' (.ref k 0 (ln xs)) (.slice (some ⟨w.heap.size,0,none⟩) (ln xs) cap):=by
 refine⟨_,wG.new H hk (.arr sz xs false) (ln xs) c el λE=>⟨I,G,λ_=>by rw[yO];simp,M,λb n r L=>?_,f,.ofF λi x j v hx O=>(hv i x j v hx O).evo E.size E.fz,h1,λb n hb=>?_⟩,?_⟩
 .rw[yO]at L
  grind
 .rw[yO]at hb;simp at hb;obtain⟨rfl,rfl⟩:=hb;exact⟨c,el,heap_alloc_new w _,zBi (zA1 _ A) (zCb hc),C,B⟩
 .have:=yK.ref (w:=w.alloc (.cells c el)) (D:=xX X (ZJ β k [(w.heap.size,ln xs)])) (h:=over [(k,.arr sz xs false)] h) (β:=ZJ β k [(w.heap.size,ln xs)]) k 0 (ln xs) sz xs false w.heap.size (ln xs) cap (kQ _ _ _)
   (by rw[yO];simp) (by omega) A (by
    have:wW (w.alloc (.cells c el)) w.heap.size=c.size:=by
     unfold wW World.shape?;rw[heap_alloc_new];rfl
    rw[this];simpa using hc)
  simpa using this
theorem wG.newArrN (H:gW X h β w) {k:Nat} (hk:h k=none) (c:Array Value) (el sz:Nat) (xs:List AV) (cap:Nat) (f:Nat->Nat->Value) (I:1<=sz) (G:ln xs<=aP)
 (A:ln xs<=cap) (hc:cap*sz=c.size) (B:∀i,i<c.size->(c.getD i undef).oneCell'=true) (M:∀(i:Nat) (x:AV),xs[i]? =some x->ln x.cells=sz) (C:∀i j,i<ln xs->j<sz->c[i*sz+j]? =some (f i j)) (h1:∀i j,i<ln xs->j<sz->(f i j).oneCell'=true)
 (hv:∀(i:Nat) (x:AV) (j:Nat) v,xs[i]? =some x->x.cells[j]? =some v->yK w (xX X β) h β v (f i j)):
  ∃β',wG X w h β (w.alloc (.cells c el)) (over [(k,.arr sz xs ⟨false,true⟩)] h) β'/\yK (w.alloc (.cells c el)) (xX X β') (over [(k,.arr sz xs ⟨false,true⟩)] h) β' (.ref k 0 (ln xs)) (.slice (some ⟨w.heap.size,0,none⟩) (ln xs) cap):=by
 refine⟨_,wG.new H hk (.arr sz xs ⟨false,true⟩) (ln xs) c el λE=>⟨I,G,λ_=>by rw[yO];simp,M,λb n r L=>?_,f,λi x j v hx O=>⟨(hv i x j v hx O).evo E,λh=>by cases h⟩,h1,λb n hb=>?_⟩,?_⟩
 .rw[yO]at L
  grind
 .rw[yO]at hb;simp at hb;obtain⟨rfl,rfl⟩:=hb;exact⟨c,el,heap_alloc_new w _,zBi (zA1 _ A) (zCb hc),C,B⟩
 .have:=yK.ref (w:=w.alloc (.cells c el)) (D:=xX X (ZJ β k [(w.heap.size,ln xs)])) (h:=over [(k,.arr sz xs ⟨false,true⟩)] h) (β:=ZJ β k [(w.heap.size,ln xs)]) k 0 (ln xs) sz xs ⟨false,true⟩ w.heap.size (ln xs) cap (kQ _ _ _)
   (by rw[yO];simp) (by omega) A (by
    have:wW (w.alloc (.cells c el)) w.heap.size=c.size:=by
     unfold wW World.shape?;rw[heap_alloc_new];rfl
    rw[this];simpa using hc)
  simpa using this
theorem wG.newFz (H:gW X h β w) (c:Array Value) (el:Nat):wG X w h β (w.alloc (.cells c el)) h β:=by
 have A:∀b,b<w.heap.size->(w.alloc (.cells c el)).heap[b]? =w.heap[b]? :=λb hb=>heap_alloc_old w _ b hb
 have B:∀k b n,(b,n)∈β k->wW (w.alloc (.cells c el)) b=wW w b:=λk b n C=>by
  unfold wW World.shape?;rw[A b (H.lt b (.inr ⟨k,n,C⟩))]
 have E:CR w (xX X β) h β (w.alloc (.cells c el)) (xX X β) h β:=⟨by simp,λb hb hd=>⟨A b hb,hd⟩,B,jS h β⟩;refine⟨by simp,λb hb _=>A b hb,λk _ n C=> .inl ⟨k,n,C⟩,B,jS h β,⟨λk e G=>(H.ent k e G).evo E Z λb n C=>A b (H.lt b (.inr ⟨k,n,C⟩)),H.off,H.disj,H.free,λb hd=>?_⟩,rfl,rfl,rfl⟩;exact zBn (H.lt b hd) zW
theorem xS.newArr (H:gW X h β w) (c:Array Value) (el sz:Nat) (xs:List AV) (cap:Nat) (f:Nat->Nat->Value) (C:1<=sz) (B:ln xs<=aP)
 (A:ln xs<=cap) (G:∀(i:Nat) (x:AV),xs[i]? =some x->ln x.cells=sz) (L:∀i j,i<ln xs->j<sz->c[i*sz+j]? =some (f i j)) (h1:∀i j,i<ln xs->j<sz->(f i j).oneCell'=true)
 (hv:∀(i:Nat) (x:AV) (j:Nat) v,xs[i]? =some x->x.cells[j]? =some v->xS w (xX X β) v (f i j)):
  xS (w.alloc (.cells c el)) (xX X β) (.sl true xs) (.slice (some ⟨w.heap.size,0,none⟩) (ln xs) cap):=by
 have E:=(wG.newFz H c el).evo;by_cases hx:xs=[]
 .subst hx;exact .nil1 _ _
 .refine .sl true xs w.heap.size 0 sz cap f hx ⟨by simp,λhd=>?_,C,B,G,λi j hi hj=>?_,h1⟩ A λi x j v hx I=>(hv i x j v hx I).evo E.size E.fz
  .have:=H.lt _ hd;omega
  all_goals simp_all [yS,qG,aP,xX]
theorem xS.wkF {xs:List AV} (h:xS w D (.sl nn xs) c):xS w D (.sl false xs) c:=by
 cases h with
 |nil a cap=>exact .nil a cap
 |nil1 a cap=>exact .nil _ cap
 |sl nn xs b o sz cap f hx hL hc hh=>exact .sl false xs b o sz cap f hx hL hc hh
section
def AV.one:AV->Bool
 | .s v=>v.oneCell'
 | .sl _ _| .slc _ _| .ref _ _ _| .ptr _ _ _| .fp _ _ _| .fn _ _| .fm _ _=>true
 |_=>false
def AV.ok:AV->Bool
 | .agg _=>true
 |v=>v.one
mutual
def AV.nokey:AV->Bool
 | .bot| .s _| .sl _ _| .slc _ _| .fp _ _ _| .fm _ _=>true
 | .agg cs=>wU cs
 |_=>false
def wU:List AV->Bool
 | []=>true
 |v::r=>v.nokey&&wU r
end
theorem gI:∀{cs:List AV} {i:Nat} {v:AV},wU cs=true->cs[i]? =some v->v.nokey=true
 | [],_,_,_,h=>by simp at h
 |x::r,0,v,hk,h=>by simp at h;subst h;simp[wU]at hk;exact hk.1
 |x::r,i+1,v,hk,h=>by simp[wU]at hk;exact gI hk.2 WC
def QP :List α->Nat->List α->List α
 |cs,_,[]=>cs
 |cs,o,v::vs=>QP (cs.set o v) (o+1) vs
theorem aE :∀(vs cs:List α) (o:Nat),(QP cs o vs).length=ln cs
 | [],_,_=>rfl
 |v::vs,cs,o=>by rw[QP,aE vs,zBp]
theorem VW :∀(vs cs:List α) (o j:Nat),o+ln vs<=ln cs->(QP cs o vs)[j]? =if o<=j/\j<o+ln vs then vs[j-o]? else cs[j]?
 | [],cs,o,j,_=>by rw[QP,Of zW]
 | v::vs,cs,o,j,h=>by
  simp at h;rw[QP,VW vs _ _ _ uH];by_cases h1:o+1<=j/\j<o+1+ln vs
  .rw[Os h1,Os uH,show j-o=(j-(o+1))+1 by omega];simp
  .rw[Of h1];by_cases h2:j=o
   .subst h2;rw[Os zW,zA6 (by omega),zCl];rfl
   .rw[Of uH,zE1 (by omega)]
section
variable {w:World} {D:Nat->Prop} {h:yS} {β:qG}
theorem dU {c:Array Value} {v:Value} (h:c[i]? =some v):c.getD i undef=v:=by simp[zBe,h]
theorem gJ (c:Array Value) (i:Nat) (h:i<c.size):c[i]? =some (c.getD i undef):=by grind [dU]
theorem xS.one_of {v:AV} (hv:xS w D v c) (h1:v.one=true):c.oneCell'=true:=by
 cases hv<;>first|rfl|(simp[AV.one]at h1;done)|simpa [AV.one]using h1
theorem yK.one_of {v:AV} (hv:yK w D h β v c) (h1:v.one=true):c.oneCell'=true:=by
 cases hv with
 |fz _ _ A=>exact A.one_of h1
 |dref _ _ _ _ _ h2=>exact h2
 |dptr _ _ _ _ _ h2=>exact h2
 |agg _ _ _ _ _=>simp[AV.one]at h1
 |tup _ _ _ _=>simp[AV.one]at h1
 |_=>rfl
theorem yK.cells {v:AV} (hv:yK w D h β v c) (h1:v.ok=true):
  c.cells.size=ln v.cells/\(∀i,i<c.cells.size->(c.cells.getD i undef).oneCell'=true)/\∀(i:Nat) u,v.cells[i]? =some u->yK w D h β u (c.cells.getD i undef):=by
 by_cases B:v.isAgg=true
 .cases v<;>simp[AV.isAgg]at B
  rename_i cs
  cases hv with
  |fz _ _ E=>
   cases E with
   |agg _ c hl h2 hh=>exact⟨hl,h2,λi u A=> .fz _ _ (hh i u A)⟩
  |agg _ c hl h2 hh=>exact⟨hl,h2,hh⟩
 .have G:v.one=true:=by cases v<;>first|exact h1|(simp[AV.isAgg]at B)
  have hc:=hv.one_of G
  have e1:c.cells= #[c]:=by cases c<;>first|rfl|(simp[Value.oneCell']at hc)
  have C:v.cells=[v]:=by cases v<;>first|rfl|(simp[AV.isAgg]at B)
  rw[e1,C];refine⟨rfl,λi hi=>?_,λi u A=>?_⟩
  .simp_all
  .cases i with
   |zero=>simp at A;subst A;exact hv
   |succ i=>simp at A
theorem yK.toF:∀{v:AV} {c:Value},yK w D h β v c->v.nokey=true->xS w D v c:=by
 intro v c hv
 induction hv with
 |fz _ _ A=>exact λ_=>A
 |agg cs c hl h1 _ B=>exact λhk=> .agg cs c hl h1 λi v hi=>B i v hi (gI (by simpa [AV.nokey]using hk) hi)
 |_=>intro hk;simp[AV.nokey]at hk
def Z5 (w:World) (D:Nat->Prop) (h:yS) (β:qG) (A:List AV) (b o:Nat):Prop:=
 ∀(j:Nat) u,A[j]? =some u->∃c,w.cell? ⟨b,o+j,none⟩=some c/\c.oneCell'=true/\yK w D h β u c
def kF {c:Array Value} {A:Nat×Nat} (hb:w.heap[b]? =some (.cells c el A)) (j:Nat):w.cell? ⟨b,j,none⟩=c[j]? :=by simp[World.cell?,hb]
def MS (H:gW X h β w) {cs:List AV} (hk:h k=some (.box cs)) (hv:yK w D h β (.ptr k i off) c):
  ∃b,c= .pointer (some ⟨b,off,none⟩)/\i=0/\Z5 w (xX X β) h β cs b 0:=by
 cases hv with
 |fz _ _ I=>cases I
 |dptr _ _ _ _ hd _=>rw[hk]at hd;cases hd
 |parr _ _ _ _ _ _ _ _ hd _ _ _=>rw[hk]at hd;cases hd
 |pbox _ _ B b n hk' hb=>
  obtain⟨L,c,el,h1,h2,C,E,G⟩:=H.ent k _ hk;rw[h1]at hb;simp at hb;obtain⟨rfl,rfl⟩:=hb;refine⟨b,rfl,rfl,λj u A=>?_⟩;have hj:j<c.size:=by rw[C];exact(zAz.1 A).1
  exact⟨c.getD j undef,by rw[kF h2,zBx];exact gJ c j hj,E j hj,G j u A⟩
def Mg (H:gW X h β w) {xs:List AV} {st:Fl} (hk:h k=some (.arr sz xs st)) {x:AV} (hx:xs[i]? =some x) (hv:yK w D h β (.ptr k i off) c):
  ∃b n,c= .pointer (some ⟨b,i*sz+off,none⟩)/\(b,n)∈β k/\off<sz/\x.cells.length=sz/\Z5 w (xX X β) h β x.cells b (i*sz):=by
 cases hv with
 |fz _ _ M=>cases M
 |dptr _ _ _ _ hd _=>rw[hk]at hd;cases hd
 |pbox _ _ _ _ _ hd _=>rw[hk]at hd;cases hd
 |parr _ _ _ S U st' b n hk' hb hi O=>
  rw[hk]at hk';cases hk';obtain⟨_,_,_,R,_,f,E,G,I⟩:=H.ent k _ hk;obtain⟨c,el,L,_,B,_⟩:=I b n hb;have A:=R i x hx;refine⟨b,n,rfl,hb,O,A,λj u C=>?_⟩;have hj:j<sz:=by rw[<-A];exact(zAz.1 C).1
  exact⟨f i j,by rw[kF L];exact B i j hi hj,G i j (zAz.1 hx).1 hj,E.toV i x j u hx C⟩
def No (H:gW X h β w) {xs:List AV} {st:Fl} (hk:h k=some (.arr sz xs st)) {x:AV} (hx:xs[i]? =some x) (hv:yK w D h β (.ptr k i off) c):
  ∃b n,c= .pointer (some ⟨b,i*sz+off,none⟩)/\(b,n)∈β k/\off<sz/\x.cells.length=sz/\Z5 w (xX X β) h β x.cells b (i*sz)/\i<n:=by
 cases hv with
 |fz _ _ M=>cases M
 |dptr _ _ _ _ hd _=>rw[hk]at hd;cases hd
 |pbox _ _ _ _ _ hd _=>rw[hk]at hd;cases hd
 |parr _ _ _ S U st' b n hk' hb hi O=>
  rw[hk]at hk';cases hk';obtain⟨_,_,_,R,_,f,E,G,I⟩:=H.ent k _ hk;obtain⟨c,el,L,_,B,_⟩:=I b n hb;have A:=R i x hx;refine⟨b,n,rfl,hb,O,A,λj u C=>?_,hi⟩;have hj:j<sz:=by rw[<-A];exact(zAz.1 C).1
  exact⟨f i j,by rw[kF L];exact B i j hi hj,G i j (zAz.1 hx).1 hj,E.toV i x j u hx C⟩
def I1 {xs:List AV} {x:AV} (hx:xs[i]? =some x) (hv:yK w D h β (.fp xs i off) c):
  ∃b o,c= .pointer (some ⟨b,o+off,none⟩)/\off<ln x.cells/\Z5 w D h β x.cells b o:=by
 cases hv with
 | fz _ _ C=>
  cases C with
  |fp _ b o sz _ _ f hL hi E hh=>
   have A:=hL.wide i x hx;refine⟨b,o+i*sz,rfl,by omega,λj u B=>?_⟩;have hj:j<sz:=by rw[<-A];exact(zAz.1 B).1
   exact⟨f i j,hL.cell i j hi hj,hL.one i j hi hj,.fz _ _ (hh i x j u hx B)⟩
end
def mc (B:Bool) (n:Nat) (A:List AV) (off:Nat):Option AV:=
 bif B then(bif Nat.ble (off+n) (ln A) then some (.agg ((A.drop off).take n))else none)else A[off]?
def DD (C:qS P TT) (hT:TT[T]? =some ti) {A:List AV} (M:Z5 w D h β A b o) {v:AV}
 (hv:mc ti.d.agg ti.size A off=some v):∃c,(loadVar T ⟨b,o+off,none⟩).run P w= .ok c w/\yK w D h β v c:=by
 have E:=Ng (C _ _ hT) w;have hs:=kE (C _ _ hT) w;unfold mc at hv
 have G:∀j,(⟨b,o+off,none⟩:Addr).add j=⟨b,o+(off+j),none⟩:=λj=>by unfold Addr.add;split<;>simp_all<;>omega
 cases hb:ti.d.agg with
 |false=>
  simp only[hb,zCc]at hv;obtain⟨c,h1,_,L⟩:=M off v hv;exact⟨c,by simp[loadVar,E,hb,h1],L⟩
 | true=>
  simp only[hb,zBr]at hv
  cases B:Nat.ble (off+ti.size) (ln A) with
  |false=>simp[B]at hv
  | true=>
   have I:=zAt B;simp only[B,zBr,zBw]at hv;subst hv
   have hc:∀j,∃c,j<ti.size->∃u,A[off+j]? =some u/\w.cell? ((⟨b,o+off,none⟩:Addr).add j)=some c/\c.oneCell'=true/\yK w D h β u c:=λj=>by
    by_cases hj:j<ti.size
    .obtain⟨u,S⟩:∃u,A[off+j]? =some u:=⟨A[off+j],by simp⟩
     simp_all [qS,hT,yS,qG,Z5,mc]
    .exact⟨undef,λh=>absurd h hj⟩
   obtain⟨f,R⟩:∃f:Nat->Value,∀j,j<ti.size->∃u,A[off+j]? =some u/\w.cell? ((⟨b,o+off,none⟩:Addr).add j)=some (f j)/\(f j).oneCell'=true/\yK w D h β u (f j):=
    ⟨λj=>(hc j).choose,λj hj=>(hc j).choose_spec hj⟩
   have hl:=run_loadCells (P:=P) w ⟨b,o+off,none⟩ ti.size f λj hj=>(R j hj).choose_spec.2.1
   have O:∀i,i<ti.size->(((ny ti.size).map f).toArray).getD i undef=f i:=λi hi=>dU QO
   refine⟨.agg ((ny ti.size).map f).toArray,by simp[loadVar,E,hb,hs,hl],.agg _ _ uH (λi hi=>?_) λi u S=>?_⟩
   all_goals grind
section ops
variable {P:Program} {TT:List TI} {st:St} (hP:qS P TT)
theorem fF {v:AV} (k:Nat) (hx:yY (zM st.tm) x=v) (h1:v.ok=true):vC P st (.box T x) (.ptr k 0 0) [(k,.box v.cells)] [] [k]:=by
 refine⟨?_⟩;intro X V h L _ M o a w β A B C;obtain⟨d0,o0,U,S,E,I⟩:=o;dsimp only at A;subst A;obtain⟨hl,A,hv⟩:=(cC C L (x:=x) qF hx).cells h1;obtain⟨β',G,O⟩:=wG.newBox B (M k zW) (a.eval x).cells T v.cells hl A hv
 have R:(execOp a.eval ⟨d0,.box T x,U,S,E,I⟩).run P w= .ok (.value (.pointer (some ⟨w.heap.size,0,none⟩))) (w.alloc (.cells (a.eval x).cells T)):=by
  simp[execOp,Instr.box,newVar,newRow]
 rw[R];exact⟨β',G,O⟩
include hP in
def dJ (k:Nat) (hT:TT[T]? =some ti) (h1:ti.zero.all (·.oneCell')=true):vC P st (.alloc T) (.ptr k 0 0) [(k,.box (ti.zero.map .s))] [] [k]:=by
 refine⟨?_⟩;intro X tm h Y _ M o a w β B E W;obtain⟨d0,o0,V,U,I,L⟩:=o;dsimp only at B;subst B;obtain⟨z,S,A⟩:=So (hP _ _ hT) w
 obtain⟨β',G,O⟩:=wG.newBox E (M k zW) z.cells T (ti.zero.map .s) (by simp[<-A]) (λi hi=>by
   have:=zAq.1 h1 (z.cells.getD i undef) (by rw[<-A];exact zB1 (by simpa using gJ _ i hi))
   exact this) (λi v hv=>by
   simp only[zAi,zAs]at hv;obtain⟨u,C,rfl⟩:=hv;rw[<-A]at C;rw[dU (by simpa using C)]
   exact .fz _ _ (.s _))
 have R:(execOp a.eval ⟨d0,.alloc T,V,U,I,L⟩).run P w= .ok (.value (.pointer (some ⟨w.heap.size,0,none⟩))) (w.alloc (.cells z.cells T)):=by
  simp[execOp,Instr.alloc,S,newVar,newRow]
 rw[R];exact⟨β',G,O⟩
include hP in
def DE {cs:List AV} {v:AV} (hx:yY (zM st.tm) x= .ptr k 0 off) (hk:zE st.h k=some (.box cs)) (hT:TT[T]? =some ti)
 (hv:mc ti.d.agg ti.size cs off=some v):vC P st (.load T x) v [] [k] []:=
 xA λo X S h w β a A I L B C=>by
  obtain⟨d0,o0,U,R,M,O⟩:=o;dsimp only at A;subst A;have h1:=cC C I (x:=x) qF hx;have hk':=(L k zW).trans hk;obtain⟨b,hc,_,G⟩:=MS B hk' h1;obtain⟨c,h2,E⟩:=DD hP hT G hv;rw[zBx]at h2;exact⟨c,by simp[execOp,Instr.loadAt,hc,Instr.sureAddr,h2],E⟩
include hP in
def cT {xs:List AV} {y v:AV} (hx:yY (zM st.tm) x= .ptr k i off) (hk:zE st.h k=some (.arr sz xs sl)) (M:xs[i]? =some y) (hT:TT[T]? =some ti)
 (hv:mc ti.d.agg ti.size y.cells off=some v):vC P st (.load T x) v [] [k] []:=
 xA λo X U h w β a A I L B C=>by
  obtain⟨d0,o0,V,S,O,R⟩:=o;dsimp only at A;subst A;have h1:=cC C I (x:=x) qF hx;have hk':=(L k zW).trans hk;obtain⟨b,n,hc,_,_,_,G⟩:=Mg B hk' M h1;obtain⟨c,h2,E⟩:=DD hP hT G hv;exact⟨c,by simp[execOp,Instr.loadAt,hc,Instr.sureAddr,h2],E⟩
include hP in
def WF {xs:List AV} {y v:AV} (hx:yY (zM st.tm) x= .fp xs i off) (I:xs[i]? =some y) (hT:TT[T]? =some ti)
 (hv:mc ti.d.agg ti.size y.cells off=some v):vC P st (.load T x) v [] [] []:=
 xA λo X U h w β a A G R L B=>by
  obtain⟨d0,o0,V,S,M,O⟩:=o;dsimp only at A;subst A;have h1:=cC B G (x:=x) qF hx;obtain⟨b,o,hc,_,E⟩:=I1 I h1;obtain⟨c,h2,C⟩:=DD hP hT E hv;exact⟨c,by simp[execOp,Instr.loadAt,hc,Instr.sureAddr,h2],C⟩
end ops
def Mo (E:qS P TT) (hT:TT[T]? =some ti) {c:Array Value} (hb:w.heap[b]? =some (.cells c el (0,0))) {x:Value} (C:x.cells.size=ti.size)
 (G:off+ti.size<=c.size) (h1:∀i,i<x.cells.size->(x.cells.getD i undef).oneCell'=true):
  ∃A:Array Value,(storeVar T ⟨b,off,none⟩ x).run P w= .ok () (w.setRow b A)/\A.size=c.size/\∀j,A.getD j undef=if off<=j/\j<off+ti.size then x.cells.getD (j-off) undef else c.getD j undef:=by
 have hs:=kE (E _ _ hT) w
 have B:=run_storeCells_at P b off el x.cells.toList 0 c w hb uH (λv hv=>by
  obtain⟨i,hi,rfl⟩:=zCw hv;have:=h1 i Pa
  simpa [zBe,show i<x.cells.size by simpa using hi]using this)
 refine⟨_,by simp only[storeVar,Sem.run_bind,hs,Result.andThen_ok,C,zC2,zEt,zE9,B];rfl,?_,λj=>?_⟩
 .simp;omega
 .simp only[zC8,zDn,C,zBe,zDd];by_cases h2:off<=j/\j<off+ti.size
  .grind
  .rw[Of h2]
   grind
def gK {c A:Array Value} {B:Nat×Nat} (hb:w.heap[b]? =some (.cells c el B)) (hs:A.size=c.size) (j:Nat):wW (w.setRow b A) j=wW w j:=by
 unfold wW World.shape?;by_cases h:j=b
 .subst h;rw[setRow_heap w _ _ _ _ _ hb,hb];simp[hs]
 .rw[setRow_other w b j A h]
section ops
variable {P:Program} {TT:List TI} {st:St} (hP:qS P TT)
include hP in
def HA {p:Operand} {k:Nat} {cs:List AV} {v:AV} (hp:yY (zM st.tm) p= .ptr k 0 off) (hx:yY (zM st.tm) x=v) (hk:zE st.h k=some (.box cs)) (hT:TT[T]? =some ti)
 (h1:v.ok=true) (h2:Nat.beq (ln v.cells) ti.size=true) (Y:Nat.ble (off+ti.size) (ln cs)=true):vC P st (.store T p x) .bot [(k,.box (QP cs off v.cells))] [k] []:=by
 refine⟨?_⟩;intro X tm h hg U _ o a w β ho I W;obtain⟨d0,o0,y0,p0,f0,g0⟩:=o;dsimp only at ho;subst ho;have hk':=(U k zW).trans hk;have h2:=zA9 h2;have Y:=zAt Y;have B:=cC W hg (x:=p) qF hp;obtain⟨hl,S,hv⟩:=(cC W hg (x:=x) qF hx).cells h1;obtain⟨b,c,el,e1,M,e3,e4,e5⟩:=I.ent k _ hk';obtain⟨G,hc,_,_⟩:=MS I hk' B
 obtain rfl:G=b:=by
  generalize a.eval p=cp at*
  cases B with
  |fz _ _ hf=>cases hf
  |dptr _ _ _ _ hd _=>rw[hk']at hd;cases hd
  |parr _ _ _ _ _ _ _ _ hd _ _ _=>rw[hk']at hd;cases hd
  |pbox _ _ ap ag n ac hb=>
   grind
 obtain⟨L,C,V,O⟩:=Mo hP hT M (off:=off) (x:=a.eval x) (by omega) (by omega) S
 have U:(execOp a.eval ⟨d0,.store T p x,y0,p0,f0,g0⟩).run P w= .ok .skip (w.setRow G L):=by
  simp[execOp,Instr.storeAt,hc,Instr.sureAddr,C]
 rw[U]
 refine⟨ZJ β k (β k),wG.step I k _ _ zW (λj hj hn=>setRow_other w G j L (λe=>hn 0 (by rw[e1,e];simp))) Z Z Z (λb n R=> .inl ⟨n,R⟩) (λb n _=>gK M V b)
  (λe he=>by rw[hk']at he;cases he;exact .inr ⟨⟨_,rfl⟩,λ_ _ R=>R⟩) λE=>⟨G,L,el,by rw[yO];exact e1,setRow_heap w _ _ _ _ _ M,by rw[aE];omega,λi hi=>?_,λi u A=>?_⟩,.fz _ _ (.bot _)⟩
 .grind
 .rw[VW _ _ _ _ (by omega)]at A;rw[O];rw[h2]at A;split
  .rename_i hi;rw[Os hi]at A;exact(hv _ u A).evo E
  .rename_i hi;rw[Of hi]at A;exact(e5 i u A).evo E
def DF (x:AV) (off:Nat) (cs:List AV):AV:=match x with
 | .agg A=> .agg (QP A off cs)
 |_=>match cs with
  | [v]=>v
  |_=> .bot
def qe {x:AV} {cs:List AV} (h:off+ln cs<=ln x.cells) (B:1<=ln cs) (A:cs.all (λv=>!v.isAgg)=true):(DF x off cs).cells=QP x.cells off cs:=by
  cases x<;>first
    |rfl
    | (simp only[AV.cells,zAm,zBh]at h
       match cs,B,h,A with
       | [v],_,h,A=>
         simp at A h;subst h
         cases v<;>first|rfl|(simp[AV.isAgg]at A))
include hP in
theorem UX {p:Operand} {k:Nat} {xs:List AV} {y v:AV} (hp:yY (zM st.tm) p= .ptr k i off) (hx:yY (zM st.tm) x=v) (hk:zE st.h k=some (.arr sz xs ⟨false,nest⟩)) (hy:xs[i]? =some y) (hT:TT[T]? =some ti)
 (h1:v.ok=true) (h2:Nat.beq (ln v.cells) ti.size=true) (h3:Nat.ble (off+ti.size) (ln y.cells)=true) (h4:(nest||v.nokey)=true) (h5:Nat.ble 1 ti.size=true) (h6:v.cells.all (λv=>!v.isAgg)=true):
  vC P st (.store T p x) .bot [(k,.arr sz (xs.set i (DF y off v.cells)) ⟨false,nest⟩)] [k] []:=by
 refine⟨?_⟩;intro X tm h hg hr _ o a w β ho HH Ht;obtain⟨d0,o0,y0,p0,f0,g0⟩:=o;dsimp only at ho;subst ho;have hk':=(hr k zW).trans hk;have h2:=zA9 h2;have h3:=zAt h3;have h5:=zAt h5;have a2:=cC Ht hg (x:=p) qF hp;have hxv:=cC Ht hg (x:=x) qF hx;obtain⟨hl,Y,hv⟩:=hxv.cells h1
 have a4:nest=false->∀(j:Nat) u,v.cells[j]? =some u->xS w (xX X β) u ((a.eval x).cells.getD j undef):=λV j u G=>(hv j u G).toF (by
  rw[V,zCp]at h4
  cases v<;>first
   |(simp[AV.cells]at G;cases j<;>simp at G;subst G;exact h4)
   |(exact gI (by simpa [AV.nokey,AV.cells]using h4) G))
 obtain⟨b,n,hc,L,a9,a5,_,a8⟩:=No HH hk' hy a2;obtain⟨g1,g2,g3,g4,g5,f,g6,g7,g8⟩:=HH.ent k _ hk';have hi:i<ln xs:=(zAz.1 hy).1
 obtain⟨rr,hbk,a1,ac⟩:∃rr,β k=(b,n)::rr/\n=ln xs/\∀R n',(R,n')∈rr->n'=0:=by
  cases hbk:β k with
  |nil=>rw[hbk]at L;simp at L
  |cons q r=>
   obtain⟨b0,n0⟩:=q;obtain⟨e1,U,_⟩:=g5 b0 n0 r hbk;have U:=U Z;rw[hbk]at L;simp at L
   rcases L with⟨rfl,rfl⟩|L
   .exact⟨r,rfl,e1,U⟩
   .have:=U b n L;omega
 subst a1;obtain⟨c,el,U,e3,e4,e5⟩:=g8 b _ L
 have a7:i*sz+sz<=ln xs*sz:=by
  have:=zA1 sz (show i+1<=ln xs by omega)
  rwa [zBq,zCu]at this
 obtain⟨S,av,a3,ag⟩:=Mo hP hT U (off:=i*sz+off) (x:=a.eval x) (by omega) (by omega) Y
 have hr:(execOp a.eval ⟨d0,.store T p x,y0,p0,f0,g0⟩).run P w= .ok .skip (w.setRow b S):=by
  simp[execOp,Instr.storeAt,hc,Instr.sureAddr,av]
 rw[hr];have au:=qe (x:=y) (off:=off) (cs:=v.cells) (by omega) (by omega) h6;have a6:(xs.set i (DF y off v.cells)).length=ln xs:=by simp
 have W:∀(A:Nat) (O:AV),(xs.set i (DF y off v.cells))[A]? =some O->(A=i/\O=DF y off v.cells)\/(A≠i/\xs[A]? =some O):=by
  intro A O C;by_cases I:A=i
  .subst I;rw[zA6 hi]at C;exact .inl ⟨rfl,(zDm C).symm⟩
  .rw[zE1 (λe=>I e.symm)]at C;exact .inr ⟨I,C⟩
 let f':Nat->Nat->Value:=λA j=>if A=i/\off<=j/\j<off+ti.size then(a.eval x).cells.getD (j-off) undef else f A j
 refine⟨ZJ β k (β k),wG.step HH k _ _ zW (λj hj V=>setRow_other w b j S (λe=>V (ln xs) Qg)) Z Z Z (λb n L=> .inl ⟨n,L⟩) (λb n _=>gK U a3 b)
  (λe he=>by rw[hk']at he;cases he;exact .inr ⟨⟨_,_,rfl,by simp⟩,λ_ n L=>⟨n,zAg _,L⟩⟩) λE=>⟨g1,by simpa using g2,λ_=>by rw[yO,hbk];simp,λA O C=>?_,λR n' r B=>?_,f',λA O j u C G=>?_,λA j hi' hj=>?_,λR n' B=>?_⟩,.fz _ _ (.bot _)⟩
 .rcases W A O C with⟨_,rfl⟩|⟨_,h⟩
  .rw[au,aE];exact a5
  .exact g4 A O h
 .rw[yO,hbk]at B;simp at B;obtain⟨⟨rfl,rfl⟩,rfl⟩:=B;refine⟨by simp,λ_=>ac,λR n' L=>by have:=ac R n' L;simp;omega⟩
 .rcases W A O C with⟨rfl,rfl⟩|⟨I,h⟩
  .rw[au,VW _ _ _ _ (by omega)]at G;simp only[f',true_and];rw[h2]at G;split
   .rename_i hj;rw[Os hj]at G;exact⟨(hv _ u G).evo E,λV=>(a4 V _ u G).evo E.size E.fz⟩
   .rename_i hj;rw[Of hj]at G;exact⟨(g6 A y j u hy G).1.evo E,λV=>((g6 A y j u hy G).2 V).evo E.size E.fz⟩
  .simp only[f',I,false_and,zE9];exact⟨(g6 A O j u h G).1.evo E,λV=>((g6 A O j u h G).2 V).evo E.size E.fz⟩
 .simp only[f'];split
  .exact Y _ (by omega)
  .exact g7 A j (by simpa using hi') hj
 .have M:∀q,q<S.size->(S.getD q undef).oneCell'=true:=λq hq=>by
   rw[ag];split
   .exact Y _ (by omega)
   .exact e5 q (by omega)
  rw[yO,hbk]at B;simp at B
  rcases B with⟨rfl,rfl⟩|B
  case inr=>
   obtain rfl:=ac R n' B;by_cases ap:R=b
   .subst ap;exact⟨S,el,setRow_heap w _ _ _ _ _ U,by omega,λA j hi' _=>by omega,M⟩
   .obtain⟨c2,ax,q1,q2,_,q4⟩:=g8 R 0 (by rw[hbk];simp[B]);exact⟨c2,ax,(setRow_other w b R S ap).trans q1,q2,λA j hi' _=>by omega,q4⟩
  refine⟨S,el,setRow_heap w _ _ _ _ _ U,by omega,λA j hi' hj=>?_,M⟩
  have az:A*sz+j<S.size:=by
   have:=zA1 sz (show A+1<=ln xs by omega);rw[zBq,zCu]at this;omega
  rw[gJ S _ az,ag]
  congr 1
  have ar:(i*sz+off<=A*sz+j/\A*sz+j<i*sz+off+ti.size)↔(A=i/\off<=j/\j<off+ti.size):=by
   constructor
   .rintro⟨q1,q2⟩
    have I:A=i:=by
     rcases Nat.lt_trichotomy A i with h|h|h
     .have:=zA1 sz (show A+1<=i by omega);rw[zBq,zCu]at this;omega
     .exact h
     .have:=zA1 sz (show i+1<=A by omega);rw[zBq,zCu]at this;omega
    subst I;exact⟨rfl,by omega,by omega⟩
   .rintro⟨rfl,q1,q2⟩;omega
  simp only[f',ar];split
  .rename_i hq;obtain⟨rfl,q1,q2⟩:=hq
   congr 1
   omega
  .exact dU (e4 A j hi' hj)
end ops
end
section
section ops
variable {P:Program} {TT:List TI} {st:St} (hP:qS P TT)
def Fa {P:Program} {TT:List TI} (hP:qS P TT) {f o:Nat} (hT:TT[T]? =some ti) (hd:ti.d= .str fs) (E:fs[f]? =some (o,ft)) (w:World):
  ∃(A:Array Field) (B:Field),(underlying T).run P w= .ok (.struct A) w/\A[f]? =some B/\B.offset=o/\B.type=ft:=by
 obtain⟨u,I,C⟩:=wL (hP _ _ hT) w;obtain⟨A,rfl,G⟩:=Qo (C.trans hd)
 grind
def WH {P:Program} {TT:List TI} (hP:qS P TT) {f o:Nat} (hT:TT[T]? =some ti) (hd:ti.d= .str fs) (M:fs[f]? =some (o,ft)) (C:TT[ft]? =some tf) (G:Nat.ble 1 tf.size=true) (w:World) (b q:Nat):
  (Instr.fieldAt T (.pointer (some ⟨b,q,none⟩)) f).run P w= .ok (.pointer (some ⟨b,q+o,none⟩)) w:=by
 obtain⟨B,O,h1,h2,I,L⟩:=Fa hP hT hd M w;have hs:=kE (hP _ _ C) w;have G:=zAt G;have E:¬tf.size=0:=by omega
 have A:(⟨b,q,none⟩:Addr).add o=⟨b,q+o,none⟩:=by unfold Addr.add;split<;>simp_all
 simp[Instr.fieldAt,h1,h2,Instr.sureAddr,fieldPlace,I,L,hs,E,A]
def WI (b q n:Nat):(⟨b,q,none⟩:Addr).add n=⟨b,q+n,none⟩:=by unfold Addr.add;split<;>simp_all
include hP in
def QR {f o:Nat} {cs:List AV} (hx:yY (zM st.tm) x= .ptr k 0 off) (hk:zE st.h k=some (.box cs)) (hT:TT[T]? =some ti) (hd:ti.d= .str fs) (C:fs[f]? =some (o,ft))
 (G:TT[ft]? =some tf) (S:Nat.ble 1 tf.size=true):vC P st (.fieldAddr T x f) (.ptr k 0 (off+o)) [] [k] []:=
 xA λU X tm h w β a I O R V L=>by
  obtain⟨d0,o0,y0,p0,Y,g0⟩:=U;dsimp only at I;subst I;have h1:=cC L O (x:=x) qF hx;have hk':=(R k zW).trans hk;have E:=λb=>WH hP hT hd C G S w b off
  generalize M:a.eval x=W at h1
  cases h1 with
  |fz _ _ C=>cases C
  |dptr _ _ _ _ hd _=>rw[hk']at hd;cases hd
  |parr _ _ _ _ _ _ _ _ hd _ _ _=>rw[hk']at hd;cases hd
  |pbox _ _ B b n A hb=>exact⟨_,by simp[execOp,M,E],.pbox k _ B b n A hb⟩
include hP in
def vR {f o:Nat} {xs:List AV} (hx:yY (zM st.tm) x= .ptr k i off) (hk:zE st.h k=some (.arr sz xs sl)) (hT:TT[T]? =some ti) (hd:ti.d= .str fs) (C:fs[f]? =some (o,ft))
 (G:TT[ft]? =some tf) (S:Nat.ble 1 tf.size=true) (B:Nat.blt (off+o) sz=true):vC P st (.fieldAddr T x f) (.ptr k i (off+o)) [] [k] []:=
 xA λU X tm h w β a I O R Y L=>by
  obtain⟨d0,o0,y0,p0,f0,g0⟩:=U;dsimp only at I;subst I;have h1:=cC L O (x:=x) qF hx;have hk':=(R k zW).trans hk;have E:=λb q=>WH hP hT hd C G S w b q
  have B:off+o<sz:=zAt B;generalize M:a.eval x=cx at h1
  cases h1 with
  |fz _ _ C=>cases C
  |dptr _ _ _ _ hd _=>rw[hk']at hd;cases hd
  |pbox _ _ _ _ _ hd _=>rw[hk']at hd;cases hd
  |parr _ _ _ V W st' b n A hb hi I=>
   have h2:=A;rw[hk']at h2;cases h2;exact⟨_,by simp[execOp,M,E];rfl,by rw[zFj];exact .parr k i (off+o) sz xs sl b n A hb hi B⟩
include hP in
def uI {f o:Nat} {xs:List AV} {y:AV} (hx:yY (zM st.tm) x= .fp xs i off) (R:xs[i]? =some y) (hT:TT[T]? =some ti) (hd:ti.d= .str fs) (B:fs[f]? =some (o,ft))
 (E:TT[ft]? =some tf) (S:Nat.ble 1 tf.size=true) (A:Nat.blt (off+o) (ln y.cells)=true):vC P st (.fieldAddr T x f) (.fp xs i (off+o)) [] [] []:=
 xA λU X tm h w β a G M hr V I=>by
  obtain⟨d0,o0,y0,p0,Y,g0⟩:=U;dsimp only at G;subst G;have h1:=cC I M (x:=x) qF hx;have C:=λb q=>WH hP hT hd B E S w b q
  have A:off+o<ln y.cells:=zAt A;generalize L:a.eval x=W at h1
  cases h1 with
  | fz _ _ B=>
   cases B with
   |fp _ b q sz _ _ f hL hi G hh=>
    have O:=hL.wide i y R;exact⟨_,by simp[execOp,L,C];rfl,.fz _ _ (by rw[zFj];exact .fp xs b q sz i (off+o) f hL hi (by omega) hh)⟩
include hP in
def OV (hT:TT[T]? =some ti) (hd:ti.d= .slice e) (C:TT[e]? =some te) (w:World) (b q len cap:Nat) (k:IntKind) (i:Int) (B:0<=i) (hi:i<len):
  (Instr.indexAt T (.slice (some ⟨b,q,none⟩) len cap) (.int k i)).run P w= .ok (.pointer (some ⟨b,q+i.toNat*te.size,none⟩)) w:=by
 obtain⟨u,E,A⟩:=wL (hP _ _ hT) w;obtain rfl:=uP (A.trans hd);have hs:=kE (hP _ _ C) w;simp[Instr.indexAt,asIntOf,E,B,hi,hs,WI]
include hP in
def uJ {xs:List AV} {y:AV} {k:IntKind} {i:Int} (hx:yY (zM st.tm) x= .sl nn xs) (hi:yY (zM st.tm) ix= .s (.int k i)) (hT:TT[T]? =some ti) (hd:ti.d= .slice e) (R:TT[e]? =some te)
 (O:0<=i) (L:xs[i.toNat]? =some y) (hs:Nat.beq (ln y.cells) te.size=true) (M:Nat.ble 1 te.size=true):vC P st (.indexAddr T x ix) (.fp xs i.toNat 0) [] [] []:=
 xA λV X tm h w β a I G hr W E=>by
  obtain⟨d0,o0,y0,p0,f0,g0⟩:=V;dsimp only at I;subst I;have h1:=cC E G (x:=x) qF hx;have h2:=vY E G (x:=ix) qF hi;have hs:=zA9 hs;have M:=zAt M;have A:i.toNat<ln xs:=(zAz.1 L).1;generalize B:a.eval x=Y at h1
  cases h1 with
  | fz _ _ S=>
   cases S with
   |nil a cap=>simp at A
   |nil1 a cap=>simp at A
   |sl _ _ b o sz cap f U hL hc hh=>
    have C:=hL.wide _ y L;refine⟨_,by simp only[execOp,B,h2,Sem.run_bind,OV hP hT hd R w b o (ln xs) cap k i O (by omega),Result.andThen_ok,Sem.run_pure];rfl,.fz _ _ ?_⟩;have:=xS.fp xs b o sz i.toNat 0 f hL A (by omega) hh
    rwa [zC8,<-C,hs]at this
include hP in
def QS {A:Nat} {xs:List AV} {k:IntKind} {i:Int} (hx:yY (zM st.tm) x= .ref A off len) (hi:yY (zM st.tm) ix= .s (.int k i)) (hk:zE st.h A=some (.arr sz xs sl)) (hT:TT[T]? =some ti) (hd:ti.d= .slice e) (R:TT[e]? =some te)
 (O:0<=i) (hl:i<len) (hs:Nat.beq sz te.size=true):vC P st (.indexAddr T x ix) (.ptr A (off+i.toNat) 0) [] [A] []:=
 xA λW X tm h w β a L I U M E=>by
  obtain⟨d0,o0,y0,p0,f0,g0⟩:=W;dsimp only at L;subst L;have h1:=cC E I (x:=x) qF hx;have h2:=vY E I (x:=ix) qF hi;have hk':=(U A zW).trans hk;have hs:=zA9 hs;have hp:=(M.ent A _ hk').1;generalize C:a.eval x=cx at h1
  cases h1 with
  |fz _ _ S=>cases S
  |dref _ _ _ _ hd _=>rw[hk']at hd;cases hd
  |ref0 _ _ _ _ _ _ _ _=>simp at hl;omega
  |ref _ _ _ Y ac st' b n cap B hb hn hc V=>
   have G:=B;rw[hk']at G;cases G;refine⟨_,by simp only[execOp,C,h2,Sem.run_bind,OV hP hT hd R w b _ len cap k i O hl,Result.andThen_ok,Sem.run_pure];rfl,?_⟩;have:=yK.parr (w:=w) (D:=xX X β) A (off+i.toNat) 0 sz xs sl b n B hb (by omega) (by omega);rw[zBq,zC8]at this;rw[<-hs];exact this
include hP in
def vS {A:Nat} {cs:List AV} {k:IntKind} {i:Int} (hx:yY (zM st.tm) x= .ptr A 0 off) (hi:yY (zM st.tm) ix= .s (.int k i)) (hk:zE st.h A=some (.box cs)) (hT:TT[T]? =some ti) (hd:ti.d= .arr n e) (R:TT[e]? =some te)
 (O:0<=i) (hl:i<n):vC P st (.indexAddr T x ix) (.ptr A 0 (off+i.toNat*te.size)) [] [A] []:=
 xA λW X tm h w β a M L U Y I=>by
  obtain⟨d0,o0,y0,p0,f0,g0⟩:=W;dsimp only at M;subst M;have h1:=cC I L (x:=x) qF hx;have h2:=vY I L (x:=ix) qF hi;have hk':=(U A zW).trans hk;obtain⟨u,V,E⟩:=wL (hP _ _ hT) w;obtain rfl:=Ro (E.trans hd);have hs:=kE (hP _ _ R) w;generalize G:a.eval x=cx at h1
  cases h1 with
  |fz _ _ S=>cases S
  |dptr _ _ _ _ hd _=>rw[hk']at hd;cases hd
  |parr _ _ _ _ _ _ _ _ hd _ _ _=>rw[hk']at hd;cases hd
  |pbox _ _ C b q B hb=>
   exact⟨.pointer (some ⟨b,off+i.toNat*te.size,none⟩),by simp[execOp,Instr.indexAt,asIntOf,V,Instr.sureAddr,O,hl,hs,WI,G,h2],.pbox A _ C b q B hb⟩
def Lo {P:Program} {TT:List TI} (hP:qS P TT) (hT:TT[T]? =some ti) {cs:List AV} (hv:yK w D h β (.agg cs) c) {v:AV} (hl:mc ti.d.agg ti.size cs off=some v):
  ∃(A:Array Value) (u:Value),c= .agg A/\(part T A off).run P w= .ok u w/\yK w D h β v u:=by
 obtain⟨h1,h2,E⟩:=hv.cells Z;have G:=Ng (hP _ _ hT) w;have hs:=kE (hP _ _ hT) w
 obtain⟨A,rfl⟩:∃A,c= .agg A:=by
  cases hv with
  |fz _ _ M=>cases M with|agg _ c=>exact⟨c,rfl⟩
  |agg _ c=>exact⟨c,rfl⟩
 simp only[Value.cells,AV.cells]at h1 h2 E;unfold mc at hl
 cases hb:ti.d.agg with
 |false=>
  simp only[hb,zCc]at hl;have C:off<A.size:=by rw[h1];exact(zAz.1 hl).1
  exact⟨A,A.getD off undef,rfl,by simp only[part,Sem.run_bind,G,hb,Result.andThen_ok,gJ A off C,zFe,zE9,Sem.run_pure],E _ _ hl⟩
 | true=>
  simp only[hb,zBr]at hl
  cases B:Nat.ble (off+ti.size) (ln cs) with
  |false=>simp[B]at hl
  | true=>
   have I:=zAt B;simp only[B,zBr,zBw]at hl;subst hl
   have L:∀i,i<ti.size->(A.extract off (off+ti.size)).getD i undef=A.getD (off+i) undef:=λi hi=>by
    apply dU;rw[Array.getElem?_extract];rw[Os (by omega)];exact gJ A _ (by omega)
   refine⟨A,.agg (A.extract off (off+ti.size)),rfl,by simp only[part,Sem.run_bind,G,hb,Result.andThen_ok,zEp,hs,Sem.run_pure],.agg _ _ uH (λi hi=>?_) λi u O=>?_⟩
   all_goals grind
def Pi (hP:qS P TT) {f o:Nat} {cs:List AV} {v:AV} (hx:yY (zM st.tm) x= .agg cs) (hT:TT[T]? =some ti) (hd:ti.d= .str fs) (M:fs[f]? =some (o,ft))
 (B:TT[ft]? =some tf) (hv:mc tf.d.agg tf.size cs o=some v):vC P st (.field T x f) v [] [] []:=
 xA λS X tm h w β a C O E U G=>by
  obtain⟨d0,o0,y0,p0,W,g0⟩:=S;dsimp only at C;subst C;have h1:=cC G O (x:=x) qF hx;obtain⟨A,Y,e1,I,e3,L⟩:=Fa hP hT hd M w;obtain⟨V,u,hc,E,R⟩:=Lo hP B h1 hv;exact⟨u,by simp[execOp,hc,Instr.field,e1,I,asAgg,e3,L,E],R⟩
def OB {cs:List AV} (hx:yY (zM st.tm) x= .ptr k 0 off) (hk:zE st.h k=some (.box cs)):vC P st (.nilCheck x) (.ptr k 0 off) [] [k] []:=
 xA λI X R h w β a A E G B C=>by
  obtain⟨d0,o0,S,O,L,M⟩:=I;dsimp only at A;subst A;have h1:=cC C E (x:=x) qF hx;have hk':=(G k zW).trans hk;obtain⟨b,hc,_,_⟩:=MS B hk' h1;rw[hc]at h1;exact⟨_,by simp[execOp,hc],h1⟩
def wM {xs:List AV} {y:AV} (hx:yY (zM st.tm) x= .ptr k i off) (hk:zE st.h k=some (.arr sz xs sl)) (I:xs[i]? =some y):vC P st (.nilCheck x) (.ptr k i off) [] [k] []:=
 xA λL X S h w β a A E G B C=>by
  obtain⟨d0,o0,U,R,M,O⟩:=L;dsimp only at A;subst A;have h1:=cC C E (x:=x) qF hx;have hk':=(G k zW).trans hk;obtain⟨b,n,hc,_,_,_,_⟩:=Mg B hk' I h1;rw[hc]at h1;exact⟨_,by simp[execOp,hc],h1⟩
def ke (hP:qS P TT) {xs:List AV} (hx:yY (zM st.tm) x= .sl nn xs) (hT:TT[T]? =some ti) (hd:ti.d= .slice e):
  vC P st (.call ⟨.builtin .len, #[x], #[T]⟩) (.s (.int .i64 (ln xs))) [] [] []:=
 xA λL X W h w β a B G U M C=>by
  obtain⟨d0,o0,Y,V,R,S⟩:=L;dsimp only at B;subst B;have h1:=cC C G (x:=x) gH hx;obtain⟨u,I,A⟩:=wL (hP _ _ hT) w;obtain rfl:=uP (A.trans hd)
  obtain⟨b,cap,hc⟩:∃b cap,a.eval x= .slice b (ln xs) cap:=by
   generalize a.eval x=O at h1
   cases h1 with
   |fz _ _ E=>cases E<;>exact⟨_,_,rfl⟩
  exact⟨_,by simp[execOp,resolve,invoke,builtin,Builtin.len_,hc,I,goInt],.fz _ _ (.s _)⟩
def Ea (hP:qS P TT) {xs:List AV} (hx:yY (zM st.tm) x= .ref k off len) (hk:zE st.h k=some (.arr sz xs sl)) (hT:TT[T]? =some ti) (hd:ti.d= .slice e):
  vC P st (.call ⟨.builtin .len, #[x], #[T]⟩) (.s (.int .i64 len)) [] [k] []:=
 xA λM X W h w β a B G I O C=>by
  obtain⟨d0,o0,Y,V,S,U⟩:=M;dsimp only at B;subst B;have h1:=cC C G (x:=x) gH hx;have hk':=(I k zW).trans hk;obtain⟨u,L,A⟩:=wL (hP _ _ hT) w;obtain rfl:=uP (A.trans hd)
  obtain⟨b,cap,hc⟩:∃b cap,a.eval x= .slice b len cap:=by
   generalize a.eval x=R at h1
   cases h1 with
   |fz _ _ E=>cases E
   |dref _ _ _ _ hd _=>rw[hk']at hd;cases hd
   |ref0 _ _ _ _ _ _ _ _=>exact⟨_,_,rfl⟩
   |ref _ _ _ _ _ _ _ _ _ _ _ _ _ _=>exact⟨_,_,rfl⟩
  exact⟨_,by simp[execOp,resolve,invoke,builtin,Builtin.len_,hc,L,goInt],.fz _ _ (.s _)⟩
def Da (hP:qS P TT) {b:Option Addr} {cap:Nat} (hx:yY (zM st.tm) x= .s (.slice b n cap)) (hT:TT[T]? =some ti) (hd:ti.d= .slice e):
  vC P st (.call ⟨.builtin .len, #[x], #[T]⟩) (.s (.int .i64 n)) [] [] []:=
 xA λI X U h w β a B E R L C=>by
  obtain⟨d0,o0,V,S,M,O⟩:=I;dsimp only at B;subst B;have hc:=vY C E (x:=x) gH hx;obtain⟨u,G,A⟩:=wL (hP _ _ hT) w;obtain rfl:=uP (A.trans hd);exact⟨_,by simp[execOp,resolve,invoke,builtin,Builtin.len_,hc,G,goInt],.fz _ _ (.s _)⟩
def Bd (st:St) (o:Option Operand) (A n:Nat):Prop:=match o with
 |none=>n=A
 |some x=>∃k i,yY (zM st.tm) x= .s (.int k i)/\i=(n:Int)
def dK {P:Program} {st:St} {op:Op} {I:Nat->AV} (H:∀t,yK w D h β (I t) (a.eval (.tmp t))) (G:∀t,t∈dI op->I t=zM st.tm t) 
 (h1:∀x,lo=some x->x∈op.operands) (h2:∀x,hi=some x->x∈op.operands) {cap l:Nat} (hl:Bd st lo 0 l) (A:Bd st hi len r) (B:l<=r) (C:r<=cap) (b:Bool):
  (Instr.sliceBounds b len cap (lo.map a.eval) (hi.map a.eval) none).run P w= .ok (l,r,cap) w:=by
 unfold Instr.sliceBounds
 cases lo with
 | none=>
  simp only[Bd]at hl;subst hl
  cases hi with
  |none=>simp only[Bd]at A;subst A;simp
  |some y=>
   obtain⟨k,i,e1,rfl⟩:=A;have E:=vY H G (h2 y Z) e1;simp[Instr.sliceBound,E,asIntOf,C]
 | some x=>
  obtain⟨k,i,e1,rfl⟩:=hl;have E:=vY H G (h1 x Z) e1
  cases hi with
  |none=>simp only[Bd]at A;subst A;simp[Instr.sliceBound,E,asIntOf,B]
  |some y=>
   obtain⟨O,M,e3,rfl⟩:=A;have L:=vY H G (h2 y Z) e3;simp[Instr.sliceBound,E,L,asIntOf,B,C]
theorem YO (hP:qS P TT) {xs:List AV} (hx:yY (zM st.tm) x= .sl nn xs) (hT:TT[T]? =some ti) (hd:ti.d= .slice e) (he:TT[e]? =some te)
 (hl:Bd st lo 0 l) (hr:Bd st hi (ln xs) r) (V:l<=r) (C:r<=ln xs) (W:∀y,xs[0]? =some y->ln y.cells=te.size):vC P st (.slice T x lo hi none) (.sl nn ((xs.drop l).take (r-l))) [] [] []:=
 xA λoo X tm h w β a ho hg _ HH Y=>by
  obtain⟨d0,o0,y0,p0,f0,g0⟩:=oo;dsimp only at ho;subst ho;have h1:=cC Y hg (x:=x) qF hx;obtain⟨u,hu,U⟩:=wL (hP _ _ hT) w;obtain rfl:=uP (U.trans hd);have hs:=kE (hP _ _ he) w
  obtain⟨b,cap,hc,G⟩:∃b cap,a.eval x= .slice b (ln xs) cap/\xs.length<=cap:=by
   generalize a.eval x=cx at h1
   cases h1 with
   |fz _ _ I=>
    cases I with
    |nil a cap=>exact⟨_,_,rfl,by simp⟩
    |nil1 a cap=>exact⟨_,_,rfl,by simp⟩
    |sl _ _ b o sz cap f L hL hc hh=>exact⟨_,_,rfl,hc⟩
  have hb:=dK (P:=P) Y hg (lo:=lo) (hi:=hi) (λy B=>by subst B;simp[Op.operands]) (λy B=>by subst B;simp[Op.operands]) hl hr V (zBi C G) true
  have R:(execOp a.eval ⟨d0,.slice T x lo hi none,y0,p0,f0,g0⟩).run P w= .ok (.value (.slice (if cap=l then b else b.map (·.add (l*te.size))) (r-l) (cap-l))) w:=by
   simp only[execOp,Instr.sliceAt,Instr.slice,Sem.run_bind,hu,Result.andThen_ok,hc,zDc,hb,hs,Sem.run_pure]
  refine⟨_,R,.fz _ _ ?_⟩;rw[hc]at h1;have A:((xs.drop l).take (r-l)).length=r-l:=by simp;omega
  by_cases hz:r-l=0
  .have O:(xs.drop l).take (r-l)=[]:=zBa (by omega);rw[O,hz]
   cases nn with
   |false=>exact .nil _ _
   | true=>
    cases h1 with
    |fz _ _ I=>
     cases I with
     |nil1 a cap=>split<;>exact .nil1 _ _
     |sl _ _ b o sz cap f L hL hc hh=>split<;>exact .nil1 _ _
  .cases h1 with
   | fz _ _ I=>
    cases I with
    |nil a cap=>simp at C;omega
    |nil1 a cap=>simp at C;omega
    | sl _ _ b o sz cap f L hL hc hh=>
     have M:¬cap=l:=by omega
     have S:te.size=sz:=by
      obtain⟨y,B⟩:∃y,xs[0]? =some y:=⟨xs[0]'(by omega),by simp⟩;rw[<-W y B,hL.wide 0 y B]
     have E:∀(i:Nat) y,((xs.drop l).take (r-l))[i]? =some y->xs[l+i]? =some y:=λi y B=>by
      rw[zB3]at B;split at B
      .rwa [zCt]at B
      .cases B
     rw[Of M,zB8,WI,S]
     have:=xS.sl (w:=w) (D:=xX X β) nn ((xs.drop l).take (r-l)) b (o+l*sz) sz (cap-l) (λi j=>f (l+i) j) (λh0=>hz (by rw[<-A,h0];rfl))
      ⟨hL.lt,hL.nd,hL.pos,by rw[A];exact zBi (Nat.sub_le _ _) (zBi C hL.max),λi y B=>hL.wide _ y (E i y B),λi j hi hj=>by
       rw[A]at hi;have:=hL.cell (l+i) j (by omega) hj
       rwa [zBq,<-zFj]at this,λi j hi hj=>hL.one _ _ (by rw[A]at hi;omega) hj⟩ (by omega) (λi y j v B hv=>hh _ y j v (E i y B) hv)
     rwa [A]at this
def aQ (hP:qS P TT) {xs:List AV} (hx:yY (zM st.tm) x= .ref k off len) (hk:zE st.h k=some (.arr sz xs sl)) (hT:TT[T]? =some ti) (hd:ti.d= .slice e) (he:TT[e]? =some te)
 (hl:Bd st lo 0 l) (hr:Bd st hi len r) (R:l<=r) (V:r<=len) (C:Nat.beq sz te.size=true):vC P st (.slice T x lo hi none) (.ref k (off+l) (r-l)) [] [k] []:=
 xA λoo X tm h w β a ho hg U HH Ht=>by
  obtain⟨d0,o0,y0,p0,f0,g0⟩:=oo;dsimp only at ho;subst ho;have h1:=cC Ht hg (x:=x) qF hx;have hk':=(U k zW).trans hk;have C:=zA9 C;obtain⟨u,hu,O⟩:=wL (hP _ _ hT) w;obtain rfl:=uP (O.trans hd);have hs:=kE (hP _ _ he) w;have hE:=HH.ent k _ hk';generalize M:a.eval x=cx at h1
  have B:∀b cap,cx= .slice b len cap->len<=cap->(execOp a.eval ⟨d0,.slice T x lo hi none,y0,p0,f0,g0⟩).run P w= .ok (.value (.slice (if cap=l then b else b.map (·.add (l*te.size))) (r-l) (cap-l))) w:=by
   intro b cap hc E;have hb:=dK (P:=P) Ht hg (lo:=lo) (hi:=hi) (λy Y=>by subst Y;simp[Op.operands]) (λy Y=>by subst Y;simp[Op.operands]) hl hr R (zBi V E) true;simp only[execOp,Instr.sliceAt,Instr.slice,Sem.run_bind,hu,Result.andThen_ok,M,hc,zDc,hb,hs,Sem.run_pure]
  cases h1 with
  |fz _ _ hf=>cases hf
  |dref _ _ _ _ hd _=>rw[hk']at hd;cases hd
  |ref0 _ _ I L st' b A hn=>
   have S:=B b 0 Z (zAg _);obtain rfl:r=0:=by omega
   obtain rfl:l=0:=by omega
   exact⟨_,S,.ref0 k off I L st' _ A hn⟩
  | ref _ _ _ I L st' b n cap A hb hn hc W=>
   have S:=B _ cap Z hc;have h3:=A;rw[hk']at h3;cases h3;refine⟨_,S,?_⟩;obtain⟨_,_,_,_,g5,_⟩:=hE
   have ac:n<=ln xs:=by
    cases hbk:β k with
    |nil=>rw[hbk]at hb;simp at hb
    |cons q rr=>
     obtain⟨b0,n0⟩:=q;obtain⟨e1,_,e3⟩:=g5 b0 n0 rr hbk;rw[hbk]at hb;simp at hb
     rcases hb with⟨_,rfl⟩|hb
     .omega
     .exact zE2 (e3 b n hb)
   by_cases G:cap=l
   .obtain rfl:r=l:=by omega
    rw[Os G,show r-r=0 by omega,show cap-r=0 by omega];exact .ref0 k _ sz xs sl _ A (by omega)
   .rw[Of G,zB8,WI,<-C,<-zBq];exact .ref k (off+l) (r-l) sz xs sl b n (cap-l) A hb (by omega) (by omega) (by rw[show off+l+(cap-l)=off+cap by omega];exact W)
end ops
end
section
def QT (ne:Bool) (h:yS):AV->Option (List AV)
 | .sl _ ys=>some ys
 | .s v=>match v with
  | .slice none 0 0=>some []
  |_=>none
 | .ref k off len=>match h k with
  |some (.arr _ xs fl)=>bif fl.nest&& !ne then none else some ((xs.drop off).take len)
  |_=>none
 |_=>none
abbrev je (h:yS):AV->Option (List AV):=QT false h
def JK:AV->List Nat
 | .ref k _ _=>[k]
 |_=>[]
structure A1 (w:World) (D:Nat->Prop) (h:yS) (β:qG) (ne:Bool) (ys:List AV) (sz:Nat) (b o:Nat) (f:Nat->Nat->Value):Prop where
 wide:∀(i:Nat) (y:AV),ys[i]? =some y->y.cells.length=sz
 cell:∀i j,i<ys.length->j<sz->w.cell? ⟨b,o+i*sz+j,none⟩=some (f i j)
 one:∀i j,i<ys.length->j<sz->(f i j).oneCell'=true
 rep:fI w D h β ne ys f
def VX (H:gW X h β w) {x:AV} (hv:yK w (xX X β) h β x c) {ys:List AV} (C:QT ne h x=some ys) (L:∀y,ys[0]? =some y->ln y.cells=sz):
  ∃a cap,c= .slice a (ln ys) cap/\ys.length<=cap/\ys.length<=aP/\(ys≠[]->∃b o f,a=some ⟨b,o,none⟩/\A1 w (xX X β) h β ne ys sz b o f):=by
 cases hv with
 | fz _ _ Y=>
  cases Y with
  |s v=>
   simp only[QT]at C
   grind
  |nil a cap=>cases C;exact⟨a,cap,rfl,by simp,by simp,λh=>absurd Z h⟩
  |nil1 a cap=>cases C;exact⟨some a,cap,rfl,by simp,by simp,λh=>absurd Z h⟩
  | sl nn xs b o A cap f G hL hc hh=>
   cases C
   have hs:A=sz:=by
    obtain⟨y,B⟩:∃y,ys[0]? =some y:=by cases ys with|nil=>exact absurd Z G|cons y _=>exact⟨y,rfl⟩
    rw[<-L y B,hL.wide 0 y B]
   subst hs;exact⟨_,cap,rfl,hc,hL.max,λ_=>⟨b,o,f,rfl,hL.wide,hL.cell,hL.one,.ofF hh⟩⟩
  |_=>cases C
 | ref k off len A xs st b n cap hk hb M hc hs=>
  simp only[QT,hk]at C
  obtain⟨I,C⟩:(ne=false->st.nest=false)/\some ((xs.drop off).take len)=some ys:=by
   grind
  obtain rfl:=zDm C;obtain⟨g1,g2,g3,R,g5,f,S,U,V⟩:=H.ent k _ hk
  have ag:n<=ln xs:=by
   cases hbk:β k with
   |nil=>rw[hbk]at hb;simp at hb
   |cons q rr=>
    grind
  have hl:((xs.drop off).take len).length=len:=by simp;omega
  have E:∀(i:Nat) y,((xs.drop off).take len)[i]? =some y->xs[off+i]? =some y:=λi y B=>by
   rw[zB3]at B;split at B
   .rwa [zCt]at B
   .cases B
  refine⟨_,cap,by rw[hl],by rw[hl];exact hc,by omega,λG=>?_⟩
  have O:A=sz:=by
   obtain⟨y,B⟩:∃y,((xs.drop off).take len)[0]? =some y:=by
    cases W:(xs.drop off).take len with|nil=>exact absurd W G|cons y _=>exact⟨y,rfl⟩
   rw[<-L y B,R _ y (E 0 y B)]
  subst O;obtain⟨c,el,e1,e2,e3,_⟩:=V b n hb;refine⟨b,off*A,λi j=>f (off+i) j,rfl,λi y B=>R _ y (E i y B),λi j hi hj=>?_,λi j hi hj=>U _ _ Tg hj,λi y j v B hv=>⟨S.toV _ y j v (E i y B) hv,λM=>S.toF (I M) _ y j v (E i y B) hv⟩⟩;rw[hl]at hi;rw[kF e1,show off*A+i*A+j=(off+i)*A+j by rw[zBq]];exact e3 _ _ (by omega) hj
 | ref0 k off A xs st a hk M=>
  simp only[QT,hk,zDi]at C
  obtain rfl: []=ys:=by
   cases ac:st.nest<;>cases ne<;>simp_all
  exact⟨a,0,rfl,by simp,by simp,λh=>absurd Z h⟩
 |dref _ _ _ _ hk _=>simp[QT,hk]at C
 |_=>simp[QT]at C
def flat (f:Nat->Nat->Value) (n sz:Nat):List Value:=(ny (n*sz)).map λq=>f (q/sz) (q % sz)
def yL (f:Nat->Nat->Value) (n sz:Nat):(flat f n sz).length=n*sz:=by simp[flat]
def DG (f:Nat->Nat->Value) {q:Nat} (h:q<n*sz):(flat f n sz)[q]? =some (f (q/sz) (q % sz)):=by simp[flat,h]
def gZ (f:Nat->Nat->Value) (hi:i<n) (hj:j<sz):(flat f n sz)[i*sz+j]? =some (f i j):=by
 have h1:i*sz+j<n*sz:=by
  have:=zA1 sz (show i+1<=n by omega)
  grind
 rw[DG f h1];have h2:(i*sz+j)/sz=i:=Nat.div_eq_of_lt_le (by omega) (by rw[zBq,zCu];omega)
 grind [flat,Nat.mul_comm,Nat.mul_add_mod,Nat.mod_eq_of_lt]
theorem A1.flat {ys:List AV} (C:A1 w D h β ne ys sz b o f) (G:1<=sz):
  (∀j u,(Av.flat f (ln ys) sz)[j]? =some u->w.cell? ((⟨b,o,none⟩:Addr).add j)=some u)/\∀u∈Av.flat f (ln ys) sz,u.oneCell'=true:=by
 have B:∀j,j<ln ys*sz->j/sz<ln ys/\j % sz<sz/\j/sz*sz+j % sz=j:=λj hj=>
  ⟨(Nat.div_lt_iff_lt_mul (by omega)).2 hj,zFy _ (by omega),by rw[zEh];exact Nat.div_add_mod j sz⟩
 refine⟨λj u A=>?_,λu A=>?_⟩
 .have hj:j<ln ys*sz:=by rw[<-yL f (ln ys) sz];exact(zAz.1 A).1
  rw[DG f hj]at A;cases A;obtain⟨h1,h2,E⟩:=B j hj;have:=C.cell _ _ h1 h2;rw[WI]
  grind
 .obtain⟨j,A⟩:=zDz A;have hj:j<ln ys*sz:=by rw[<-yL f (ln ys) sz];exact(zAz.1 A).1
  rw[DG f hj]at A;cases A;obtain⟨h1,h2,_⟩:=B j hj;exact C.one _ _ h1 h2
section runs
variable {P:Program} {TT:List TI} (hP:qS P TT) {T e:Nat} {ti te:TI} (hT:TT[T]? =some ti) (hd:ti.d= .slice e) (he:TT[e]? =some te) (w:World)
include hP hT hd he
def vK:∃(i:TypeInfo) (z:Value),P.underlying T=some (.slice e)/\P.info? e=some i/\i.zero=some z/\i.size=te.size/\i.bytes=te.bytes/\z.cells.toList=te.zero:=by
 obtain⟨_,u,_,_,C,_,A,_⟩:=uU (hP _ _ hT);obtain rfl:=uP (A.symm.trans hd);obtain⟨i,_,z,hi,_,E,_,hs,hb,B⟩:=uU (hP _ _ he)
 grind
def cK (ty:Nat) (b B:Option Addr) (n cap A:Nat) (hc:n<=cap):(Builtin.append_ #[T,T] ty #[.slice b n cap,.slice B 0 A]).run P w= .ok (.slice b n cap) w:=by
 obtain⟨i,z,C,hi,E,_⟩:=vK hP hT hd he
 have h1:(Builtin.firstCells i.size 0 (.slice B 0 A)).run P w= .ok #[] w:=by
  cases B with
  |none=>rfl
  |some a=>simp only[Builtin.firstCells,loadCells,zEi,loadCellsFrom];rfl
 cases b with
 |none=>simp[Builtin.append_,run_underlying C,sizeOf,typeInfo,hi,Builtin.lenOf,hc,h1]
 |some a=>simp[Builtin.append_,run_underlying C,sizeOf,typeInfo,hi,Builtin.lenOf,hc,h1,storeCells]
def UY (ty:Nat) (g o n cap:Nat) (A:Array Value) (el:Nat) (L:w.heap[g]? =some (.cells A el (0,0))) (a:Addr) (m c:Nat) (news:List Value) (hl:ln news=m*te.size)
  (C:∀j u,news[j]? =some u->w.cell? (a.add j)=some u) (h1:∀u∈news,u.oneCell'=true) (E:n+m<=cap) (B:o+n*te.size+ln news<=A.size):
  (Builtin.append_ #[T,T] ty #[.slice (some ⟨g,o,none⟩) n cap,.slice (some a) m c]).run P w=
   .ok (.slice (some ⟨g,o,none⟩) (n+m) cap) (w.setRow g (A.toList.take (o+n*te.size)++news++A.toList.drop (o+n*te.size+ln news)).toArray):=by
 obtain⟨i,z,M,hi,O,hs,_⟩:=vK hP hT hd he;rw[<-hs]at hl B⊢;have I:=run_firstCells_some (P:=P) w i.size m a m c news hl C;have G:=run_storeCells_at P g (o+n*i.size) el news 0 A w L (by simpa using B) h1;simp only[zC8]at G;simp[Builtin.append_,run_underlying M,sizeOf,typeInfo,hi,Builtin.lenOf,E,I,WI,G]
end runs
section ops
variable {P:Program} {TT:List TI} {st:St}
def cY {x:AV} (H:∀k,k∈JK x->h k=h' k):QT ne h x=QT ne h' x:=by
 cases x with
 |ref k off len=>simp only[QT];rw[H k (by simp[JK])]
 |_=>rfl
theorem WJ (hP:qS P TT) {xv:AV} {ys:List AV} (kn:Nat) (hs:yY (zM st.tm) s= .s (.slice none 0 0)) (hx:yY (zM st.tm) x=xv) (hT:TT[T]? =some ti) (hd:ti.d= .slice e) (L:TT[e]? =some te)
 (av:je (zE st.h) xv=some ys) (au:∀y,ys[0]? =some y->ln y.cells=te.size) (R:Nat.ble 1 te.size=true) (hb:Nat.ble te.bytes 65536=true) (hz:Nat.beq (ln te.zero) te.size=true) (ax:te.zero.all (·.oneCell')=true) (hn:ln ys<=1073741824):
  vC P st (.call ⟨.builtin .append, #[s,x], #[T,T]⟩) (.ref kn 0 (ln ys)) [(kn,.arr te.size ys false)] (JK xv) [kn]:=by
 refine⟨?_⟩;intro X tm h hg hr ar o a w β ho I Ht;obtain⟨d0,o0,y0,p0,f0,g0⟩:=o;dsimp only at ho;subst ho;have M:=ar kn zW;have h1:=vY Ht hg (x:=s) gH hs;have h2:=cC Ht hg (x:=x) gH hx;have R:=zAt R;have hb:=zAt hb;obtain⟨ad,cap,hc,_,C,V⟩:=VX I h2 ((cY hr).trans av) au;obtain⟨i,z,hu,hi,a1,e1,e2,e3⟩:=vK hP hT hd L;have hz:=zA9 hz
 have O:∀{v w'},(Builtin.append_ #[T,T] y0 #[.slice none 0 0,a.eval x]).run P w= .ok v w'->(execOp a.eval ⟨d0,.call ⟨.builtin .append, #[s,x], #[T,T]⟩,y0,p0,f0,g0⟩).run P w= .ok (.value v) w':=λhv=>by
  simp[execOp,resolve,invoke,builtin,h1,hv]
 by_cases A:ys=[]
 .subst A;rw[O (by rw[hc];exact cK hP hT hd L w y0 none ad 0 0 cap (zAg _))]
  refine⟨ZJ β kn [],wG.step I kn _ _ (zAg _) (λ_ _ _=>rfl) Z Z Z (λb n hm=>by simp at hm) (λ_ _ _=>rfl) (λe L=>by rw[M]at L;cases L) (λE=>⟨R,by simp,λh=>absurd Z h,λi y W=>by simp at W,
   λb n r hr=>by rw[yO]at hr;simp at hr,λ_ _=>undef,λi y j v W _=>by simp at W,λi j hi _=>by simp at hi,λb n hm=>by rw[yO]at hm;simp at hm⟩),.ref0 kn 0 _ _ _ _ (kQ _ _ _) zW⟩
 .obtain⟨b,q,f,rfl,Y⟩:=V A
  have S:0<ln ys:=by cases ys with|nil=>exact absurd Z A|cons _ _=>simp
  obtain⟨ac,ag⟩:=Y.flat R
  have B:ln ys*i.bytes<=281474976710656:=by
   have:=zDa hn (show i.bytes<=65536 by omega);omega
  have U:=run_append_nil (P:=P) w T y0 e i z hu hi a1 ⟨b,q,none⟩ (ln ys) cap (flat f (ln ys) te.size) (by rw[yL,e1]) ac S (by unfold aP at C;omega) B;rw[O (by rw[hc];exact U)];have HD:=I.drew (w.drawn+1);have az:z.cells.size=ln te.zero:=by rw[<-e3];simp
  have ap:=grownCap_ge w (ln ys) 0 e
  obtain⟨β',G,hv⟩:=wG.newArr HD M ((flat f (ln ys) te.size).toArray++Builtin.zeroCells z.cells (grownCap w (ln ys) 0 e-ys.length)) e te.size ys (grownCap w (ln ys) 0 e) f R C ap (by
    simp only[zEs,zDl,yL,size_zeroCells,az,hz,<-zBq]
    congr 1;omega) (kT.get ((kT.arr ag).app (kT.zero (λv hv=>zAq.1 ax v JJ) _))) Y.wide
   (λi j hi hj=>by
    rw[zCg (by simp[yL];have:=zA1 te.size (show i+1<=ln ys by omega);rw[zBq,zCu]at this;omega)]
    simpa using gZ f hi hj) Y.one (λi y j v W hv=>xS.evo (w:=w) (w':={w with drawn:=w.drawn+1}) (zAg _) (λ_ _ hd=>⟨rfl,hd⟩) (Y.rep.toF Z i y j v W hv))
  exact⟨β',wG.trans I (wG.drew I (w.drawn+1)) G,hv⟩
def NN (hP:qS P TT) {xv:AV} {ys:List AV} (hs:yY (zM st.tm) s= .s (.slice none 0 0)) (hx:yY (zM st.tm) x=xv) (hT:TT[T]? =some ti) (hd:ti.d= .slice e) (he:TT[e]? =some te)
 (ac:je (zE st.h) xv=some ys) (Y:∀y,ys[0]? =some y->ln y.cells=te.size) (S:Nat.ble 1 te.size=true) (hb:Nat.ble te.bytes 65536=true) (hz:Nat.beq (ln te.zero) te.size=true) (hn:ln ys<=1073741824):
  vC P st (.call ⟨.builtin .append, #[s,x], #[T,T]⟩) (.sl false ys) [] (JK xv) []:=by
 refine⟨?_⟩;intro X tm h hg hr _ o a w β ho E Ht;obtain⟨d0,o0,U,p0,f0,g0⟩:=o;dsimp only at ho;subst ho;have h1:=vY Ht hg (x:=s) gH hs;have h2:=cC Ht hg (x:=x) gH hx;have S:=zAt S;have hb:=zAt hb;obtain⟨ad,cap,hc,_,C,O⟩:=VX E h2 ((cY hr).trans ac) Y;obtain⟨i,z,hu,hi,ag,e1,e2,e3⟩:=vK hP hT hd he;have hz:=zA9 hz
 have I:∀{v w'},(Builtin.append_ #[T,T] U #[.slice none 0 0,a.eval x]).run P w= .ok v w'->(execOp a.eval ⟨d0,.call ⟨.builtin .append, #[s,x], #[T,T]⟩,U,p0,f0,g0⟩).run P w= .ok (.value v) w':=λhv=>by
  simp[execOp,resolve,invoke,builtin,h1,hv]
 by_cases A:ys=[]
 .subst A;rw[I (by rw[hc];exact cK hP hT hd he w U none ad 0 0 cap (zAg _))];rw[ZI];exact⟨β,wG.refl E,.fz _ _ (.nil _ _)⟩
 .obtain⟨b,q,f,rfl,R⟩:=O A
  have L:0<ln ys:=by cases ys with|nil=>exact absurd Z A|cons _ _=>simp
  obtain⟨V,ap⟩:=R.flat S
  have B:ln ys*i.bytes<=281474976710656:=by
   have:=zDa hn (show i.bytes<=65536 by omega);omega
  have M:=run_append_nil (P:=P) w T U e i z hu hi ag ⟨b,q,none⟩ (ln ys) cap (flat f (ln ys) te.size) (by rw[yL,e1]) V L (by unfold aP at C;omega) B;rw[I (by rw[hc];exact M)];have HD:=E.drew (w.drawn+1);have ar:z.cells.size=ln te.zero:=by rw[<-e3];simp
  have W:=grownCap_ge w (ln ys) 0 e;have G:=wG.newFz HD ((flat f (ln ys) te.size).toArray++Builtin.zeroCells z.cells (grownCap w (ln ys) 0 e-ys.length)) e
  have hv:=xS.newArr HD ((flat f (ln ys) te.size).toArray++Builtin.zeroCells z.cells (grownCap w (ln ys) 0 e-ys.length)) e te.size ys (grownCap w (ln ys) 0 e) f S C W R.wide
   (λi j hi hj=>by
    rw[zCg (by simp[yL];have:=zA1 te.size (show i+1<=ln ys by omega);rw[zBq,zCu]at this;omega)]
    simpa using gZ f hi hj) R.one (λi y j v hy hv=>xS.evo (w:=w) (w':={w with drawn:=w.drawn+1}) (zAg _) (λ_ _ hd=>⟨rfl,hd⟩) (R.rep.toF Z i y j v hy hv))
  rw[ZI];refine⟨β,wG.trans E (wG.drew E (w.drawn+1)) G,.fz _ _ hv.wkF⟩
theorem wV (st' ne:Bool) (hP:qS P TT) {k:Nat} {xs:List AV} {xv:AV} {ys:List AV} (hs:yY (zM st.tm) s= .ref k 0 (ln xs)) (hk:zE st.h k=some (.arr sz xs sl)) (hx:yY (zM st.tm) x=xv) (hT:TT[T]? =some ti) (hd:ti.d= .slice e) (he:TT[e]? =some te)
 (br:ne=false->sl.nest=false) (ck:QT ne (zE st.h) xv=some ys) (cj:∀y,ys[0]? =some y->ln y.cells=sz) (O:Nat.beq sz te.size=true) (hb:Nat.ble te.bytes 65536=true) (hz:Nat.beq (ln te.zero) te.size=true) (cl:te.zero.all (·.oneCell')=true) (hn:ln xs+ln ys<=1073741824) (bu:st'=false->xs=[]):
    vC P st (.call ⟨.builtin .append, #[s,x], #[T,T]⟩) (.ref k 0 (xs++ys).length) [(k,.arr sz (xs++ys) ⟨st',ne⟩)] (k::JK xv) []:=by
  refine⟨?_⟩;intro X tm h hg hr _ o a w β ho HH Ht;obtain⟨d0,o0,y0,p0,f0,g0⟩:=o;dsimp only at ho;subst ho;have hk':=(hr k zW).trans hk;have h1:=cC Ht hg (x:=s) gH hs;have h2:=cC Ht hg (x:=x) gH hx;have O:=zA9 O;have hb:=zAt hb;have hz:=zA9 hz;obtain⟨g1,g2,g3,g4,g5,fs,g6,g7,g8⟩:=HH.ent k _ hk';obtain⟨ad,cap,hc,_,cn,b7⟩:=VX HH h2 ((cY λk' hk=>hr k' (by simp[hk])).trans ck) cj;obtain⟨i,z,hu,hi,bx,e1,e2,e3⟩:=vK hP hT hd he;have C:(xs++ys).length=ln xs+ln ys:=by simp
  have a4:∃bd S,a.eval s= .slice bd (ln xs) S/\xs.length<=S/\((∃b,bd=some ⟨b,0,none⟩/\(b,ln xs)∈β k/\S*sz=wW w b)\/(xs=[]/\S=0)):=by
    generalize a.eval s=cs at h1;generalize hL:ln xs=L at h1
    cases h1 with
    |fz _ _ hf=>cases hf
    |dref _ _ _ _ hd _=>rw[hk']at hd;cases hd
    |ref0 _ _ _ _ _ bd _ _=>exact⟨bd,0,rfl,zAg _,.inr ⟨zBa hL,rfl⟩⟩
    | ref _ _ _ cu cv st' b n S b5 hb hn hc ci=>
      have h3:=b5;rw[hk']at h3;cases h3;subst hL
      have cf:n=ln xs:=by
        cases hbk:β k with
        |nil=>rw[hbk]at hb;simp at hb
        | cons q R=>
          obtain⟨M,n0⟩:=q;obtain⟨e1,_,e3⟩:=g5 M n0 R hbk;rw[hbk]at hb;simp at hb
          rcases hb with⟨_,rfl⟩|hb
          · exact e1
          · have:=e3 b n hb;omega
      subst cf;exact⟨_,S,by rw[zEi],hc,.inl ⟨b,rfl,hb,by rwa [zBx]at ci⟩⟩
  obtain⟨bd,S,a3,ce,a4⟩:=a4
  have bl:∀{v w'},(Builtin.append_ #[T,T] y0 #[a.eval s,a.eval x]).run P w= .ok v w'->(execOp a.eval ⟨d0,.call ⟨.builtin .append, #[s,x], #[T,T]⟩,y0,p0,f0,g0⟩).run P w= .ok (.value v) w':=λhv=>by
    simp[execOp,resolve,invoke,builtin,hv]
  rw[C];by_cases ax:ys=[]
  ·
    subst ax;rw[bl (by rw[a3,hc];exact cK hP hT hd he w y0 bd ad (ln xs) S cap ce)]
    have G:=wG.step (w':=w) HH k (.arr sz (xs++[]) ⟨st',ne⟩) (β k) (zAg _) (λ_ _ _=>rfl) Z Z Z (λb n A=> .inl ⟨n,A⟩) (λ_ _ _=>rfl) (λe he=>by rw[hk']at he;cases he;exact .inr ⟨⟨_,_,rfl,by simp⟩,λ_ n A=>⟨n,zAg _,A⟩⟩)
      (λE=>⟨g1,by simpa using g2,λh=>by rw[yO];exact g3 WC,λi y hy=>g4 i y (by simpa using hy),λb n r hr=>by
        rw[yO]at hr;obtain⟨q1,_,q3⟩:=g5 b n r hr
        exact⟨by simpa using q1,λh b' n' A=>by have:=q3 b' n' A;rw[bu h]at this;simp at this,by simpa using q3⟩,fs,λi y j v hy hv=>⟨(g6.toV i y j v (by simpa using hy) hv).evo E,λhn=>(g6.toF (br hn) i y j v (by simpa using hy) hv).evo E.size E.fz⟩,λi j hi hj=>g7 i j Pa hj,λb n A=>by rw[yO]at A;exact g8 b n A⟩)
    exact⟨_,G,(a3▸h1:yK w (xX X β) h β (.ref k 0 (ln xs)) (.slice bd (ln xs) S)).evo G.evo⟩
  · obtain ⟨b2, q,f,rfl,hS⟩:=b7 ax
    have b6:0<ln ys:=by cases ys with|nil=>exact absurd Z ax|cons _ _=>simp
    obtain⟨a5,ba⟩:=hS.flat g1
    have hbk:β k=[]\/∃M R,β k=(M,ln xs)::R:=by
      cases hbk:β k with
      |nil=>exact .inl Z
      |cons q R=>obtain⟨M,n0⟩:=q;obtain⟨q1,_⟩:=g5 M n0 R hbk;exact .inr ⟨M,R,by rw[q1]⟩
    let f':Nat->Nat->Value:=λi j=>if i<ln xs then fs i j else f (i-xs.length) j
    have b1:∀(i:Nat) y,(xs++ys)[i]? =some y->(i<ln xs/\xs[i]? =some y)\/(¬i<ln xs/\ys[i-xs.length]? =some y):=λi y hy=>by
      by_cases hi:i<ln xs
      · rw[zBg hi]at hy;exact .inl ⟨hi,hy⟩
      · rw[zBc (by omega)]at hy;exact .inr ⟨hi,hy⟩
    have a2:∀(i:Nat) (y:AV),(xs++ys)[i]? =some y->ln y.cells=sz:=λi y hy=>by
      rcases b1 i y hy with⟨_,h⟩|⟨_,h⟩
      · exact g4 i y h
      · exact hS.wide _ y h
    have a6:∀i j,i<(xs++ys).length->j<sz->(f' i j).oneCell'=true:=λi j hi hj=>by
      simp only[f'];split
      · exact g7 i j ‹_› hj
      · exact hS.one _ _ (by rw[C]at hi;omega) hj
    have a7:∀{w':World} {D':Nat->Prop} {h':yS} {β':qG},CR w (xX X β) h β w' D' h' β'->fI w' D' h' β' ne (xs++ys) f':=λE i y j v hy hv=>by
      simp only[f']
      rcases b1 i y hy with⟨hi,h⟩|⟨hi,h⟩
      · rw[Os hi];exact⟨(g6.toV i y j v h hv).evo E,λhn=>(g6.toF (br hn) i y j v h hv).evo E.size E.fz⟩
      · rw[Of hi];exact⟨(hS.rep.toV _ y j v h hv).evo E,λhn=>(hS.rep.toF hn _ y j v h hv).evo E.size E.fz⟩
    by_cases ar:ln xs+ln ys<=S
    ·
      rcases a4 with⟨b,rfl,A,cc⟩|⟨b9,co⟩
      case inr=>omega
      obtain⟨V,el,c1,c2,c3,c4⟩:=g8 b _ A
      have cd:S*sz<=V.size:=by
        have:wW w b=V.size:=by unfold wW World.shape?;rw[c1];rfl
        omega
      have au:(ln xs+ln ys)*sz<=V.size:=zBi (zA1 _ ar) cd
      have a1:=UY hP hT hd he w y0 b 0 (ln xs) S V el c1 ⟨b2,q,none⟩ (ln ys) cap (flat f (ln ys) sz) (by rw[yL,O]) a5 ba ar (by
        rw[yL,<-O,zBx,<-zBq];exact au)
      rw[bl (by rw[a3,hc];exact a1)];generalize I:(V.toList.take (0+ln xs*te.size)++flat f (ln ys) sz++V.toList.drop (0+ln xs*te.size+(flat f (ln ys) sz).length)).toArray=B
      have U:B.size=V.size:=by
        rw[<-I];simp only[zDl,zAh,zAw,zA8,zDn,yL,zBx,<-O];rw[zBq]at au;omega
      have ap:∀q,q<B.size->(B.getD q undef).oneCell'=true:=by
        rw[<-I];refine kT.get (kT.arr λv hv=>?_);have b3:=kT.of c4
        rcases zA5.1 hv with hv|hv
        · rcases zA5.1 hv with hv|hv
          · exact b3 v (zB5 hv)
          · exact ba v hv
        · exact b3 v (zBj hv)
      have ac:∀i j,i<ln xs+ln ys->j<sz->B[i*sz+j]? =some (f' i j):=λi j hi hj=>by
        rw[<-I];simp only[f',zDd,zBx,<-O];rw[zBq]at au;by_cases ag:i<ln xs
        · have av:i*sz+j<ln xs*sz:=by
            have:=zA1 sz (show i+1<=ln xs by omega);rw[zBq,zCu]at this;omega
          rw[Os ag,zBg uH,zBg uH,zB3,Os av];simpa using c3 i j ag hj
        · have b4:ln xs*sz<=i*sz:=zA1 _ (by omega);have e4:i*sz+j-xs.length*sz=(i-xs.length)*sz+j:=by rw[zFb];omega
          have av:(i-xs.length)*sz+j<ln ys*sz:=by
            have:=zA1 sz (show(i-xs.length)+1<=ln ys by omega);rw[zBq,zCu]at this;omega
          rw[Of ag,zBg (by simp[yL];omega),zBc uH];have e5:(List.take (ln xs*sz) V.toList).length=ln xs*sz:=by simp;omega
          rw[e5,e4];exact gZ f (by omega) hj
      obtain⟨M,R,hbk⟩:=hbk.resolve_left (λY=>by rw[Y]at A;simp at A)
      have cb:M=b:=by
        rw[hbk]at A;simp at A
        rcases A with rfl|A
        · rfl
        · have:=(g5 M _ R hbk).2.2 b _ A;omega
      subst cb
      have G := wG.step (w' := w.setRow M B) HH k (.arr sz (xs++ys) ⟨st',ne⟩) ((M,ln xs+ln ys)::R) zW (λj hj hn=>setRow_other w M j B (λe=>hn (ln xs) Qg)) Z Z Z
        (λb n A=>by
          simp at A
          rcases A with⟨rfl,_⟩|A
          · exact .inl ⟨ln xs,by rw[hbk];simp⟩
          · exact .inl ⟨n,by rw[hbk];simp[A]⟩) (λb n _=>gK c1 U b)
        (λe he=>by
          rw[hk']at he;cases he;refine .inr ⟨⟨_,_,rfl,by rw[C];omega⟩,λb n A=>?_⟩;rw[hbk]at A;simp at A
          rcases A with⟨rfl,rfl⟩|A
          · exact⟨ln xs+ln ys,by omega,by simp⟩
          · exact⟨n,zAg _,by simp[A]⟩)
        (λE=>⟨g1,by rw[C];unfold aP;omega,λ_=>by rw[yO];simp,a2,λb n r hr=>by
          rw[yO]at hr;simp at hr;obtain⟨⟨rfl,rfl⟩,rfl⟩:=hr
          exact⟨C.symm,λh b' n' A=>by have:=(g5 M _ R hbk).2.2 b' n' A;rw[bu h]at this;simp at this,λb' n' A=>by have:=(g5 M _ R hbk).2.2 b' n' A;rw[C];omega⟩,f',a7 E,a6,λb n A=>by
          rw[yO]at A;simp at A;by_cases a9:b=M
          · subst a9
            have bf:n<=ln xs+ln ys:=by
              rcases A with⟨_,rfl⟩|A
              · omega
              · have:=(g5 b _ R hbk).2.2 b n A;omega
            exact⟨B,el,setRow_heap w _ _ _ _ _ c1,by rw[U];exact zBi (zA1 _ bf) au,λi j hi hj=>ac i j (by omega) hj,ap⟩
          · have A : (b, n) ∈ R := by   rcases A with⟨h,_⟩|A;· exact absurd h a9
                                        · exact A
            obtain⟨c',a8,d1,d2,d3,d4⟩:=g8 b n (by rw[hbk];simp[A]);have bf:=(g5 M _ R hbk).2.2 b n A
            exact⟨c',a8,(setRow_other w M b B a9).trans d1,d2,λi j hi hj=>by simp only[f'];rw[Os (by omega)];exact d3 i j hi hj,d4⟩⟩)
      refine⟨_,G,?_⟩
      have:=yK.ref (w:=w.setRow M B) (D:=xX X (ZJ β k ((M,ln xs+ln ys)::R))) (h:=over [(k,.arr sz (xs++ys) ⟨st',ne⟩)] h) (β:=ZJ β k ((M,ln xs+ln ys)::R)) k 0 (ln xs+ln ys) sz (xs++ys) ⟨st',ne⟩ M (ln xs+ln ys) S (kQ _ _ _)
        (by rw[yO];simp) (by omega) ar (by rw[gK c1 U,zBx];exact cc)
      rwa [zEi]at this
    ·
      have W:(ln xs+ln ys)*i.bytes<=140737488355328:=by
        have:=zDa hn (show i.bytes<=65536 by omega);omega
      have b4:=grownCap_ge w (ln xs+ln ys) S e;have cm:z.cells.size=ln te.zero:=by rw[<-e3];simp
      have bb:∃olds:List Value,(∀u∈olds,u.oneCell'=true)/\olds.length=ln xs*sz/\(∀i j,i<ln xs->j<sz->olds[i*sz+j]? =some (fs i j))/\
          (Builtin.append_ #[T,T] y0 #[.slice bd (ln xs) S,.slice (some ⟨b2,q,none⟩) (ln ys) cap]).run P w= .ok (.slice (some ⟨w.heap.size,0,none⟩) (ln xs+ln ys) (grownCap w (ln xs+ln ys) S e))
            (w.drew.alloc (.cells (olds.toArray++(flat f (ln ys) sz).toArray++Builtin.zeroCells z.cells (grownCap w (ln xs+ln ys) S e-(ln xs+ln ys))) e)):=by
        rcases a4 with⟨b,rfl,A,_⟩|⟨rfl,rfl⟩
        · obtain⟨V,el,c1,c2,c3,_⟩:=g8 b _ A;have ca:A1 w (xX X β) h β ne xs sz b 0 fs:=⟨g4,λi j hi hj=>by rw[kF c1,zBx];exact c3 i j hi hj,g7,λi x j v hx hv=>⟨g6.toV i x j v hx hv,λhn=>g6.toF (br hn) i x j v hx hv⟩⟩;obtain⟨q1,q2⟩:=ca.flat g1;exact⟨flat fs (ln xs) sz,q2,yL _ _ _,λi j hi hj=>gZ fs hi hj,run_append_grow (P:=P) w T y0 e i z hu hi bx ⟨b,0,none⟩ (ln xs) S (flat fs (ln xs) sz) (by rw[yL,O,e1]) q1 ⟨b2,q,none⟩ (ln ys) cap (flat f (ln ys) sz) (by rw[yL,O,e1]) a5 (by omega) (by omega) (growslice_fits (by omega) W)⟩
        · refine⟨[],(λu hu=>by simp at hu),by simp,λi j hi _=>by simp at hi,?_⟩
          cases bd with
          | none=>
            have:=run_append_nil (P:=P) w T y0 e i z hu hi bx ⟨b2,q,none⟩ (ln ys) cap (flat f (ln ys) sz) (by rw[yL,O,e1]) a5 b6 (by omega) (by simp only[zBh,zBx]at W;omega);simpa using this
          | some ad=>
            have:=run_append_grow (P:=P) w T y0 e i z hu hi bx ad 0 0 [] zW zW ⟨b2,q,none⟩ (ln ys) cap (flat f (ln ys) sz) (by rw[yL,O,e1]) a5 (by omega) (by omega) (growslice_fits (by omega) (by simpa using W));simpa using this
      obtain⟨olds,cg,az,ch,a1⟩:=bb;rw[bl (by rw[a3,hc];exact a1)];generalize cq:grownCap w (ln xs+ln ys) S e=gc at *;generalize I:olds.toArray++(flat f (ln ys) sz).toArray++Builtin.zeroCells z.cells (gc-(ln xs+ln ys))=B
      have ap:∀q,q<B.size->(B.getD q undef).oneCell'=true:=by
        rw[<-I];exact kT.get (((kT.arr cg).app (kT.arr ba)).app (kT.zero (λv hv=>zAq.1 cl v JJ) _))
      have U:B.size=gc*sz:=by
        rw[<-I];simp only[zEs,zDl,yL,size_zeroCells,cm,hz,<-O,az,<-zBq]
        congr 1
        omega
      have ac:∀i j,i<ln xs+ln ys->j<sz->B[i*sz+j]? =some (f' i j):=λi j hi hj=>by
        have av:i*sz+j<(ln xs+ln ys)*sz:=by
          have:=zA1 sz (show i+1<=ln xs+ln ys by omega);rw[zBq,zCu]at this;omega
        rw[zBq]at av;rw[<-I,zCg (by simp[yL,az];omega)];simp only[f'];by_cases ag:i<ln xs
        · have av:i*sz+j<ln xs*sz:=by
            have:=zA1 sz (show i+1<=ln xs by omega);rw[zBq,zCu]at this;omega
          rw[Os ag,zCg (by simp[az];omega)];simpa using ch i j ag hj
        · have b4:ln xs*sz<=i*sz:=zA1 _ (by omega);have e4:i*sz+j-xs.length*sz=(i-xs.length)*sz+j:=by rw[zFb];omega
          rw[Of ag,zEj (by simp[az];omega)];simp only[zDl,az,e4,zDd];exact gZ f (by omega) hj
      have HD:=HH.drew (w.drawn+1);have dr:∀{w':World} {D':Nat->Prop} {h':yS} {β':qG},CR w.drew (xX X β) h β w' D' h' β'->CR w (xX X β) h β w' D' h' β':=λE=>⟨E.size,E.fz,E.bs,E.key⟩
      have cr:=grownCap_ge w (ln xs+ln ys) S e;have bk:=a6
      have G := wG.step (w:=w.drew) (w':=w.drew.alloc (.cells B e)) HD k (.arr sz (xs++ys) ⟨st',ne⟩) ((w.heap.size,ln xs+ln ys)::β k) zW (λj hj _=>heap_alloc_old w.drew _ j hj) Z Z Z
        (λb n A=>by
          simp at A
          rcases A with⟨rfl,_⟩|A
          · exact .inr zW
          · exact .inl ⟨n,A⟩) (λb n A=>by
          unfold wW World.shape?
          rw[heap_alloc_old w.drew _ b (HH.lt b (.inr ⟨k,n,A⟩))])
        (λe he=>by
          rw[hk']at he;cases he
          exact .inr ⟨⟨_,_,rfl,by rw[C];omega⟩,λb n A=>⟨n,zAg _,by simp[A]⟩⟩)
        (λE=>⟨g1,by rw[C];unfold aP;omega,λ_=>by rw[yO];simp,a2,λb n r hr=>by
          rw[yO]at hr;simp at hr;obtain⟨⟨rfl,rfl⟩,rfl⟩:=hr;refine⟨C.symm,λh b' n' A=>?_,λb' n' A=>?_⟩
          · have b9:ln xs=0:=by rw[bu h];rfl
            rcases hbk with Y|⟨M,R,Y⟩
            · rw[Y]at A;simp at A
            · rw[Y]at A;simp at A
              rcases A with⟨_,rfl⟩|A
              · exact b9
              · have:=(g5 M _ R Y).2.2 b' n' A;omega
          rw[C]
          rcases hbk with Y|⟨M,R,Y⟩
          · rw[Y]at A;simp at A
          · rw[Y]at A;simp at A
            rcases A with⟨_,rfl⟩|A
            · omega
            · have:=(g5 M _ R Y).2.2 b' n' A;omega,f',a7 (w':=w.drew.alloc (.cells B e)) (dr E),bk,λb n A=>by
          rw[yO]at A;simp at A
          rcases A with⟨rfl,rfl⟩|A
          · exact⟨B,e,heap_alloc_new w.drew _,by rw[U];exact zA1 _ (by omega),λi j hi hj=>ac i j hi hj,ap⟩
          · obtain⟨c',a8,d1,d2,d3,d4⟩:=g8 b n A
            have bf:n<=ln xs:=by
              rcases hbk with Y|⟨M,R,Y⟩
              · rw[Y]at A;simp at A
              · rw[Y]at A;simp at A
                rcases A with⟨_,rfl⟩|A
                · omega
                · exact zE2 ((g5 M _ R Y).2.2 b n A)
            exact⟨c',a8,(heap_alloc_old w.drew _ b (HH.lt b (.inr ⟨k,n,A⟩))).trans d1,d2,λi j hi hj=>by simp only[f'];rw[Os (by omega)];exact d3 i j hi hj,d4⟩⟩)
      refine⟨_,wG.trans HH (wG.drew HH (w.drawn+1)) G,?_⟩
      have:=yK.ref (w:=w.drew.alloc (.cells B e)) (D:=xX X (ZJ β k ((w.heap.size,ln xs+ln ys)::β k))) (h:=over [(k,.arr sz (xs++ys) ⟨st',ne⟩)] h) (β:=ZJ β k ((w.heap.size,ln xs+ln ys)::β k)) k 0 (ln xs+ln ys) sz (xs++ys) ⟨st',ne⟩ w.heap.size (ln xs+ln ys) gc (kQ _ _ _)
        (by rw[yO];simp) (by omega) (by omega) (by
          have:wW (w.drew.alloc (.cells B e)) w.heap.size=B.size:=by
            unfold wW World.shape?;rw[show(w.drew.alloc (.cells B e)).heap[w.heap.size]? =_ from heap_alloc_new w.drew _];rfl
          rw[this,U,zBx])
      rwa [zEi]at this
def JL (I:qS P TT) {k:Nat} {xs:List AV} {R:Bool} {G:AV} {ys:List AV} (hs:yY (zM st.tm) s= .ref k 0 (ln xs)) (hk:zE st.h k=some (.arr sz xs ⟨R,false⟩)) (hx:yY (zM st.tm) x=G) (hT:TT[T]? =some ti) (hd:ti.d= .slice e) (L:TT[e]? =some te)
 (C:je (zE st.h) G=some ys) (B:∀y,ys[0]? =some y->ln y.cells=sz) (A:Nat.beq sz te.size=true) (hb:Nat.ble te.bytes 65536=true) (O:Nat.beq (ln te.zero) te.size=true) (E:te.zero.all (·.oneCell')=true) (M:ln xs+ln ys<=1073741824):
  vC P st (.call ⟨.builtin .append, #[s,x], #[T,T]⟩) (.ref k 0 (xs++ys).length) [(k,.arr sz (xs++ys) true)] (k::JK G) []:=
 wV true false I hs hk hx hT hd L (λ_=>rfl) C B A hb O E M (λh=>by cases h)
def NP (I:qS P TT) {k:Nat} {xs:List AV} {G:AV} {ys:List AV} (hs:yY (zM st.tm) s= .ref k 0 (ln xs)) (hk:zE st.h k=some (.arr sz xs sl)) (hx:yY (zM st.tm) x=G) (hT:TT[T]? =some ti) (hd:ti.d= .slice e) (L:TT[e]? =some te)
 (C:QT true (zE st.h) G=some ys) (B:∀y,ys[0]? =some y->ln y.cells=sz) (A:Nat.beq sz te.size=true) (hb:Nat.ble te.bytes 65536=true) (O:Nat.beq (ln te.zero) te.size=true) (E:te.zero.all (·.oneCell')=true) (M:ln xs+ln ys<=1073741824):
  vC P st (.call ⟨.builtin .append, #[s,x], #[T,T]⟩) (.ref k 0 (xs++ys).length) [(k,.arr sz (xs++ys) ⟨true,true⟩)] (k::JK G) []:=
 wV true true I hs hk hx hT hd L (λh=>by cases h) C B A hb O E M (λh=>by cases h)
end ops
end
section
def JM (B:Nat->Option (Nat×Nat)):List AV->List (Nat×AV)->Option (List AV)
 |A,[]=>some A
 |A,(i,v)::rest=>match B i with
  |none=>none
  |some (off,size)=>bif Nat.beq (ln v.cells) size&&(Nat.ble (off+size) (ln A)&&v.ok)then JM B (QP A off v.cells) rest else none
theorem JN (B:Nat->Option (Nat×Nat)):∀(C:List (Nat×AV)) (A:List (Nat×Value)) (cs:List AV) (c:Array Value) (G:List AV),JM B cs C=some G->
  (ln A)=ln C->(∀(j:Nat) p M,C[j]? =some p->A[j]? =some M->M.1=p.1/\yK w D h β p.2 M.2)->
  c.size=ln cs->(∀i,i<c.size->(c.getD i undef).oneCell'=true)->(∀(i:Nat) u,cs[i]? =some u->yK w D h β u (c.getD i undef))->
  ∃O,Instr.fill B c A=some O/\O.size=ln G/\(∀i,i<O.size->(O.getD i undef).oneCell'=true)/\∀(i:Nat) u,G[i]? =some u->yK w D h β u (O.getD i undef)
 | [],A,cs,c,G,L,hl,_,h1,h2,h3=>by
  obtain rfl:A=[]:=zBa Na;cases L;exact⟨c,rfl,h1,h2,h3⟩
 | (i, v)::rest,A,cs,c,G,L,hl,hp,h1,h2,h3=>by
  cases A with
  |nil=>simp at hl
  | cons M U=>
   obtain⟨e1,e2⟩:=hp 0 (i,v) M Z Z;obtain⟨i',V⟩:=M;dsimp only at e1 e2;subst e1;unfold JM at L
   cases S:B i' with
   |none=>simp[S]at L
   | some q=>
    obtain⟨off,E⟩:=q;simp only[S]at L
    cases hc:Nat.beq (ln v.cells) E&&(Nat.ble (off+E) (ln cs)&&v.ok)with
    |false=>simp[hc]at L
    | true=>
     simp only[hc,zBr]at L;simp only[zAn]at hc;have q1:=zA9 hc.1;have q2:=zAt hc.2.1;obtain⟨r1,r2,r3⟩:=e2.cells hc.2.2;obtain⟨s1,s2⟩:=Great.foldl_set off V.cells.toList 0 c
     have R:V.cells.zipIdx.foldl (λcs (x:Value×Nat)=>cs.setIfInBounds (off+x.2) x.1) c=(V.cells.toList.zipIdx 0).foldl (λcs (x:Value×Nat)=>cs.setIfInBounds (off+x.2) x.1) c:=by
      rw[<-Array.foldl_toList,Array.toList_zipIdx]
     generalize ag:(V.cells.toList.zipIdx 0).foldl (λcs (x:Value×Nat)=>cs.setIfInBounds (off+x.2) x.1) c=c2 at*
     have W:∀k,c2.getD k undef=if off<=k/\k<off+E then V.cells.getD (k-off) undef else c.getD k undef:=λk=>by
      have hk:=s2 k;simp only[zC8,zDn]at hk;by_cases I:off<=k/\k<off+E
      .rw[Os I];rw[Os (by omega)]at hk;apply dU;rw[hk];have:=gJ V.cells (k-off) (by omega);simpa using this
      .rw[Of I];rw[Of (by omega)]at hk;simp[zBe,hk]
     obtain⟨O,t1,t2,t3,t4⟩:=JN B rest U (QP cs off v.cells) c2 G L Na (λj p M hj ac=>hp (j+1) p M (by simpa using hj) (by simpa using ac))
      (by rw[s1,aE];exact h1) (λk hk=>by
       rw[W];split
       .exact r2 _ (by omega)
       .exact h2 k (by omega)) (λk u Y=>by
       rw[VW _ _ _ _ (by omega),q1]at Y;rw[W];split
       .rename_i I;rw[Os I]at Y;exact r3 _ u Y
       .rename_i I;rw[Of I]at Y
        exact h3 k u Y)
     refine⟨O,?_,t2,t3,t4⟩;unfold Instr.fill;simp only[S];rw[Of uH,R];exact t1
def fe (TT:List TI):List (Nat×Nat)->Option (List (Nat×Nat))
 | []=>some []
 |(o,t)::r=>match TT[t]?,fe TT r with
  |some ti,some l=>some ((o,ti.size)::l)
  |_,_=>none
theorem Ca (C:qS P TT):∀(fs:List Field) (l:List (Nat×Nat)),fe TT (fs.map λf=>(f.offset,f.type))=some l->fs.mapM (λf=>(P.info? f.type).map λi=>(f.offset,i.size))=some l
 | [],l,h=>by simp[fe]at h;simp[h]
 | f::fs,l,h=>by
  simp only[zBk,fe]at h
  cases A:TT[f.type]? with
  |none=>simp[A]at h
  | some ti=>
   cases B:fe TT (fs.map λf=>(f.offset,f.type))with
   |none=>simp[A,B]at h
   |some E=>
    simp[A,B]at h;subst h;obtain⟨i,_,_,hi,_,_,_,hs,_⟩:=uU (C _ _ A);simp[zFw,hi,Ca C fs E B,hs]
section ops
variable {P:Program} {TT:List TI} {st:St}
def ZK (st:St) (ps:Array (Nat×Operand)):List (Nat×AV):=ps.toList.map λp=>(p.1,yY (zM st.tm) p.2)
def Ba {op:Op} {E:Nat->AV} (H:∀t,yK w D h β (E t) (a.eval (.tmp t))) (G:∀t,t∈dI op->E t=zM st.tm t) (A:∀p∈ps.toList,p.2∈op.operands)
 (j:Nat) (p:Nat×AV) (B:Nat×Value) (h1:(ZK st ps)[j]? =some p) (h2:(ps.map λx=>(x.1,a.eval x.2)).toList[j]? =some B):B.1=p.1/\yK w D h β p.2 B.2:=by
 simp only[ZK,zAi,zAs]at h1;obtain⟨q,C,rfl⟩:=h1;simp only[zEv,zAi,C,zB8,zBw]at h2;subst h2;exact⟨rfl,cC H G (A q (zB1 C)) Z⟩
def Aa (z:Value) (A:List Value) (C:z.cells.toList=A) (h1:A.all (·.oneCell')=true):
  z.cells.size=(A.map AV.s).length/\(∀i,i<z.cells.size->(z.cells.getD i undef).oneCell'=true)/\∀(i:Nat) u,(A.map AV.s)[i]? =some u->yK w D h β u (z.cells.getD i undef):=by
 subst C;refine⟨by simp,λi hi=>zAq.1 h1 _ (zB1 (by simpa using gJ _ i hi)),λi u B=>?_⟩;simp only[zAi,zAs]at B;obtain⟨v,hv,rfl⟩:=B;rw[dU La];exact .fz _ _ (.s _)
def Oi (M:qS P TT) {C:List (Nat×Nat)} {cs:List AV} (hT:TT[T]? =some ti) (hd:ti.d= .str fs) (h1:ti.zero.all (·.oneCell')=true) (G:fe TT fs=some C)
 (Y:JM (C[·]?) (ti.zero.map .s) (ZK st ps)=some cs):vC P st (.build T ps) (.agg cs) [] [] []:=
 xA λoo X tm h w β a O hg hr HH R=>by
  obtain⟨d0,o0,y0,p0,f0,g0⟩:=oo;dsimp only at O;subst O;obtain⟨i,u,z,hi,hu,hz,E,_,_,I⟩:=uU (M _ _ hT);obtain⟨A,rfl,hm⟩:=Qo (E.symm.trans hd);have B:=Ca M A.toList C (by rw[hm];exact G);obtain⟨z1,z2,z3⟩:=Aa (w:=w) (D:=xX X β) (h:=h) (β:=β) z ti.zero I.symm h1
  obtain⟨L,S,U,V,W⟩:=JN (w:=w) (D:=xX X β) (h:=h) (β:=β) (C[·]?) (ZK st ps) (ps.map λx=>(x.1,a.eval x.2)).toList _ _ cs Y (by simp[ZK]) (Ba (op:= .build T ps) R hg λp hp=>by
   simp only[Op.operands,zFq]
   exact zB0.2 ⟨p,hp,rfl⟩) z1 z2 z3
  have hb:P.built T (ps.map λx=>(x.1,a.eval x.2)).toList=some L:=by
   simp only[Program.built,hi,hu,hz,B];simpa using S
  exact⟨_,by simp only[execOp,Sem.run_bind,run_build w T _ L hb,Result.andThen_ok,Sem.run_pure],.agg _ _ U V W⟩
def HB (I:qS P TT) {cs:List AV} (hT:TT[T]? =some ti) (hd:ti.d= .arr n e) (V:TT[e]? =some te) (h1:ti.zero.all (·.oneCell')=true)
 (W:JM (λi=>some (i*te.size,te.size)) (ti.zero.map .s) (ZK st ps)=some cs):vC P st (.build T ps) (.agg cs) [] [] []:=
 xA λoo X tm h w β a L Y hr HH M=>by
  obtain⟨d0,o0,y0,p0,f0,g0⟩:=oo;dsimp only at L;subst L;obtain⟨i,u,z,hi,hu,hz,A,_,_,E⟩:=uU (I _ _ hT);obtain rfl:=Ro (A.symm.trans hd);obtain⟨ie,_,_,B,_,_,_,C,_,_⟩:=uU (I _ _ V);obtain⟨z1,z2,z3⟩:=Aa (w:=w) (D:=xX X β) (h:=h) (β:=β) z ti.zero E.symm h1
  obtain⟨G,O,R,S,U⟩:=JN (w:=w) (D:=xX X β) (h:=h) (β:=β) (λi=>some (i*te.size,te.size)) (ZK st ps) (ps.map λx=>(x.1,a.eval x.2)).toList _ _ cs W (by simp[ZK]) (Ba (op:= .build T ps) M Y λp hp=>by
   simp only[Op.operands,zFq]
   exact zB0.2 ⟨p,hp,rfl⟩) z1 z2 z3
  have hb:P.built T (ps.map λx=>(x.1,a.eval x.2)).toList=some G:=by
   simp only[Program.built,hi,hu,hz,B,<-C];exact O
  exact⟨_,by simp only[execOp,Sem.run_bind,run_build w T _ G hb,Result.andThen_ok,Sem.run_pure],.agg _ _ R S U⟩
theorem JO (ne:Bool) (hP:qS P TT) {xs:List AV} (hT:TT[T]? =some ti) (hd:ti.d= .slice e) (he:TT[e]? =some te) (hp:Nat.ble 1 te.size=true) (ac:ZK st ps=(xs.zipIdx 0).map λx=>(x.2,x.1)) (hl:Nat.beq (ln xs) len=true)
 (hw:xs.all (λx=>Nat.beq (ln x.cells) te.size&&(x.ok&&(ne||x.nokey)))=true) (hb:Nat.ble (len*te.size) 65536=true) (S:Nat.beq (ln te.zero) te.size=true):
  ∀ (o:Oper) (X:Nat->Prop) (tm:Nat->AV) (h:yS) (w:World) (β:qG) (a:Act),o.op= .buildSlice T len ps->(∀t,t∈dI (.buildSlice T len ps)->tm t=zM st.tm t)->(∀t,yK w (xX X β) h β (tm t) (a.eval (.tmp t)))->
   ∃(C:Array Value) (f:Nat->Nat->Value),(execOp a.eval o).run P w= .ok (.value (.slice (some ⟨w.heap.size,0,none⟩) (ln xs) (ln xs))) (w.alloc (.cells C e))/\C.size=ln xs*te.size/\xs.length<=aP/\xs.length=len/\
    (∀(i:Nat) (x:AV),xs[i]? =some x->ln x.cells=te.size)/\(∀i j,i<ln xs->j<te.size->C[i*te.size+j]? =some (f i j))/\(∀i j,i<ln xs->j<te.size->(f i j).oneCell'=true)/\
    fI w (xX X β) h β ne xs f:=by
 intro o X tm h w β a ho hg Ht;obtain⟨d0,o0,y0,p0,f0,g0⟩:=o;dsimp only at ho;subst ho;have hp:=zAt hp;have hl:=zA9 hl;have hb:=zAt hb;have S:=zA9 S;subst hl;obtain⟨i,z,B,hi,hz,e1,e2,e3⟩:=vK hP hT hd he
 have R:∀(j:Nat) (x:AV),xs[j]? =some x->ln x.cells=te.size/\x.ok=true/\(ne||x.nokey)=true:=λj x hx=>by
  have:=zAq.1 hw x (zB1 hx)
  simp_all [qS,hT,ZK,yS,qG,dI,zM,xX,aP,fI]
 have G:ln ps.toList=ln xs:=by
  have:=zAv List.length ac;simpa [ZK]using this
 let vs:List Value:=ps.toList.map λp=>a.eval p.2
 have O:ln vs=ln xs:=by simp[vs];simpa using G
 have ap:∀(j:Nat) (x:AV),xs[j]? =some x->∃p,ps.toList[j]? =some p/\p.1=j/\yY (zM st.tm) p.2=x:=λj x hx=>by
  have hj:=zAv (·[j]?) ac;simp only[ZK,zAi,zEl,hx,zB8,zBx]at hj
  grind
 have au:∀(j:Nat) (x:AV),xs[j]? =some x->∃v,vs[j]? =some v/\yK w (xX X β) h β x v:=λj x hx=>by
  obtain⟨p,L,_,a3⟩:=ap j x hx;refine⟨a.eval p.2,by simp only[vs,zAi,L,zB8],cC (op:= .buildSlice T (ln xs) ps) Ht hg ?_ a3⟩;simp only[Op.operands,zFq]
  grind
 have a4:(ps.map λx=>(x.1,a.eval x.2)).toList=(vs.zipIdx 0).map λx=>(x.2,x.1):=by
  apply zBb;intro j;simp only[zEv,zAi,zEl,vs,zBx];by_cases hj:j<ln xs
  .obtain⟨p,L,a2,_⟩:=ap j xs[j] (by simp[hj]);simp[L,a2]
  all_goals grind
 have M:∀v∈vs,v.cells.size=te.size:=λv hv=>by
  obtain⟨j,hj⟩:=zDz hv;have W:j<ln xs:=by rw[<-O];exact(zAz.1 hj).1
  obtain⟨v',h1,h2⟩:=au j xs[j] (by simp[W]);rw[hj]at h1;cases h1;obtain⟨q1,q2,_⟩:=R j xs[j] (by simp[W]);rw[(h2.cells q2).1,q1]
 have a6:z.cells.size=te.size:=by rw[<-S,<-e3];simp
 have E:=Great.fill_whole (s:=te.size) (by omega) vs ((Array.range (ln xs*te.size)).map (z.cells[· % z.cells.size]!)) M (by simp[O]);have I:=Great.flat_get (s:=te.size) (by omega) vs M;generalize hC:(vs.flatMap λv=>v.cells.toList).toArray=C at E
 have V:C.size=ln xs*te.size:=by
  rw[<-hC]
  have:∀l:List Value,(∀v∈l,v.cells.size=te.size)->(l.flatMap λv=>v.cells.toList).length=ln l*te.size:=by
   intro l
   induction l with
   |nil=>simp
   |cons v l ih=>
    intro hv;rw[List.flatMap_cons,zAh,ih λu B=>hv u (by simp[B])];have:=hv v zW;simp only[zDn,this,zAm,zBq,zCu];omega
  simpa [O]using this vs M
 have ar:(execOp a.eval ⟨d0,.buildSlice T (ln xs) ps,y0,p0,f0,g0⟩).run P w= .ok (.value (.slice (some ⟨w.heap.size,0,none⟩) (ln xs) (ln xs))) (w.alloc (.cells C e)):=by
  have av:¬xs.length*te.size>2 ^ 24:=by omega
  have hs:=kE (hP _ _ he) w;simp only[execOp,Instr.buildSlice,Sem.run_bind,Ja w B,Result.andThen_ok,hs];by_cases h0:ln xs*te.size=0
  .have a5:xs=[]:=by
    rcases Nat.mul_eq_zero.1 h0 with h|h
    .exact zBa h
    .omega
   subst a5
   have ag:ps= #[]:=by
    have:ln ps.toList=0:=by simpa using G
    exact Array.eq_empty_of_size_eq_zero Ug
   subst ag;have ax:C= #[]:=by simpa using V
   subst ax;simp[Instr.fill,newRow,Array.range_zero']
  .have Y:(ps.map λx=>(x.1,a.eval x.2)).toList=(vs.zipIdx 0).map λx=>(x.2,x.1):=a4
   simp only[Of av,Sem.run_pure,Result.andThen_ok,Of h0,Sem.run_bind,zeroValue,typeInfo,run_program,hi,hz,Y];rw[E];simp[newRow]
 have A:∀(j:Nat) (x:AV),xs[j]? =some x->∃v,vs[j]? =some v/\v.cells.size=te.size/\(∀q,q<te.size->C[j*te.size+q]? =some (v.cells.getD q undef))/\(∀q,q<te.size->(v.cells.getD q undef).oneCell'=true)/\
   ∀(q:Nat) u,x.cells[q]? =some u->yK w (xX X β) h β u (v.cells.getD q undef)/\(ne=false->xS w (xX X β) u (v.cells.getD q undef)):=λj x hx=>by
  obtain⟨v,h1,h2⟩:=au j x hx;obtain⟨q1,q2,q3⟩:=R j x hx;obtain⟨r1,r2,r3⟩:=h2.cells q2;refine⟨v,h1,by omega,λq U=>?_,λq U=>r2 q (by omega),λq u B=>⟨r3 q u B,λhn=>(r3 q u B).toF ?_⟩⟩
  .have az:(j*te.size+q)/te.size=j:=Nat.div_eq_of_lt_le (by omega) (by rw[zBq,zCu];omega);have a1:(j*te.size+q) % te.size=q:=by rw[zEh,zE3];exact zC9 U
   have:=I (j*te.size+q);rw[az,a1,h1]at this;rw[<-hC];simp only[zDd,this,Option.bind_some];exact gJ _ _ (by omega)
  .rw[hn,zCp]at q3
   cases x<;>first
    |(simp[AV.cells]at B;cases q<;>simp at B;subst B;exact q3)
    |(exact gI (by simpa [AV.nokey,AV.cells]using q3) B)
 refine⟨C,λj q=>(vs.getD j undef).cells.getD q undef,ar,V,?_,rfl,λj x hx=>(R j x hx).1,?_,?_,?_⟩
 .have:ln xs*1<=ln xs*te.size:=Nat.mul_le_mul_left _ hp;unfold aP;omega
 .intro j q hj U;obtain⟨v,h1,_,h3,_⟩:=A j xs[j] (by simp[hj]);have:vs.getD j undef=v:=by simp[oj,h1]
  dsimp only;rw[this];exact h3 q U
 .intro j q hj U;obtain⟨v,h1,_,_,h4,_⟩:=A j xs[j] (by simp[hj]);have:vs.getD j undef=v:=by simp[oj,h1]
  dsimp only;rw[this];exact h4 q U
 .intro j x q u hx B;obtain⟨v,h1,_,_,_,h5⟩:=A j x hx;have:vs.getD j undef=v:=by simp[oj,h1]
  dsimp only;rw[this];exact h5 q u B
def yT (W:qS P TT) {xs:List AV} (k:Nat) (hT:TT[T]? =some ti) (hd:ti.d= .slice e) (Y:TT[e]? =some te) (L:Nat.ble 1 te.size=true) (M:ZK st ps=(xs.zipIdx 0).map λx=>(x.2,x.1)) (hl:Nat.beq (ln xs) len=true)
 (hw:xs.all (λx=>Nat.beq (ln x.cells) te.size&&(x.ok&&x.nokey))=true) (hb:Nat.ble (len*te.size) 65536=true) (O:Nat.beq (ln te.zero) te.size=true):
  vC P st (.buildSlice T len ps) (.ref k 0 len) [(k,.arr te.size xs false)] [] [k]:=by
 refine⟨?_⟩;intro X tm h hg _ hn o a w β ho U V;obtain⟨C,f,B,A,I,E,q1,R,S,q4⟩:=JO false W hT hd Y L M hl hw hb O o X tm h w β a ho hg V;rw[B];subst E;obtain⟨β',G,hv⟩:=wG.newArr U (hn k zW) C e te.size xs (ln xs) f (zAt L) I (zAg _) (by rw[A]) (Ga A (zAt L) R S) q1 R S (q4.toF Z);exact⟨β',G,hv⟩
def NQ (W:qS P TT) {xs:List AV} (k:Nat) (hT:TT[T]? =some ti) (hd:ti.d= .slice e) (Y:TT[e]? =some te) (L:Nat.ble 1 te.size=true) (M:ZK st ps=(xs.zipIdx 0).map λx=>(x.2,x.1)) (hl:Nat.beq (ln xs) len=true)
 (hw:xs.all (λx=>Nat.beq (ln x.cells) te.size&&x.ok)=true) (hb:Nat.ble (len*te.size) 65536=true) (O:Nat.beq (ln te.zero) te.size=true):
  vC P st (.buildSlice T len ps) (.ref k 0 len) [(k,.arr te.size xs ⟨false,true⟩)] [] [k]:=by
 refine⟨?_⟩;intro X tm h hg _ hn o a w β ho U V;obtain⟨C,f,B,A,I,E,q1,R,S,q4⟩:=JO true W hT hd Y L M hl (by simpa using hw) hb O o X tm h w β a ho hg V;rw[B];subst E;obtain⟨β',G,hv⟩:=wG.newArrN U (hn k zW) C e te.size xs (ln xs) f (zAt L) I (zAg _) (by rw[A]) (Ga A (zAt L) R S) q1 R S (q4.toV);exact⟨β',G,hv⟩
def NR (R:qS P TT) {xs:List AV} (hT:TT[T]? =some ti) (hd:ti.d= .slice e) (S:TT[e]? =some te) (L:Nat.ble 1 te.size=true) (E:ZK st ps=(xs.zipIdx 0).map λx=>(x.2,x.1)) (hl:Nat.beq (ln xs) len=true)
 (Y:xs.all (λx=>Nat.beq (ln x.cells) te.size&&(x.ok&&x.nokey))=true) (hb:Nat.ble (len*te.size) 65536=true) (G:Nat.beq (ln te.zero) te.size=true):
  vC P st (.buildSlice T len ps) (.sl true xs) [] [] []:=by
 refine⟨?_⟩;intro X tm h U _ hn o a w β W I M;obtain⟨C,f,A,O,B,V,q1,q2,q3,q4⟩:=JO false R hT hd S L E hl Y hb G o X tm h w β a W U M;rw[A];rw[ZI];exact⟨β,wG.newFz I C e,.fz _ _ (xS.newArr I C e te.size xs (ln xs) f (zAt L) B (zAg _) q1 q2 q3 (q4.toF Z))⟩
def uW (ti:TI):AV:=bif ti.d.agg then .agg (ti.zero.map .s)else match ti.zero with
 | [v]=> .s v
 |_=> .bot
theorem UZ (hP:qS P TT) {n:Nat} {kx ky:IntKind} {nx A:Int} (k:Nat) (hx:yY (zM st.tm) x= .s (.int kx nx)) (hy:yY (zM st.tm) y= .s (.int ky A)) (hT:TT[T]? =some ti) (hd:ti.d= .slice e) (he:TT[e]? =some te)
 (ar:nx=(n:Int)) (au:nx<=A) (a1:A<=1073741824) (hb:Nat.ble te.bytes 65536=true) (hp:Nat.ble 1 te.size=true) (E:Nat.beq (ln te.zero) te.size=true) (V:te.zero.all (·.oneCell')=true) (L:Nat.beq (uW te).cells.length te.size=true) (W:(uW te).cells=te.zero.map .s):
  vC P st (.makeSlice T x y) (.ref k 0 n) [(k,.arr te.size (nm n (uW te)) false)] [] [k]:=by
 refine⟨?_⟩;intro X tm h hg _ hn o a w β ho HH Ht;obtain⟨d0,o0,y0,p0,f0,g0⟩:=o;dsimp only at ho;subst ho;have h1:=vY Ht hg (x:=x) qF hx;have h2:=vY Ht hg (x:=y) qF hy;have hp:=zAt hp;have hb:=zAt hb;have E:=zA9 E;have L:=zA9 L;subst ar;obtain⟨i,z,S,hi,hz,e1,e2,e3⟩:=vK hP hT hd he
 have B:(i.bytes:Int)*A<=281474976710656:=by
  obtain⟨m,rfl⟩:=zB4 (show 0<=A by omega);have:i.bytes*m<=65536*1073741824:=zDa (by omega) (by omega)
  grind
 have R:=run_make (P:=P) w T e i z S hi hz kx ky (n:Int) A (by omega) au B (by omega)
 have Y:(execOp a.eval ⟨d0,.makeSlice T x y,y0,p0,f0,g0⟩).run P w= .ok (.value (.slice (some ⟨w.heap.size,0,none⟩) n A.toNat)) (w.alloc (.cells (madeCells z.cells (A.toNat*i.size)) e)):=by
  simp only[execOp,h1,h2,Sem.run_bind,R,Result.andThen_ok,Sem.run_pure];rfl
 rw[Y];have az:z.cells.size=te.size:=by rw[<-E,<-e3];simp
 have C:(nm n (uW te)).length=n:=by simp
 have O:∀(j:Nat) v,(nm n (uW te))[j]? =some v->v=uW te:=λj v hv=>by
  grind
 have I:∀j,j<te.size->∃v,te.zero[j]? =some v/\z.cells.getD j undef=v:=λj hj=>by
  have:=gJ z.cells j (by omega)
  grind
 have:=wG.newArr HH (hn k zW) (madeCells z.cells (A.toNat*i.size)) e te.size (nm n (uW te)) A.toNat (λ_ j=>z.cells.getD j undef) hp (by rw[C];unfold aP;omega) (by rw[C];omega) (by rw[size_madeCells,e1]) (kT.get (kT.made (λv hv=>zAq.1 V v JJ) (by omega) _))
  (λj v hv=>by rw[O j v hv];exact L) (λM j hi' hj=>by
   rw[C]at hi'
   have ag:M*te.size+j<A.toNat*te.size:=by
    have:=zA1 te.size (show M+1<=A.toNat by omega)
    grind
   have ap:(M*te.size+j) % te.size=j:=by rw[zEh,zE3];exact zC9 hj
   simp only[madeCells,e1,zFd,zEy,ag,zEp,zB8,az,ap]
   congr 1
   have ac:j<z.cells.size:=by omega
   simp[zBe,ac]) (λM j _ hj=>by
   obtain⟨v,hv,av⟩:=I j hj;rw[av]
   exact zAq.1 V v (zB1 hv)) (λM v j u hv S=>by
   rw[O M v hv,W]at S;simp only[zAi,zAs]at S;obtain⟨q,hq,rfl⟩:=S;have hj:j<te.size:=by rw[<-E];exact(zAz.1 hq).1
   obtain⟨v',U,ax⟩:=I j hj;rw[ax];rw[hq]at U;cases U
   exact .s _)
 obtain⟨β',G,hv⟩:=this;rw[C]at hv;exact⟨β',G,hv⟩
def Iu {E G:Nat} {k:IntKind} {n:Int} (hx:yY (zM st.tm) x= .s (.int k m)) (I:yY (zM st.tm) y= .s (.int k n)):vC P st (.call ⟨.builtin .max, #[x,y], #[E,G]⟩) (.s (.int k (max m n))) [] [] []:=
 xA λL X V h w β a C B S M A=>by
  obtain⟨d0,o0,W,U,O,R⟩:=L;dsimp only at C;subst C;have h1:=vY A B (x:=x) gH hx;have h2:=vY A B (x:=y) gH I;refine⟨.int k (max m n),?_,.fz _ _ (.s _)⟩;have:(if n>m then n else m)=max m n:=by omega
  simp[execOp,resolve,invoke,builtin,Builtin.max_,Builtin.max2,h1,h2,this]
def Hu {E G:Nat} {k:IntKind} {n:Int} (hx:yY (zM st.tm) x= .s (.int k m)) (I:yY (zM st.tm) y= .s (.int k n)):vC P st (.call ⟨.builtin .min, #[x,y], #[E,G]⟩) (.s (.int k (min m n))) [] [] []:=
 xA λL X V h w β a C B S M A=>by
  obtain⟨d0,o0,W,U,O,R⟩:=L;dsimp only at C;subst C;have h1:=vY A B (x:=x) gH hx;have h2:=vY A B (x:=y) gH I;refine⟨.int k (min m n),?_,.fz _ _ (.s _)⟩;have:(if n<m then n else m)=min m n:=by omega
  simp[execOp,resolve,invoke,builtin,Builtin.min_,Builtin.min2,h1,h2,this]
def SH (h:yS):AV->Bool
 | .sl true _=>true
 | .sl false (_::_)=>true
 | .ref k _ (_+1)=>match h k with
  |some (.arr _ _ _)=>true
  |_=>false
 |_=>false
def OW (B:qS P TT) (hT:TT[T]? =some ti) (hd:ti.d= .slice e) (w:World) (b:Option Addr) (n c:Nat):(Op.equal T (.slice b n c) (.slice none 0 0)).run P w= .ok b.isNone w:=by
 obtain⟨_,u,_,_,C,_,A,_⟩:=uU (B _ _ hT);obtain rfl:=uP (A.symm.trans hd)
 show(Op.equalIn (9999+1) T _ _).run P w=_
 unfold Op.equalIn
 cases b<;>simp[Ja w C]
def yU (I:qS P TT) {C:AV} {v:Bool} (B:op= .eql/\v=false\/op= .neq/\v=true) (hx:yY (zM st.tm) x=C) (hT:TT[T]? =some ti) (hd:ti.d= .slice e) (A:SH (zE st.h) C=true):
  vC P st (.binOp op T x (.const (.slice none 0 0)) ty) (.s (.bool v)) [] (JK C) []:=
 xA λU X tm h w β a E O S V G=>by
  obtain⟨d0,o0,y0,p0,Y,g0⟩:=U;dsimp only at E;subst E;have h1:=cC G O (x:=x) qF hx
  obtain⟨b,n,c,hc⟩:∃b n c,a.eval x= .slice (some b) n c:=by
   generalize a.eval x=W at h1
   cases h1 with
   |fz _ _ M=>
    cases M with
    |nil a cap=>simp[SH]at A
    |nil1 a cap=>exact⟨_,_,_,rfl⟩
    |sl _ _ b o sz cap f R hL hc hh=>exact⟨_,_,_,rfl⟩
    |_=>simp[SH]at A
   |ref _ _ _ _ _ _ _ _ _ _ _ _ _ _=>exact⟨_,_,_,rfl⟩
   |ref0 _ _ _ _ _ _ _ _=>simp[SH]at A
   |dref k off len _ hk _=>
    have:=S k (by simp[JK])
    cases len with
    |zero=>simp[SH]at A
    |succ m=>simp[SH,<-this,hk]at A
   |_=>simp[SH]at A
  have L:=OW I hT hd w (some b) n c;refine⟨.bool v,?_,.fz _ _ (.s _)⟩
  rcases B with⟨rfl,rfl⟩|⟨rfl,rfl⟩<;>simp[execOp,hc,show a.eval (.const (.slice none 0 0))= .slice none 0 0 from Z,eqGuard,binOp,L]
def fJ (E:qS P TT) {v:Bool} {c:Nat} (A:op= .eql/\v=true\/op= .neq/\v=false) (hx:yY (zM st.tm) x= .s (.slice none n c)) (hT:TT[T]? =some ti) (hd:ti.d= .slice e):
  vC P st (.binOp op T x (.const (.slice none 0 0)) ty) (.s (.bool v)) [] [] []:=
 xA λL X V h w β a B I S M C=>by
  obtain⟨d0,o0,W,U,O,R⟩:=L;dsimp only at B;subst B;have hc:=vY C I (x:=x) qF hx;have G:=OW E hT hd w none n c;refine⟨.bool v,?_,.fz _ _ (.s _)⟩
  rcases A with⟨rfl,rfl⟩|⟨rfl,rfl⟩<;>simp[execOp,hc,show a.eval (.const (.slice none 0 0))= .slice none 0 0 from Z,eqGuard,binOp,G]
def OX {p q:ByteArray} {v:Bool} (hx:yY (zM st.tm) x= .s (.string p)) (G:yY (zM st.tm) y= .s (.string q))
 (A:op= .eql/\v=(p.toList==q.toList)\/op= .neq/\v= !(p.toList==q.toList)):vC P st (.binOp op tx x y ty) (.s (.bool v)) [] [] []:=
 xA λo X O h w β a E C _ _ B=>by
  obtain⟨d0,o0,R,M,I,L⟩:=o;dsimp only at E;subst E;have h1:=vY B C (x:=x) qF hx;have h2:=vY B C (x:=y) qF G;refine⟨.bool v,?_,.fz _ _ (.s _)⟩
  rcases A with⟨rfl,rfl⟩|⟨rfl,rfl⟩<;>simp[execOp,h1,h2,eqGuard,binOp,Op.stringOp]
end ops
end
