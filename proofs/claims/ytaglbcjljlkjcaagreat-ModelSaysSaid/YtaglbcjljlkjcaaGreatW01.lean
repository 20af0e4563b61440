/- Part 1. -/
import Derived.Below
import Derived.Orders
import Derived.LoopN
import Derived.Laws.Sem
import Derived.KernelRfl
import Derived.Laws.AppendOwn
import Derived.Laws.CopyRow
import Derived.IntWalk
import Derived.Laws.MakeOwn
import Derived.Laws.Append
import Derived.Great.FillDense
import Derived.Laws.Tables
namespace Go.Proofs.YtaglbcjljlkjcaaGreat.Av
open List renaming length->ln,replicate->pb,range->pi,getD->py
open Inhabited renaming default->dd
variable {a:Act}{ps:Array (Nat×Operand)}{z:Array Value}{op:BinOp}{ne nest nn:Bool}{m:Int}{fs:List (Nat×Nat)}{T b e el ft i j k l len n o off r sz tx ty:Nat}{f:Nat->Nat->Value}{D D' X:Nat->Prop}{ix s x y:Operand}{hi lo:Option Operand}{P:Program}{p:Prop}{α:Type}{u:TypeDesc}{c:Value}{w w':World}
theorem Z{α:Sort _}{a:α}:a=a:=rfl
set_option linter.all false
def Os:=@if_neg
def f5:=@if_pos
def zAr:=@List.length_map
def zAs:=@decide_eq_false
def zAt:=@List.take_length
def zAu:=@decide_eq_true
def zAv:=@List.length_append
def zAw:=@Nat.le_refl
def zAx:=@decide_eq_true_eq
def zAy:=@List.map_append
def zAz:=@List.getElem?_map
def zA0:=@List.getD_eq_getElem?_getD
def zA1:=@List.take_of_length_le
def zA2:=@Bool.and_eq_true
def zA3:=@Bool.true_and
def zA4:=@decide_eq_false_iff_not
def zA5:=@List.all_eq_true
def zA6:=@List.length_cons
def zA7:=@Bool.false_ne_true
def zA8:=@Nat.le_of_ble_eq_true
def zA9:=@Nat.zero_le
def zBa:=@Option.map_eq_some_iff
def zBb:=@congrArg
def zBc:=@List.mem_append
def zBd:=@List.drop_zero
def zBe:=@Nat.mul_le_mul_right
def zBf:=@Int.toNat_natCast
def zBg:=@List.length_take
def zBh:=@List.append_assoc
def zBi:=@List.mem_range
def zBj:=@List.getElem?_eq_some_iff
def zBk:=@List.getElem?_eq_getElem
def zBl:=@List.mem_singleton
def zBm:=@beq_eq_false_iff_ne
def zBn:=@List.append_nil
def zBo:=@Nat.eq_of_beq_eq_true
def zBp:=@List.getElem?_append_left
def zBq:=@List.getElem?_append_right
def zBr:=@List.length_drop
def zBs:=@List.getElem?_set_self
def zBt:=@Bool.false_and
def zBu:=@Array.getD_eq_getD_getElem?
def zBv:=@List.eq_nil_of_length_eq_zero
def zBw:=@Nat.le_trans
def zBx:=@List.length_nil
def zBy:=@Nat.lt_of_lt_of_le
def zBz:=@List.mem_of_mem_drop
def zB0:=@List.ext_getElem?
def zB1:=@Int.tmod_eq_emod_of_nonneg
def zB2:=@Nat.add_mul
def zB3:=@bne_eq_false_iff_eq
def zB4:=@List.getElem?_eq_none
def zB5:=@List.length_set
def zB6:=@cond_true
def zB7:=@Nat.zero_add
def zB8:=@beq_iff_eq
def zB9:=@List.length_range
def zCa:=@List.mem_map
def zCb:=@List.map_cons
def zCc:=@List.mem_of_getElem?
def zCd:=@Option.some.injEq
def zCe:=@List.map_set
def zCf:=@List.mem_cons
def zCg:=@List.getElem?_take
def zCh:=@List.length_filter_le
def zCi:=@List.any_eq_true
def zCj:=@List.map_nil
def zCk:=@List.getElem?_range
def zCl:=@Int.eq_ofNat_of_zero_le
def zCm:=@Nat.not_lt_zero
def zCn:=@Option.map_some
def zCo:=@List.mem_of_mem_take
def zCp:=@Bool.and_false
def zCq:=@List.length_replicate
def zCr:=@List.length_singleton
def zCs:=@List.range_succ
def zCt:=@cond_false
def zCu:=@Array.getElem?_append_left
def zCv:=@Int.tdiv_eq_ediv_of_nonneg
def zCw:=@bne_iff_ne
def zCx:=@Nat.le_of_eq
def zCy:=@Int.fdiv_eq_ediv_of_nonneg
def zCz:=@List.getElem?_drop
def zC0:=@List.take_append_of_le_length
def zC1:=@Int.le_refl
def zC2:=@Nat.one_mul
def zC3:=@Bool.or_eq_true
def zC4:=@Array.getElem?_eq_some_iff
def zC5:=@Bool.false_or
def zC6:=@Prod.mk.injEq
def zC7:=@Nat.sub_self
def zC8:=@List.getElem_of_mem
def zC9:=@Bool.not_eq_true'
def zDa:=@List.any_eq_false
def zDb:=@List.getElem?_replicate
def zDc:=@Classical.byContradiction
def zDd:=@Bool.and_true
def zDe:=@Bool.true_or
def zDf:=@List.contains_iff_mem
def zDg:=@List.getElem?_toArray
def zDh:=@Nat.add_zero
def zDi:=@Nat.mul_le_mul
def zDj:=@Int.emod_lt_of_pos
def zDk:=@List.take_succ_eq_append_getElem
def zDl:=@Nat.mod_eq_of_lt
def zDm:=@Option.getD_some
def zDn:=@List.map_drop
def zDo:=@Nat.lt_irrefl
def zDp:=@List.flatten_cons
def zDq:=@List.size_toArray
def zDr:=@List.take_add_one
def zDs:=@Array.length_toList
def zDt:=@List.mem_or_eq_of_mem_set
def zDu:=@Option.map_none
def zDv:=@BitVec.toNat_ofNat
def zDw:=@BitVec.ofInt_natCast
def zDx:=@ne_eq
def zDy:=@List.all_eq_false
def zDz:=@List.getElem?_set
def zD0:=@Int.emod_nonneg
def zD1:=@List.nil_append
def zD2:=@Option.some.inj
def zD3:=@List.drop_eq_nil_of_le
def zD4:=@List.zipWith_cons_cons
def zD5:=@List.map_take
def zD6:=@List.cons_append
def zD7:=@List.take_zero
def zD8:=@Nat.ble_eq_true_of_le
def zD9:=@List.getElem?_of_mem
def zEa:=@Nat.zero_mul
def zEb:=@Nat.shiftLeft_add_eq_or_of_lt
def zEc:=@List.flatten_append
def zEd:=@Bool.not_eq_true
def zEe:=@Bool.or_true
def zEf:=@List.map_replicate
def zEg:=@List.mem_filter
def zEh:=@List.take_append_drop
def zEi:=@Decidable.not_not
def zEj:=@of_decide_eq_true
def zEk:=@Nat.pow_le_pow_right
def zEl:=@List.getElem_mem
def zEm:=@Int.toNat_of_nonneg
def zEn:=@List.mem_replicate
def zEo:=@Bool.eq_false_iff
def zEp:=@Bool.not_false
def zEq:=@List.set_append_right
def zEr:=@List.singleton_append
def zEs:=@Nat.mul_comm
def zEt:=@Array.getElem?_append_right
def zEu:=@List.drop_length
def zEv:=@List.getElem?_zipIdx
def zEw:=@List.mem_flatten
def zEx:=@List.pairwise_append
def zEy:=@List.replicate_succ'
def zEz:=@Nat.le_of_mul_le_mul_right
def zE0:=@if_true
def zE1:=@List.drop_eq_getElem_cons
def zE2:=@List.set_set
def zE3:=@Nat.le_of_lt
def zE4:=@of_decide_eq_false
def zE5:=@Array.size_append
def zE6:=@not_true_eq_false
def zE7:=@Array.toList_map
def zE8:=@and_false
def zE9:=@Array.getElem?_range
def zFa:=@Bool.eq_iff_iff
def zFb:=@Int.natCast_mul
def zFc:=@Int.not_le
def zFd:=@Int.not_lt
def zFe:=@List.getElem?_set_ne
def zFf:=@Nat.mul_add_mod
def zFg:=@Nat.sub_zero
def zFh:=@decide_false
def zFi:=@List.replicate_succ
def zFj:=@List.nodup_nil
def zFk:=@if_false
def zFl:=@Int.one_mul
def zFm:=@Nat.sub_mul
def zFn:=@decide_true
def zFo:=@Array.getElem?_map
def zFp:=@Bool.false_eq_true
def zFq:=@Int.tmod_lt_of_pos
def zFr:=@List.filter_append
def zFs:=@List.pairwise_cons
def zFt:=@List.set_cons_zero
def zFu:=@Bool.not_true
def zFv:=@Bool.or_false
def zFw:=@List.all_cons
def zFx:=@Nat.add_assoc
def zFy:=@Nat.or_lt_two_pow
def zFz:=@not_false_eq_true
def zF0:=@List.mem_of_find?_eq_some
def zF1:=@dif_pos
def zF2:=@Int.natCast_succ
def zF3:=@Int.pow_succ
def zF4:=@List.mem_toArray
def zF5:=@Nat.lt_or_ge
def zF6:=@Nat.shiftLeft_eq
def zF7:=@BitVec.toNat_or
def zF8:=@Int.tmod_nonneg
def zF9:=@List.mapM_cons
def zGa:=@List.set_getElem_self
def zGb:=@Nat.mod_lt
def zGc:=@and_true
def zGd:=@List.any_cons
def zGe:=@Int.min_self
def zGf:=@List.map_map
def zV (h:p:=by simp):p:=h
def yY (h:p:=by decide):p:=h
def uO (h:p:=by simp[Op.operands]):p:=h
def qA (h:p:=by(simp;omega)):p:=h
def kQ (h:p:=by simp[Op.operands,Call.operands]):p:=h
def QK (h:p:=by simp[List.getD,hi']):p:=h
def QL (h:p:=by(rw[hd];simp)):p:=h
def OZ (h:p:=by simpa using h):p:=h
def NA (h:p:=by kernel_rfl):p:=h
def NB (h:p:=by(dsimp only;omega)):p:=h
def XX (h:p:=by simp[hi]):p:=h
def XY (h:p:=by(first|rfl|assumption)):p:=h
def XZ (h:p:=by(have:=H.vl;omega)):p:=h
def NC (h:p:=by(rw[<-e3];exact hv)):p:=h
def ND (h:p:=by(rw[hh j hj];exact hk')):p:=h
def KZ (h:p:=by(rw[hd];decide)):p:=h
def JC (h:p:=by simpa using hb):p:=h
def JD (h:p:=by(rw[zBg];omega)):p:=h
def JE (h:p:=by(rw[hk];rfl)):p:=h
def JF (h:p:=by(rw[hk];exact q1)):p:=h
def DW (h:p:=by(rw[hx];simp)):p:=h
def DX (h:p:=by(have:=J.n;omega)):p:=h
def DY (h:p:=by simpa using hi):p:=h
def DZ (h:p:=by simpa using hv):p:=h
def CA (h:p:=by simpa using h1):p:=h
def CB (h:p:=by simpa using h2):p:=h
def CD (h:p:=by simpa using hl):p:=h
def CE (h:p:=by(rw[hh];decide)):p:=h
def CF (h:p:=by(rw[hL];simp)):p:=h
def CG (h:p:=by(rw[zBr];omega)):p:=h
def Ve (h:p:=by(rw[hl]at hi;omega)):p:=h
def Ue (h:p:=by simpa using this):p:=h
def Te (h:p:=by(rw[hbk,e];simp)):p:=h
def Se (h:p:=by(rw[hβ j hj];exact hb)):p:=h
def Re (h:p:=by(simp[List.getD];rw[zBk zB];simp)):p:=h
def Hk (h:p:=by(rw[zAv,zCr];omega)):p:=h
def Gk (h:p:=by(rcases hxv with h|h;exact .inl h;exact .inr h.1)):p:=h
def Fk (h:p:=by(rw[hh j hk];exact hk')):p:=h
def Ek (h:p:=by rw[zBd,zAt]):p:=h
def Qx (h:p:=by rw[hN,zBd,<-hz3l,zAt]):p:=h
def Px (h:p:=by(rw[zA0,zBk hr1];exact zEl _)):p:=h
def Ox (h:p:=by(rcases hk with hk|hk|hk|hk<;>rw[hk]<;>rfl)):p:=h
def Nx (h:p:=by(rw[zBg,zBr];omega)):p:=h
inductive AV where
 |bot
 |gh (n:Nat)
 |s (v:Value)
 |agg (cs:List AV)
 |sl (nn:Bool) (xs:List AV)
 |slc (cap:Nat) (xs:List AV)
 |ref (k off len:Nat)
 |ptr (k i off:Nat)
 |fp (xs:List AV) (i off:Nat)
 |fn (f:Nat) (caps:List AV)
 |tup (vs:List AV)
 |fm (ob:Option Nat) (p:Obj->Prop)
 deriving Inhabited
def AV.cells:AV->List AV
 | .agg cs=>cs
 |v=>[v]
def AV.isAgg:AV->Bool
 | .agg _=>true
 |_=>false
def dY:Nat:=9223372036854775807
structure Sz (w:World) (D:Nat->Prop) (xs:List AV) (b o sz:Nat) (f:Nat->Nat->Value):Prop where
 lt:b<w.heap.size
 nd:¬D b
 pos:1<=sz
 max:xs.length<=dY
 wide:∀(i:Nat) (x:AV),xs[i]? =some x->x.cells.length=sz
 cell:∀i j,i<xs.length->j<sz->w.cell? ⟨b,o+i*sz+j,none⟩=some (f i j)
 one:∀i j,i<xs.length->j<sz->(f i j).oneCell'=true
inductive xM (w:World) (D:Nat->Prop):AV->Value->Prop
 |bot (c:Value):xM w D .bot c
 |gh (n:Nat) (c:Value):xM w D (.gh n) c
 |s (v:Value):xM w D (.s v) v
 |agg (cs:List AV) (c:Array Value) (hl:c.size=cs.length) (h1:∀i,i<c.size->(c.getD i undef).oneCell'=true) (h:∀(i:Nat) v,cs[i]? =some v->xM w D v (c.getD i undef)):xM w D (.agg cs) (.agg c)
 |nil (a:Option Addr) (cap:Nat):xM w D (.sl false []) (.slice a 0 cap)
 |nil1 (a:Addr) (cap:Nat):xM w D (.sl true []) (.slice (some a) 0 cap)
 |sl (nn:Bool) (xs:List AV) (b o sz cap:Nat) (f:Nat->Nat->Value) (hx:xs≠[]) (hL:Sz w D xs b o sz f) (hc:xs.length<=cap)
  (h:∀(i:Nat) (x:AV) (j:Nat) v,xs[i]? =some x->x.cells[j]? =some v->xM w D v (f i j)):xM w D (.sl nn xs) (.slice (some ⟨b,o,none⟩) xs.length cap)
 |slc (cap:Nat) (xs:List AV) (b o sz:Nat) (f:Nat->Nat->Value) (hL:Sz w D xs b o sz f) (hc:xs.length<=cap)
  (h:∀(i:Nat) (x:AV) (j:Nat) v,xs[i]? =some x->x.cells[j]? =some v->xM w D v (f i j)):xM w D (.slc cap xs) (.slice (some ⟨b,o,none⟩) xs.length cap)
 |fp (xs:List AV) (b o sz i off:Nat) (f:Nat->Nat->Value) (hL:Sz w D xs b o sz f) (hi:i<xs.length) (ho:off<sz)
  (h:∀(i:Nat) (x:AV) (j:Nat) v,xs[i]? =some x->x.cells[j]? =some v->xM w D v (f i j)):xM w D (.fp xs i off) (.pointer (some ⟨b,o+i*sz+off,none⟩))
 |fm (ob:Option Nat) (p:Obj->Prop) (b:Nat) (x:Obj) (ho:∀n,ob=some n->n=b) (hl:b<w.heap.size) (hd:¬D b) (hx:w.heap[b]? =some x) (hp:p x):xM w D (.fm ob p) (.map (some b))
structure Fl where
 stale:Bool
 nest:Bool
variable {sl:Fl}
instance:Coe Bool Fl:=⟨λb=>⟨b,false⟩⟩
inductive xW where
 |box (cs:List AV)
 |arr (sz:Nat) (xs:List AV) (fl:Fl)
 |dead
 |obj (o:Nat×(Obj->Prop))
abbrev yS:=Nat->Option xW
variable {h h':yS}
abbrev uM:=Nat->List (Nat×Nat)
variable {β β':uM}
def wO (w:World) (b:Nat):Nat:=((w.shape? b).map (·.2)).getD 0
inductive yI (w:World) (D:Nat->Prop) (h:yS) (β:uM):AV->Value->Prop
 |fz (v:AV) (c:Value) (hf:xM w D v c):yI w D h β v c
 |agg (cs:List AV) (c:Array Value) (hl:c.size=cs.length) (h1:∀i,i<c.size->(c.getD i undef).oneCell'=true) (hh:∀(i:Nat) v,cs[i]? =some v->yI w D h β v (c.getD i undef)):yI w D h β (.agg cs) (.agg c)
 |fn (f:Nat) (caps:List AV) (c:Array Value) (hl:c.size=caps.length) (hh:∀(i:Nat) v,caps[i]? =some v->yI w D h β v (c.getD i undef)):yI w D h β (.fn f caps) (.func (.func f) #[] c)
 |tup (vs:List AV) (c:Array Value) (hl:c.size=vs.length) (hh:∀(i:Nat) v,vs[i]? =some v->yI w D h β v (c.getD i undef)):yI w D h β (.tup vs) (.tuple c)
 |dref (k off len:Nat) (c:Value) (hk:h k=some .dead) (h1:c.oneCell'=true):yI w D h β (.ref k off len) c
 |dptr (k i off:Nat) (c:Value) (hk:h k=some .dead) (h1:c.oneCell'=true):yI w D h β (.ptr k i off) c
 |ref (k off len sz:Nat) (xs:List AV) (st:Fl) (b n cap:Nat) (hk:h k=some (.arr sz xs st)) (hb:(b,n)∈β k) (hn:off+len<=n) (hc:len<=cap) (hs:(off+cap)*sz=wO w b):
  yI w D h β (.ref k off len) (.slice (some ⟨b,off*sz,none⟩) len cap)
 |ref0 (k off sz:Nat) (xs:List AV) (st:Fl) (a:Option Addr) (hk:h k=some (.arr sz xs st)) (hn:off<=xs.length):yI w D h β (.ref k off 0) (.slice a 0 0)
 |pbox (k off:Nat) (cs:List AV) (b n:Nat) (hk:h k=some (.box cs)) (hb:(b,n)∈β k):yI w D h β (.ptr k 0 off) (.pointer (some ⟨b,off,none⟩))
 |parr (k i off sz:Nat) (xs:List AV) (st:Fl) (b n:Nat) (hk:h k=some (.arr sz xs st)) (hb:(b,n)∈β k) (hi:i<n) (ho:off<sz):
  yI w D h β (.ptr k i off) (.pointer (some ⟨b,i*sz+off,none⟩))
def xT (X:Nat->Prop) (β:uM) (b:Nat):Prop:=X b\/∃k n,(b,n)∈β k
def gF (w:World) (D:Nat->Prop) (h:yS) (β:uM) (nest:Bool) (xs:List AV) (f:Nat->Nat->Value):Prop:=
 ∀(i:Nat) (x:AV) (j:Nat) v,xs[i]? =some x->x.cells[j]? =some v->yI w D h β v (f i j)/\(nest=false->xM w D v (f i j))
theorem gF.ofF {xs:List AV} (H:∀(i:Nat) (x:AV) (j:Nat) v,xs[i]? =some x->x.cells[j]? =some v->xM w D v (f i j)):gF w D h β nest xs f:=
 λi x j v hx hv=>⟨.fz _ _ (H i x j v hx hv),λ_=>H i x j v hx hv⟩
theorem gF.toF {xs:List AV} (H:gF w D h β nest xs f) (A:nest=false) (i:Nat) (x:AV) (j:Nat) (v:AV) (hx:xs[i]? =some x) (hv:x.cells[j]? =some v):xM w D v (f i j):=
 (H i x j v hx hv).2 A
theorem gF.toV {xs:List AV} (H:gF w D h β nest xs f) (i:Nat) (x:AV) (j:Nat) (v:AV) (hx:xs[i]? =some x) (hv:x.cells[j]? =some v):yI w D h β v (f i j):=
 (H i x j v hx hv).1
def WA (w:World) (D:Nat->Prop) (h:yS) (β:uM) (k:Nat):xW->Prop
 | .box cs=>∃b c el,β k=[(b,0)]/\w.heap[b]? =some (.cells c el (0,0))/\c.size=ln cs/\(∀i,i<c.size->(c.getD i undef).oneCell'=true)/\∀(i:Nat) v,cs[i]? =some v->yI w D h β v (c.getD i undef)
 | .obj o=>β k=[(o.1,0)]/\∃x,w.heap[o.1]? =some x/\o.2 x
 | .arr sz xs st=>1<=sz/\xs.length<=dY/\(xs≠[]->β k≠[])/\(∀(i:Nat) (x:AV),xs[i]? =some x->ln x.cells=sz)/\
  (∀b n r,β k=(b,n)::r->n=ln xs/\(st.stale=false->∀B A,(B,A)∈r->A=0)/\∀B A,(B,A)∈r->A<ln xs)/\
  ∃f:Nat->Nat->Value,gF w D h β st.nest xs f/\(∀i j,i<ln xs->j<sz->(f i j).oneCell'=true)/\
   ∀b n,(b,n)∈β k->∃c el,w.heap[b]? =some (.cells c el (0,0))/\n*sz<=c.size/\(∀i j,i<n->j<sz->c[i*sz+j]? =some (f i j))/\∀i,i<c.size->(c.getD i undef).oneCell'=true
 | .dead=>β k=[]
structure jL (X:Nat->Prop) (h:yS) (β:uM) (w:World):Prop where
 ent:∀k e,h k=some e->WA w (xT X β) h β k e
 off:∀k,h k=none->β k=[]
 disj:∀k k' b n n',(b,n)∈β k->(b,n')∈β k'->k=k'
 free:∀k b n,(b,n)∈β k->¬X b
 lt:∀b,xT X β b->b<w.heap.size
structure EG (w:World) (D:Nat->Prop) (h:yS) (β:uM) (w':World) (D':Nat->Prop) (h':yS) (β':uM):Prop where
 size:w.heap.size<=w'.heap.size
 fz:∀b,b<w.heap.size->¬D b->w'.heap[b]? =w.heap[b]? /\¬D' b
 bs:∀k b n,(b,n)∈β k->wO w' b=wO w b
 key:∀k e,h k=some e->h' k=some .dead\/match e with
  | .dead=>False
  | .box _=>(∃cs',h' k=some (.box cs'))/\∀b n,(b,n)∈β k->(b,n)∈β' k
  | .obj _=>(∃cs',h' k=some (.obj cs'))/\∀b n,(b,n)∈β k->(b,n)∈β' k
  | .arr sz xs _=>(∃xs' st',h' k=some (.arr sz xs' st')/\xs.length<=xs'.length)/\∀b n,(b,n)∈β k->∃n',n<=n'/\(b,n')∈β' k
theorem Sz.evo {xs:List AV} {b:Nat} (hL:Sz w D xs b o sz f) (B:w.heap.size<=w'.heap.size)
 (A:∀b,b<w.heap.size->¬D b->w'.heap[b]? =w.heap[b]? /\¬D' b):Sz w' D' xs b o sz f:=
 ⟨zBy hL.lt B,(A b hL.lt hL.nd).2,hL.pos,hL.max,hL.wide,λi j hi hj=>(World.cell?_of_block (a:=⟨b,o+i*sz+j,none⟩) (A b hL.lt hL.nd).1).trans (hL.cell i j hi hj),hL.one⟩
theorem xM.evo (C:w.heap.size<=w'.heap.size) (B:∀b,b<w.heap.size->¬D b->w'.heap[b]? =w.heap[b]? /\¬D' b)
 {v:AV} (h:xM w D v c):xM w' D' v c:=by
 induction h with
 |bot c=>exact .bot c
 |gh n c=>exact .gh n c
 |s v=>exact .s v
 |agg cs c hl h1 _ A=>exact .agg cs c hl h1 A
 |nil a cap=>exact .nil a cap
 |nil1 a cap=>exact .nil1 a cap
 |sl nn xs b o sz cap f hx hL hc _ A=>exact .sl nn xs b o sz cap f hx (hL.evo C B) hc A
 |slc cap xs b o sz f hL hc _ A=>exact .slc cap xs b o sz f (hL.evo C B) hc A
 |fp xs b o sz i off f hL hi E _ A=>exact .fp xs b o sz i off f (hL.evo C B) hi E A
 |fm I p b x E hl hd hx G=>exact .fm I p b x E (zBy hl C) (B b hl hd).2 ((B b hl hd).1.trans hx) G
theorem yI.evo (E:EG w D h β w' D' h' β') {v:AV} (hv:yI w D h β v c):yI w' D' h' β' v c:=by
 induction hv with
 |fz v c M=>exact .fz v c (M.evo E.size E.fz)
 |agg cs c hl h1 _ G=>exact .agg cs c hl h1 G
 |fn f C c hl _ G=>exact .fn f C c hl G
 |tup vs c hl _ G=>exact .tup vs c hl G
 |dref k off len c hk h1=>exact .dref _ _ _ _ ((E.key k _ hk).resolve_right (λf=>f)) h1
 |dptr k i off c hk h1=>exact .dptr _ _ _ _ ((E.key k _ hk).resolve_right (λf=>f)) h1
 |ref k off len sz xs st b n cap hk hb I hc R=>
  rcases E.key k _ hk with hd|⟨⟨xs',st',hk',_⟩,hm⟩
  .exact .dref _ _ _ _ hd Z
  .obtain⟨L,B,A⟩:=hm b n hb;exact .ref k off len sz xs' st' b L cap hk' A (zBw I B) hc (by rw[E.bs k b n hb];exact R)
 |ref0 k off sz xs st a hk I=>
  rcases E.key k _ hk with hd|⟨⟨xs',st',hk',hl⟩,hm⟩
  .exact .dref _ _ _ _ hd Z
  .exact .ref0 k off sz xs' st' a hk' (zBw I hl)
 |pbox k off cs b n hk hb=>
  rcases E.key k _ hk with hd|⟨⟨cs',hk'⟩,hm⟩
  .exact .dptr _ _ _ _ hd Z
  .exact .pbox k off cs' b n hk' (hm b n hb)
 |parr k i off sz xs st b n hk hb hi O=>
  rcases E.key k _ hk with hd|⟨⟨xs',st',hk',hl⟩,hm⟩
  .exact .dptr _ _ _ _ hd Z
  .obtain⟨L,B,A⟩:=hm b n hb;exact .parr k i off sz xs' st' b L hk' A (zBy hi B) O
theorem gF.evo (E:EG w D h β w' D' h' β') {xs:List AV} (H:gF w D h β nest xs f):gF w' D' h' β' nest xs f:=
 λi x j v hx hv=>⟨(H i x j v hx hv).1.evo E,λA=>((H i x j v hx hv).2 A).evo E.size E.fz⟩
structure xU (X:Nat->Prop) (w:World) (h:yS) (β:uM) (w':World) (h':yS) (β':uM):Prop where
 size:w.heap.size<=w'.heap.size
 keep:∀b,b<w.heap.size->(∀k n,(b,n)∉β k)->w'.heap[b]? =w.heap[b]?
 own:∀k b n,(b,n)∈β' k->(∃k' n',(b,n')∈β k')\/w.heap.size<=b
 bs:∀k b n,(b,n)∈β k->wO w' b=wO w b
 key:∀k e,h k=some e->h' k=some .dead\/match e with
  | .dead=>False
  | .box _=>(∃cs',h' k=some (.box cs'))/\∀b n,(b,n)∈β k->(b,n)∈β' k
  | .obj _=>(∃cs',h' k=some (.obj cs'))/\∀b n,(b,n)∈β k->(b,n)∈β' k
  | .arr sz xs _=>(∃xs' st',h' k=some (.arr sz xs' st')/\xs.length<=xs'.length)/\∀b n,(b,n)∈β k->∃n',n<=n'/\(b,n')∈β' k
 hok:jL X h' β' w'
 os:w'.os=w.os
 tape:w'.tape=w.tape
 output:w'.output=w.output
theorem xU.evo (G:xU X w h β w' h' β'):EG w (xT X β) h β w' (xT X β') h' β' where
 size:=G.size
 fz b hb hd:=by
  have h1:∀k n,(b,n)∉β k:=λk n A=>hd (.inr ⟨k,n,A⟩)
  refine⟨G.keep b hb h1,?_⟩;rintro(hx|⟨k,n,A⟩)
  .exact hd (.inl hx)
  .rcases G.own k b n A with⟨B,C,h2⟩|h2
   .exact h1 _ _ h2
   .omega
 bs:=G.bs
 key:=G.key
theorem jA (h:yS) (β:uM):∀k e,h k=some e->h k=some .dead\/match e with
 | .dead=>False
 | .box _=>(∃A,h k=some (.box A))/\∀b n,(b,n)∈β k->(b,n)∈β k
 | .obj _=>(∃A,h k=some (.obj A))/\∀b n,(b,n)∈β k->(b,n)∈β k
 | .arr sz xs _=>(∃B st',h k=some (.arr sz B st')/\xs.length<=ln B)/\∀b n,(b,n)∈β k->∃C,n<=C/\(b,C)∈β k:=by grind
theorem xU.refl (H:jL X h β w):xU X w h β w h β:=
 ⟨zAw _,λ_ _ _=>rfl,λk _ n A=> .inl ⟨k,n,A⟩,λ_ _ _ _=>rfl,jA h β,H,rfl,rfl,rfl⟩
theorem jL.drew {w:World} (H:jL X h β w) (n:Nat):jL X h β {w with drawn:=n}:=by
 have E:∀{v c},yI w (xT X β) h β v c->yI {w with drawn:=n} (xT X β) h β v c:=λhv=>
  yI.evo (w:=w) (w':={w with drawn:=n}) (D':=xT X β) (h':=h) (β':=β) ⟨zAw _,λ_ _ hd=>⟨rfl,hd⟩,λ_ _ _ _=>rfl,jA h β⟩ hv
 have I:∀{v c},xM w (xT X β) v c->xM {w with drawn:=n} (xT X β) v c:=λhv=>xM.evo (w:=w) (w':={w with drawn:=n}) (D':=xT X β) (zAw _) (λ_ _ hd=>⟨rfl,hd⟩) hv
 refine⟨λk e M=>?_,H.off,H.disj,H.free,H.lt⟩;have:=H.ent k e M
 cases e with
 |dead=>exact this
 |box cs=>
  obtain⟨b,c,el,h1,h2,A,B,C⟩:=this;exact⟨b,c,el,h1,h2,A,B,λi v hv=>E (C i v hv)⟩
 |obj cs=>
  exact this
 |arr sz xs st=>
  obtain⟨h1,h2,A,B,C,f,G,L⟩:=this;exact⟨h1,h2,A,B,C,f,λi x j v hx hv=>⟨E (G i x j v hx hv).1,λO=>I ((G i x j v hx hv).2 O)⟩,L⟩
theorem xU.drew {w:World} (H:jL X h β w) (n:Nat):xU X w h β {w with drawn:=n} h β:=
 ⟨zAw _,λ_ _ _=>rfl,λk _ n A=> .inl ⟨k,n,A⟩,λ_ _ _ _=>rfl,jA h β,H.drew n,rfl,rfl,rfl⟩
theorem xU.trans {O:World} {E:yS} {R:uM} (H:jL X h β w) (G:xU X w h β w' h' β') (K:xU X w' h' β' O E R):xU X w h β O E R where
 size:=zBw G.size K.size
 keep b hb hn:=by
  rw[K.keep b (zBy hb G.size),G.keep b hb hn];intro k n A
  rcases G.own k b n A with⟨S,C,h2⟩|h2
  .exact hn _ _ h2
  .omega
 own k b n A:=by
  rcases K.own k b n A with⟨S,C,h2⟩|h2
  .exact G.own S b C h2
  .exact .inr (zBw G.size h2)
 bs k b n A:=by
  have hb:=H.lt b (.inr ⟨k,n,A⟩);by_cases hd:∃k n,(b,n)∈β' k
  .obtain⟨S,C,B⟩:=hd;rw[K.bs S b C B,G.bs k b n A]
  .rw[<-G.bs k b n A];unfold wO World.shape?;rw[K.keep b (zBy hb G.size) λk n A=>hd ⟨k,n,A⟩]
 key k e he:=by
  rcases G.key k e he with h1|h1
  .rcases K.key k _ h1 with h2|h2
   .exact .inl h2
   .exact h2.elim
  .cases e with
   |dead=>exact h1.elim
   |box cs=>
    obtain⟨⟨U,h2⟩,I⟩:=h1
    rcases K.key k _ h2 with h4|⟨h4,h5⟩
    .exact .inl h4
    .exact .inr ⟨h4,λb n A=>h5 b n (I b n A)⟩
   |obj cs=>
    obtain⟨⟨U,h2⟩,I⟩:=h1
    rcases K.key k _ h2 with h4|⟨h4,h5⟩
    .exact .inl h4
    .exact .inr ⟨h4,λb n A=>h5 b n (I b n A)⟩
   |arr sz xs st=>
    obtain⟨⟨Y,st',h2,hl⟩,I⟩:=h1
    rcases K.key k _ h2 with h4|⟨⟨xs'',st'',h4,hl'⟩,h5⟩
    .exact .inl h4
    .refine .inr ⟨⟨xs'',st'',h4,zBw hl hl'⟩,λb n A=>?_⟩;obtain⟨C,V,B⟩:=I b n A;obtain⟨W,M,L⟩:=h5 b C B;exact⟨W,zBw V M,L⟩
 hok:=K.hok
 os:=K.os.trans G.os
 tape:=K.tape.trans G.tape
 output:=K.output.trans G.output
section
inductive TD where
 |str (fs:List (Nat×Nat))
 |slice (e:Nat)
 |arr (n e:Nat)
 |int (k:IntKind)
 |bool
 |string
 |ptr (e:Nat)
 |func
 |other
structure TI where
 d:TD
 size:Nat
 bytes:Nat
 zero:List Value
def TD.agg:TD->Bool
 | .str _| .arr _ _=>true
 |_=>false
def XN:TypeDesc->TD
 | .struct fs=> .str (fs.toList.map λf=>(f.offset,f.type))
 | .slice e=> .slice e
 | .array n e=> .arr n e
 | .int k=> .int k
 | .bool=> .bool
 | .string=> .string
 | .pointer e=> .ptr e
 | .func .. => .func
 |_=> .other
def Ck (P:Program) (t:Nat):Option TI:=
 match P.info? t,P.underlying t with
 |some i,some u=>i.zero.map λz=>⟨XN u,i.size,i.bytes,z.cells.toList⟩
 |_,_=>none
def uZ (P:Program) (TT:List TI):Prop:=∀(t:Nat) ti,TT[t]? =some ti->Ck P t=some ti
theorem uG {t:Nat} {A:TI} (h:Ck P t=some A):∃i u z,P.info? t=some i/\P.underlying t=some u/\i.zero=some z/\A.d=XN u/\A.size=i.size/\A.bytes=i.bytes/\A.zero=z.cells.toList:=by
 unfold Ck at h;split at h
 .rename_i i u hi C
  cases B:i.zero with
  |none=>simp[B]at h
  |some z=>
   grind
 .cases h
section runs
variable {P:Program} {t:Nat} {ti:TI} (h:Ck P t=some ti) (w:World)
include h
def CH:∃i z,(typeInfo t).run P w= .ok i w/\i.size=ti.size/\i.bytes=ti.bytes/\i.zero=some z/\z.cells.toList=ti.zero:=by
 obtain⟨i,u,z,hi,_,C,_,B,hb,A⟩:=uG h;exact⟨i,z,by simp[typeInfo,hi],B.symm,hb.symm,C,A.symm⟩
def qK:(sizeOf t).run P w= .ok ti.size w:=by
 obtain⟨i,z,A,B,_⟩:=CH h w;simp[sizeOf,A,B]
def Ak:∃z,(zeroValue t).run P w= .ok z w/\z.cells.toList=ti.zero:=by
 obtain⟨i,z,B,_,_,C,A⟩:=CH h w;exact⟨z,by simp[zeroValue,B,C],A⟩
def wH:∃u,(underlying t).run P w= .ok u w/\XN u=ti.d:=by
 obtain⟨i,u,z,_,A,_,hd,_⟩:=uG h;exact⟨u,by simp[underlying,A],hd.symm⟩
def Qe:(isAgg t).run P w= .ok ti.d.agg w:=by
 obtain⟨u,A,hd⟩:=wH h w;rw[<-hd];simp only[isAgg,Sem.run_bind,A,Result.andThen_ok]
 cases u<;>rfl
end runs
def CI {t:Nat} (w:World) (A:P.underlying t=some u):(underlying t).run P w= .ok u w:=by simp[underlying,A]
def uB (h:XN u= .slice e):u= .slice e:=by cases u<;>simp[XN]at h;rw[h]
def jl (h:XN u= .arr n e):u= .array n e:=by cases u<;>simp[XN]at h;rw[h.1,h.2]
def HJ {k:IntKind} (h:XN u= .int k):u= .int k:=by cases u<;>simp[XN]at h;rw[h]
def nt (h:XN u= .bool):u= .bool:=by cases u<;>simp[XN]at h;rfl
def fh (h:XN u= .string):u= .string:=by cases u<;>simp[XN]at h;rfl
def al (h:XN u= .str fs):∃f,u= .struct f/\f.toList.map (λf=>(f.offset,f.type))=fs:=by
 cases u with
 |struct f=>exact⟨f,rfl,by simpa [XN]using h⟩
 |_=>simp[XN]at h
structure St where
 tm:List (Nat×AV)
 h:List (Nat×xW)
def zK:List (Nat×AV)->Nat->AV
 | [],_=> .bot
 |(k,v)::r,t=>bif Nat.beq t k then v else zK r t
def zD:List (Nat×xW)->Nat->Option xW
 | [],_=>none
 |(k,e)::r,t=>bif Nat.beq t k then some e else zD r t
def over (d:List (Nat×xW)) (h:yS):yS:=λk=>match zD d k with
 |some e=>some e
 |none=>h k
def yX (A:Nat->AV):Operand->AV
 | .tmp t=>A t
 | .const v=> .s v
 | .func f=> .fn f []
 | .global _=> .bot
def fI (op:Op):List Nat:=op.operands.toList.filterMap λ| .tmp t=>some t|_=>none
def aG (P:Program) (N:Value->World->Prop):Result Next->Prop
 | .ok (.value c) w'=>N c w'
 | .ok .skip w'=>N undef w'
 | .ok (.enter f args) w'=>Calls P f args w' λe A=>∃c,e= .returned c/\N c A
 |_=>False
def J6 (P:Program) (X:Nat->Prop) (A:Nat->AV) (h:yS) (op:Op) (v:AV) (h':yS):Prop:=
 ∀(o:Oper) (a:Act) (w:World) (β:uM),o.op=op->jL X h β w->(∀t,yI w (xT X β) h β (A t) (a.eval (.tmp t)))->
  aG P (λc w'=>∃β',xU X w h β w' h' β'/\yI w' (xT X β') h' β' v c) ((execOp a.eval o).run P w)
structure wX (P:Program) (st:St) (op:Op) (v:AV) (d:List (Nat×xW)) (r nw:List Nat):Prop where
 run:∀(X:Nat->Prop) (tm:Nat->AV) (h:yS),(∀t,t∈fI op->tm t=zK st.tm t)->(∀k,k∈r->h k=zD st.h k)->(∀k,k∈nw->h k=none)->J6 P X tm h op v (over d h)
section
variable {w:World} {D:Nat->Prop} {h:yS} {β:uM}
def PF {A:Nat->AV} (H:∀t,yI w D h β (A t) (a.eval (.tmp t))) (x:Operand):yI w D h β (yX A x) (a.eval x):=by
 cases x with
 |tmp t=>exact H t
 |const v=>exact .fz _ _ (.s v)
 |global g=>exact .fz _ _ (.bot _)
 |func f=>exact .fn f [] #[] Z (λi v hv=>by simp at hv)
def dh {op:Op} {B A:Nat->AV} (H:∀t,t∈fI op->B t=A t) (hx:x∈op.operands):yX B x=yX A x:=by
 cases x with
 |tmp t=>exact H t (by simp only[fI,List.mem_filterMap];exact⟨.tmp t,by simpa using hx,rfl⟩)
 |_=>rfl
theorem yI.s_inv {x:Value} (hv:yI w D h β (.s x) c):c=x:=by
 cases hv with
 |fz _ _ A=>cases A;rfl
def fC {op:Op} {A:Nat->AV} {st:St} (H:∀t,yI w D h β (A t) (a.eval (.tmp t))) (B:∀t,t∈fI op->A t=zK st.tm t) (hx:x∈op.operands) {v:AV}
 (hv:yX (zK st.tm) x=v):yI w D h β v (a.eval x):=by
 rw[<-hv,<-dh B hx];exact PF H x
def vP {op:Op} {A:Nat->AV} {st:St} (H:∀t,yI w D h β (A t) (a.eval (.tmp t))) (B:∀t,t∈fI op->A t=zK st.tm t) (hx:x∈op.operands) {v:Value}
 (hv:yX (zK st.tm) x= .s v):a.eval x=v:=(fC H B hx hv).s_inv
end
def dZ (h:yS):over [] h=h:=rfl
def yZ {st:St} {op:Op} {v:AV} {r:List Nat}
 (H:∀(o:Oper) (X:Nat->Prop) (A:Nat->AV) (h:yS) (w:World) (β:uM) (a:Act),o.op=op->(∀t,t∈fI op->A t=zK st.tm t)->(∀k,k∈r->h k=zD st.h k)->jL X h β w->
 (∀t,yI w (xT X β) h β (A t) (a.eval (.tmp t)))->∃c,(execOp a.eval o).run P w= .ok (.value c) w/\yI w (xT X β) h β v c):wX P st op v [] r []:=by
 refine⟨?_⟩;intro X A h E I _ o a w β G B C;obtain⟨c,hc,hv⟩:=H o X A h w β a G E I B C;rw[hc,dZ];exact⟨β,xU.refl B,hv⟩
section ops
variable {P:Program} {TT:List TI} {st:St}
theorem ol {v:AV} (hv:yX (zK st.tm) x=v):wX P st (.move x) v [] [] []:=
 yZ λo X L h w β a A C _ _ B=>by
  obtain⟨d0,o0,M,I,E,G⟩:=o;dsimp only at A;subst A;exact⟨a.eval x,rfl,fC B C uO hv⟩
theorem Lb {v:AV} (hv:yX (zK st.tm) x=v):wX P st (.assign x) v [] [] []:=
 yZ λo X L h w β a A C _ _ B=>by
  obtain⟨d0,o0,M,I,E,G⟩:=o;dsimp only at A;subst A;exact⟨a.eval x,rfl,fC B C uO hv⟩
theorem ml {c:Operand} {t:Bool} {v:AV} (hc:yX (zK st.tm) c= .s (.bool t)) (hv:(bif t then yX (zK st.tm) x else yX (zK st.tm) y)=v):wX P st (.pick c x y) v [] [] []:=
 yZ λo X L h w β a C B _ _ A=>by
  obtain⟨d0,o0,M,I,E,G⟩:=o;dsimp only at C;subst C;have h1:=vP A B (x:=c) uO hc;refine⟨if t then a.eval x else a.eval y,by simp[execOp,h1,asBool],?_⟩;cases t
  all_goals exact fC A B uO hv
theorem CJ {vs:List AV} {v:AV} (hx:yX (zK st.tm) x= .tup vs) (hv:vs[i]? =some v):wX P st (.extract x i) v [] [] []:=
 yZ λo X S h w β a A G _ _ B=>by
  obtain⟨d0,o0,U,R,M,O⟩:=o;dsimp only at A;subst A;have h1:=fC B G (x:=x) uO hx;have hi:=(zBj.1 hv).1;generalize C:a.eval x=L at h1
  cases h1 with
  |fz _ _ E=>cases E
  |tup _ c hl hh=>
   obtain⟨u,hc⟩:∃u,c[i]? =some u:=⟨c[i],by simp[show i<c.size by omega]⟩;have I:c.getD i undef=u:=by simp[zBu,hc]
   exact⟨u,by simp[execOp,Instr.extract,C,hc],I▸hh i v hv⟩
def aB:IntKind->Int->Prop
 | .i64,n=> -9223372036854775808<=n/\n<=9223372036854775807
 | .u8,n=>0<=n/\n<=255
 | .i32,n=> -2147483648<=n/\n<=2147483647
 | .u32,n=>0<=n/\n<=4294967295
 | .u64,n=>0<=n/\n<=18446744073709551615
 | .i8,n=> -128<=n/\n<=127
 | .i16,n=> -32768<=n/\n<=32767
 | .u16,n=>0<=n/\n<=65535
theorem kI {k:IntKind} {n:Int} (h:aB k n):k.wrap n=n:=by
 cases k<;>first
  |exact IntWalk.i64_in n h
  |exact IntWalk.u8_in n h
  |exact IntWalk.i32_in n h
  |exact IntWalk.u32_in n h
  |exact IntWalk.u64_in n h
  |exact IntWalk.i8_in n h
  |exact IntWalk.i16_in n h
  |exact IntWalk.u16_in n h
def uV {k:IntKind} {n:Int} {v:Value} (hx:yX (zK st.tm) x= .s (.int k m)) (G:yX (zK st.tm) y= .s (.int k n))
 (H:∀w,(binOp op tx (.int k m) (.int k n)).run P w= .ok v w):wX P st (.binOp op tx x y ty) (.s v) [] [] []:=
 yZ λo X O h w β a E C _ _ B=>by
  obtain⟨d0,o0,R,M,I,L⟩:=o;dsimp only at E;subst E;have h1:=vP B C (x:=x) uO hx;have h2:=vP B C (x:=y) uO G;refine⟨v,?_,.fz _ _ (.s v)⟩
  have A:(eqGuard op tx x y (.int k m) (.int k n)).run P w= .ok () w:=by
   unfold eqGuard;cases op<;>rfl
  simp only[execOp,h1,h2,Sem.run_bind,A,Result.andThen_ok,H,Sem.run_pure]
section
variable {tx ty:Nat} {x y:Operand} {k:IntKind} {m n:Int} (hx:yX (zK st.tm) x= .s (.int k m)) (hy:yX (zK st.tm) y= .s (.int k n))
include hx hy
def PG (A:aB k (m+n)):wX P st (.binOp .add tx x y ty) (.s (.int k (m+n))) [] [] []:=uV hx hy λw=>by simp[binOp,Op.intArith,kI A]
def rt (A:aB k (m-n)):wX P st (.binOp .sub tx x y ty) (.s (.int k (m-n))) [] [] []:=uV hx hy λw=>by simp[binOp,Op.intArith,kI A]
def PH (A:aB k (m*n)):wX P st (.binOp .mul tx x y ty) (.s (.int k (m*n))) [] [] []:=uV hx hy λw=>by simp[binOp,Op.intArith,kI A]
def Zt (B:aB k (m.tdiv n)) (A:n≠0):wX P st (.binOp .quo tx x y ty) (.s (.int k (m.tdiv n))) [] [] []:=uV hx hy λw=>by simp[binOp,Op.intDiv,A,kI B]
def Yt (A:n≠0):wX P st (.binOp .rem tx x y ty) (.s (.int k (m.tmod n))) [] [] []:=uV hx hy λw=>by simp[binOp,Op.intDiv,A]
theorem PI:wX P st (.binOp .and tx x y ty) (.s (.int k (k.wrap (BitVec.ofInt k.bits m &&& BitVec.ofInt k.bits n).toNat))) [] [] []:=uV hx hy λw=>by simp only[binOp,Op.intBits];simp
theorem HL:wX P st (.binOp .or tx x y ty) (.s (.int k (k.wrap (BitVec.ofInt k.bits m ||| BitVec.ofInt k.bits n).toNat))) [] [] []:=uV hx hy λw=>by simp only[binOp,Op.intBits];simp
def Xt:wX P st (.binOp .xor tx x y ty) (.s (.int k (k.wrap (BitVec.ofInt k.bits m ^^^ BitVec.ofInt k.bits n).toNat))) [] [] []:=uV hx hy λw=>by simp only[binOp,Op.intBits];simp
def Kb:wX P st (.binOp .andNot tx x y ty) (.s (.int k (k.wrap (BitVec.ofInt k.bits m &&& ~~~BitVec.ofInt k.bits n).toNat))) [] [] []:=uV hx hy λw=>by simp only[binOp,Op.intBits];simp
def HM:wX P st (.binOp .eql tx x y ty) (.s (.bool (m==n))) [] [] []:=uV hx hy λw=>by simp[binOp,Op.intCmp]
def HN:wX P st (.binOp .neq tx x y ty) (.s (.bool (m != n))) [] [] []:=uV hx hy λw=>by simp[binOp,Op.intCmp]
def HO:wX P st (.binOp .lss tx x y ty) (.s (.bool (decide (m<n)))) [] [] []:=uV hx hy λw=>by simp[binOp,Op.intCmp]
def HP:wX P st (.binOp .leq tx x y ty) (.s (.bool (decide (m<=n)))) [] [] []:=uV hx hy λw=>by simp[binOp,Op.intCmp]
def HQ:wX P st (.binOp .gtr tx x y ty) (.s (.bool (decide (n<m)))) [] [] []:=uV hx hy λw=>by simp[binOp,Op.intCmp]
def HR:wX P st (.binOp .geq tx x y ty) (.s (.bool (decide (n<=m)))) [] [] []:=uV hx hy λw=>by simp[binOp,Op.intCmp]
end
def YV {k L:IntKind} {n:Int} {v:Int} (A:op= .shl/\v=k.wrap (m*2 ^ (min n.toNat k.bits))\/op= .shr/\v=m.fdiv (2 ^ (min n.toNat k.bits)))
 (hx:yX (zK st.tm) x= .s (.int k m)) (I:yX (zK st.tm) y= .s (.int L n)) (R:0<=n):wX P st (.binOp op tx x y ty) (.s (.int k v)) [] [] []:=
 yZ λo X U h w β a E C _ _ B=>by
  obtain⟨d0,o0,V,S,M,O⟩:=o;dsimp only at E;subst E;have h1:=vP B C (x:=x) uO hx;have h2:=vP B C (x:=y) uO I;have G:¬n<0:=by omega
  refine⟨.int k v,?_,.fz _ _ (.s _)⟩
  rcases A with⟨rfl,rfl⟩|⟨rfl,rfl⟩<;>simp[execOp,h1,h2,eqGuard,binOp,Op.shift,G]
def Wt {b:Bool} (hx:yX (zK st.tm) x= .s (.bool b)):wX P st (.unOp .not tx x) (.s (.bool !b)) [] [] []:=
 yZ λo X L h w β a A C _ _ B=>by
  obtain⟨d0,o0,M,I,E,G⟩:=o;dsimp only at A;subst A;have h1:=vP B C (x:=x) uO hx;exact⟨_,by simp[execOp,h1,Op.unary],.fz _ _ (.s _)⟩
def Vt {k:IntKind} {n:Int} (hx:yX (zK st.tm) x= .s (.int k n)) (E:aB k (-n)):wX P st (.unOp .neg tx x) (.s (.int k (-n))) [] [] []:=
 yZ λo X M h w β a A C _ _ B=>by
  obtain⟨d0,o0,O,L,G,I⟩:=o;dsimp only at A;subst A;have h1:=vP B C (x:=x) uO hx;exact⟨.int k (-n),by simp[execOp,h1,Op.unary,Op.intArith,kI E],.fz _ _ (.s _)⟩
def CK {C A:Nat} {k B:IntKind} {n:Int} {ts S:TI} (O:uZ P TT) (Y:TT[C]? =some ts) (hd:TT[A]? =some S) (hk:S.d= .int B) (hx:yX (zK st.tm) x= .s (.int k n)):
  wX P st (.convert C A x) (.s (.int B (B.wrap n))) [] [] []:=
 yZ λo X tm h w β a R W _ _ V=>by
  obtain⟨M,ac,U,pos,E,G⟩:=o;dsimp only at R;subst R;have h1:=vP V W (x:=x) uO hx;obtain⟨u,hu,_⟩:=wH (O _ _ Y) w;obtain⟨u',L,I⟩:=wH (O _ _ hd) w;obtain rfl:=HJ (I.trans hk);exact⟨.int B (B.wrap n),by simp[execOp,convert,h1,hu,L,Conv.intToInt],.fz _ _ (.s _)⟩
def JG {p q:Bool} {v:Bool} {I:TI} (L:uZ P TT) (O:TT[tx]? =some I) (hd:I.d= .bool) (hx:yX (zK st.tm) x= .s (.bool p)) (S:yX (zK st.tm) y= .s (.bool q))
 (B:op= .eql/\v=(p==q)\/op= .neq/\v=(p != q)):wX P st (.binOp op tx x y ty) (.s (.bool v)) [] [] []:=
 yZ λo X Y h w β a G E _ _ C=>by
  obtain⟨d0,o0,y0,W,U,V⟩:=o;dsimp only at G;subst G;have h1:=vP C E (x:=x) uO hx;have h2:=vP C E (x:=y) uO S;obtain⟨u,R,A⟩:=wH (L _ _ O) w;obtain rfl:=nt (A.trans hd)
  have M:(Op.equal tx (.bool p) (.bool q)).run P w= .ok (p==q) w:=by
   show(Op.equalIn (9999+1) tx (.bool p) (.bool q)).run P w=_
   unfold Op.equalIn;simp[R]
  refine⟨.bool v,?_,.fz _ _ (.s _)⟩
  rcases B with⟨rfl,rfl⟩|⟨rfl,rfl⟩<;>simp[execOp,h1,h2,eqGuard,binOp,M,bne]
def HS {f:Nat} {cap:Array Operand}:wX P st (.makeFunc (.func f) #[] cap) (.fn f (cap.toList.map (yX (zK st.tm)))) [] [] []:=
 yZ λo X L h w β a A C _ _ B=>by
  obtain⟨d0,o0,M,I,E,G⟩:=o;dsimp only at A;subst A;refine⟨.func (.func f) #[] (cap.map a.eval),by simp[execOp,Instr.makeFunc],.fn _ _ _ zV λi v hv=>?_⟩;simp only[zAz,zBa]at hv;obtain⟨x,hx,rfl⟩:=hv
  have:(cap.map a.eval).getD i undef=a.eval x:=by
   have:cap[i]? =some x:=by simpa using hx
   simp[zBu,this]
  rw[this];refine fC B C ?_ Z
  have:x∈cap:=by
   have:=zCc hx;simpa using this
  simp[Op.operands,this]
end ops
end
def cY (β:uM) (k:Nat) (l:List (Nat×Nat)):uM:=λj=>if j=k then l else β j
variable {TT:List TI}{te tf ti:TI}
def yL (β:uM) (k:Nat) (l:List (Nat×Nat)):cY β k l k=l:=by simp[cY]
def qT (β:uM) (l:List (Nat×Nat)) (h:j≠k):cY β k l j=β j:=by simp[cY,h]
def bh (k:Nat):Nat.beq k k=true:=by simp
theorem JH (h:j≠k):Nat.beq j k=false:=by grind [Nat.beq,Nat.eq_of_beq_eq_true]
def qU (k:Nat) (e:xW) (h:yS):over [(k,e)] h k=some e:=by simp[over,zD]
def aH {k:Nat} (e:xW) (h:yS) (hj:j≠k):over [(k,e)] h j=h j:=by simp[over,zD,JH hj]
theorem WA.evo (E:EG w D h β w' D' h' β') {e:xW} (hb:β' k=β k) (hk:∀b n,(b,n)∈β k->w'.heap[b]? =w.heap[b]?)
 (H:WA w D h β k e):WA w' D' h' β' k e:=by
 cases e with
 |dead=>exact hb.trans H
 |box cs=>
  obtain⟨b,c,el,h1,h2,G,B,I⟩:=H;exact⟨b,c,el,hb.trans h1,(hk b 0 (by rw[h1];simp)).trans h2,G,B,λi v hv=>(I i v hv).evo E⟩
 |obj cs=>
  simp_all [yS,uM,WA]
 |arr sz xs st=>
  obtain⟨h1,h2,G,B,I,f,L,M,O⟩:=H;refine⟨h1,h2,by rwa [hb],B,by rwa [hb],f,L.evo E,M,λb n C=>?_⟩;rw[hb]at C;obtain⟨c,el,R,A⟩:=O b n C;exact⟨c,el,(hk b n C).trans R,A⟩
theorem xU.step (H:jL X h β w) (k:Nat) (O:xW) (l:List (Nat×Nat)) (L:w.heap.size<=w'.heap.size)
 (U:∀b,b<w.heap.size->(∀n,(b,n)∉β k)->w'.heap[b]? =w.heap[b]?) (os:w'.os=w.os) (ar:w'.tape=w.tape) (W:w'.output=w.output)
 (Y:∀b n,(b,n)∈l->(∃C,(b,C)∈β k)\/(w.heap.size<=b/\b<w'.heap.size)) (bs:∀b n,(b,n)∈β k->wO w' b=wO w b)
 (ax:∀e,h k=some e->O= .dead\/match e with
 | .dead=>False
 | .box _=>(∃A,O= .box A)/\∀b n,(b,n)∈β k->(b,n)∈l
 | .obj _=>(∃A,O= .obj A)/\∀b n,(b,n)∈β k->(b,n)∈l
 | .arr sz xs _=>(∃M st',O= .arr sz M st'/\xs.length<=ln M)/\∀b n,(b,n)∈β k->∃C,n<=C/\(b,C)∈l)
 (au:EG w (xT X β) h β w' (xT X (cY β k l)) (over [(k,O)] h) (cY β k l)->WA w' (xT X (cY β k l)) (over [(k,O)] h) (cY β k l) k O):
  xU X w h β w' (over [(k,O)] h) (cY β k l):=by
 have ag:∀j b n,(b,n)∈cY β k l j->(∃k' C,(b,C)∈β k')\/w.heap.size<=b:=by
  intro j b n B;by_cases hj:j=k
  .subst hj;rw[yL]at B
   grind
  .rw[qT _ _ hj]at B;exact .inl ⟨_,_,B⟩
 have G:∀j b n C,j≠k->(b,n)∈β j->(b,C)∉β k:=λj b n C hj h1 h2=>hj (H.disj _ _ _ _ _ h1 h2)
 have V:∀b,b<w.heap.size->(∀k n,(b,n)∉β k)->w'.heap[b]? =w.heap[b]? :=λb hb hn=>U b hb (hn k)
 have ap:∀j b n,(b,n)∈β j->wO w' b=wO w b:=by
  intro j b n B;by_cases hj:j=k
  .grind
  .unfold wO World.shape?;rw[U b (H.lt b (.inr ⟨j,n,B⟩)) λC h1=>G j b n C hj B h1]
 have ac:∀j e,h j=some e->over [(k,O)] h j=some .dead\/match e with
   | .dead=>False
   | .box _=>(∃A,over [(k,O)] h j=some (.box A))/\∀b n,(b,n)∈β j->(b,n)∈cY β k l j
   | .obj _=>(∃A,over [(k,O)] h j=some (.obj A))/\∀b n,(b,n)∈β j->(b,n)∈cY β k l j
   | .arr sz xs _=>(∃M st',over [(k,O)] h j=some (.arr sz M st')/\xs.length<=ln M)/\∀b n,(b,n)∈β j->∃C,n<=C/\(b,C)∈cY β k l j:=by
  intro j e R;by_cases hj:j=k
  .subst hj;rw[qU,yL]
   rcases ax e R with h1|h1
   .exact .inl (by rw[h1])
   .cases e with
    |dead=>exact h1.elim
    |box cs=>obtain⟨⟨A,h2⟩,I⟩:=h1;exact .inr ⟨⟨A,by rw[h2]⟩,I⟩
    |obj cs=>obtain⟨⟨A,h2⟩,I⟩:=h1;exact .inr ⟨⟨A,by rw[h2]⟩,I⟩
    |arr sz xs st=>obtain⟨⟨M,st',h2,av⟩,I⟩:=h1;exact .inr ⟨⟨M,st',by rw[h2],av⟩,I⟩
  .rw[aH _ _ hj,qT _ _ hj];exact jA h β j e R
 have E:EG w (xT X β) h β w' (xT X (cY β k l)) (over [(k,O)] h) (cY β k l):=by
  refine⟨L,λb hb hd=>?_,ap,ac⟩;have h1:∀k n,(b,n)∉β k:=λk n B=>hd (.inr ⟨k,n,B⟩)
  refine⟨V b hb h1,?_⟩;rintro(hx|⟨j,n,B⟩)
  .exact hd (.inl hx)
  .rcases ag j b n B with⟨k',C,h2⟩|h2
   .exact h1 _ _ h2
   .omega
 refine⟨L,V,ag,ap,ac,⟨λj e R=>?_,λj R=>?_,λj j' b n C h1 h2=>?_,λj b n B hx=>?_,λb hd=>?_⟩,os,ar,W⟩
 .by_cases hj:j=k
  .subst hj;rw[qU]at R;cases R;exact au E
  .rw[aH _ _ hj]at R;exact(H.ent j e R).evo E (qT _ _ hj) λb n B=>U b (H.lt b (.inr ⟨j,n,B⟩)) λC h1=>G j b n C hj B h1
 .by_cases hj:j=k
  .subst hj;rw[qU]at R;cases R
  .rw[aH _ _ hj]at R;rw[qT _ _ hj];exact H.off j R
 .by_cases hj:j=k<;>by_cases S:j'=k
  .rw[hj,S]
  .subst hj;rw[yL]at h1;rw[qT _ _ S]at h2
   rcases Y b n h1 with⟨m,I⟩|⟨I,_⟩
   .exact absurd I (G j' b C m S h2)
   .have:=H.lt b (.inr ⟨_,_,h2⟩);omega
  .subst S;rw[yL]at h2;rw[qT _ _ hj]at h1
   rcases Y b C h2 with⟨m,I⟩|⟨I,_⟩
   .exact absurd I (G j b n m hj h1)
   .have:=H.lt b (.inr ⟨_,_,h1⟩);omega
  .rw[qT _ _ hj]at h1;rw[qT _ _ S]at h2;exact H.disj _ _ _ _ _ h1 h2
 .by_cases hj:j=k
  .subst hj;rw[yL]at B
   rcases Y b n B with⟨m,I⟩|⟨I,_⟩
   .exact H.free _ _ _ I hx
   .have:=H.lt b (.inl hx);omega
  .rw[qT _ _ hj]at B;exact H.free _ _ _ B hx
 .rcases hd with hx|⟨j,n,B⟩
  .exact zBy (H.lt b (.inl hx)) L
  .by_cases hj:j=k
   .subst hj;rw[yL]at B
    rcases Y b n B with⟨m,I⟩|⟨_,I⟩
    .exact zBy (H.lt b (.inr ⟨_,_,I⟩)) L
    .exact I
   .rw[qT _ _ hj]at B;exact zBy (H.lt b (.inr ⟨_,_,B⟩)) L
theorem xU.new (H:jL X h β w) {k:Nat} (hk:h k=none) (A:xW) (n:Nat) (c:Array Value) (el:Nat)
 (C:EG w (xT X β) h β (w.alloc (.cells c el)) (xT X (cY β k [(w.heap.size,n)])) (over [(k,A)] h) (cY β k [(w.heap.size,n)])->
 WA (w.alloc (.cells c el)) (xT X (cY β k [(w.heap.size,n)])) (over [(k,A)] h) (cY β k [(w.heap.size,n)]) k A):
  xU X w h β (w.alloc (.cells c el)) (over [(k,A)] h) (cY β k [(w.heap.size,n)]):=by
 refine xU.step H k A _ zV (λb hb _=>heap_alloc_old w _ b hb) Z Z Z (λb n B=>?_) (λb n B=>?_) (λe E=>?_) C
 .simp at B;refine .inr ?_;simp[B.1]
 .rw[H.off k hk]at B;simp at B
 .rw[hk]at E;cases E
theorem xU.newBox (H:jL X h β w) {k:Nat} (hk:h k=none) (c:Array Value) (el:Nat) (cs:List AV) (hl:c.size=ln cs) (h1:∀i,i<c.size->(c.getD i undef).oneCell'=true)
 (hv:∀(i:Nat) v,cs[i]? =some v->yI w (xT X β) h β v (c.getD i undef)):
  ∃β',xU X w h β (w.alloc (.cells c el)) (over [(k,.box cs)] h) β'/\yI (w.alloc (.cells c el)) (xT X β') (over [(k,.box cs)] h) β' (.ptr k 0 0) (.pointer (some ⟨w.heap.size,0,none⟩)):=
 ⟨_,xU.new H hk (.box cs) 0 c el λE=>⟨_,c,el,yL _ _ _,heap_alloc_new w _,hl,h1,λi v hx=>(hv i v hx).evo E⟩,
  .pbox k 0 cs w.heap.size 0 (qU _ _ _) (by rw[yL];simp)⟩
def kD (c:Array Value):Prop:=∀v,v∈c.toList->v.oneCell'=true
theorem kD.get {c:Array Value} (h:kD c):∀i,i<c.size->(c.getD i undef).oneCell'=true:=λi hi=>by
 have e:c.getD i undef=c[i]:=by simp[Array.getD,hi]
 rw[e];exact h _ zV
theorem kD.of {c:Array Value} (h:∀i,i<c.size->(c.getD i undef).oneCell'=true):kD c:=λv hv=>by
 obtain⟨i,hi,rfl⟩:=zC8 hv;have hi':i<c.size:=by simpa using hi
 have:=h i hi';simpa [Array.getD,hi']using this
theorem kD.app {a b:Array Value} (A:kD a) (hb:kD b):kD (a++b):=λv hv=>by
 rw[Array.toList_append,zBc]at hv;exact hv.elim (A v) (hb v)
theorem kD.arr {l:List Value} (h:∀v∈l,v.oneCell'=true):kD l.toArray:=λv hv=>h v DZ
theorem CM (h:i<z.size):z[i]! ∈z.toList:=by grind
theorem kD.zero (h:∀v,v∈z.toList->v.oneCell'=true) (n:Nat):kD (Builtin.zeroCells z n):=λv hv=>by
 simp only[Builtin.zeroCells,zE7,Array.toList_range,zCa,zBi]at hv;obtain⟨i,hi,rfl⟩:=hv
 have B:0<z.size:=by
  rcases Nat.eq_zero_or_pos z.size with A|A
  .rw[A,Nat.mul_zero]at hi;omega
  .exact A
 exact h _ (CM (zGb _ B))
def CN {c:Array Value} (G:c.size=n*sz) (E:1<=sz) (C:∀i j,i<n->j<sz->c[i*sz+j]? =some (f i j)) (h1:∀i j,i<n->j<sz->(f i j).oneCell'=true):∀i,i<c.size->(c.getD i undef).oneCell'=true:=λi hi=>by
 have A:i % sz<sz:=zGb _ (by omega);have hd:i/sz<n:=by rw[Nat.div_lt_iff_lt_mul (by omega)];omega
 have e:i/sz*sz+i % sz=i:=by rw[zEs];exact Nat.div_add_mod i sz
 have h2:=C (i/sz) (i % sz) hd A;rw[e]at h2;have B:c.getD i undef=f (i/sz) (i % sz):=by simp[zBu,h2]
 rw[B];exact h1 _ _ hd A
theorem kD.made (h:∀v,v∈z.toList->v.oneCell'=true) (A:0<z.size) (n:Nat):kD (madeCells z n):=λv hv=>by
 simp only[madeCells,zE7,Array.toList_range,zCa,zBi]at hv;obtain⟨i,hi,rfl⟩:=hv;exact h _ (CM (zGb _ A))
theorem xU.newArr (H:jL X h β w) {k:Nat} (hk:h k=none) (c:Array Value) (el sz:Nat) (xs:List AV) (cap:Nat) (f:Nat->Nat->Value) (I:1<=sz) (G:ln xs<=dY)
 (A:ln xs<=cap) (hc:cap*sz=c.size) (B:∀i,i<c.size->(c.getD i undef).oneCell'=true) (M:∀(i:Nat) (x:AV),xs[i]? =some x->ln x.cells=sz) (C:∀i j,i<ln xs->j<sz->c[i*sz+j]? =some (f i j)) (h1:∀i j,i<ln xs->j<sz->(f i j).oneCell'=true)
 (hv:∀(i:Nat) (x:AV) (j:Nat) v,xs[i]? =some x->x.cells[j]? =some v->xM w (xT X β) v (f i j)):
  ∃β',xU X w h β (w.alloc (.cells c el)) (over [(k,.arr sz xs false)] h) β'/\yI (w.alloc (.cells c el)) (xT X β') (over [(k,.arr sz xs false)] h) β' (.ref k 0 (ln xs)) (.slice (some ⟨w.heap.size,0,none⟩) (ln xs) cap):=by
 refine⟨_,xU.new H hk (.arr sz xs false) (ln xs) c el λE=>⟨I,G,λ_=>by rw[yL];simp,M,λb n r L=>?_,f,.ofF λi x j v hx O=>(hv i x j v hx O).evo E.size E.fz,h1,λb n hb=>?_⟩,?_⟩
 .rw[yL]at L
  grind
 .rw[yL]at hb;simp at hb;obtain⟨rfl,rfl⟩:=hb;exact⟨c,el,heap_alloc_new w _,zBw (zBe _ A) (zCx hc),C,B⟩
 .have:=yI.ref (w:=w.alloc (.cells c el)) (D:=xT X (cY β k [(w.heap.size,ln xs)])) (h:=over [(k,.arr sz xs false)] h) (β:=cY β k [(w.heap.size,ln xs)]) k 0 (ln xs) sz xs false w.heap.size (ln xs) cap (qU _ _ _)
   (by rw[yL];simp) (by omega) A (by
    have:wO (w.alloc (.cells c el)) w.heap.size=c.size:=by
     unfold wO World.shape?;rw[heap_alloc_new];rfl
    rw[this];simpa using hc)
  simpa using this
theorem xU.newArrN (H:jL X h β w) {k:Nat} (hk:h k=none) (c:Array Value) (el sz:Nat) (xs:List AV) (cap:Nat) (f:Nat->Nat->Value) (I:1<=sz) (G:ln xs<=dY)
 (A:ln xs<=cap) (hc:cap*sz=c.size) (B:∀i,i<c.size->(c.getD i undef).oneCell'=true) (M:∀(i:Nat) (x:AV),xs[i]? =some x->ln x.cells=sz) (C:∀i j,i<ln xs->j<sz->c[i*sz+j]? =some (f i j)) (h1:∀i j,i<ln xs->j<sz->(f i j).oneCell'=true)
 (hv:∀(i:Nat) (x:AV) (j:Nat) v,xs[i]? =some x->x.cells[j]? =some v->yI w (xT X β) h β v (f i j)):
  ∃β',xU X w h β (w.alloc (.cells c el)) (over [(k,.arr sz xs ⟨false,true⟩)] h) β'/\yI (w.alloc (.cells c el)) (xT X β') (over [(k,.arr sz xs ⟨false,true⟩)] h) β' (.ref k 0 (ln xs)) (.slice (some ⟨w.heap.size,0,none⟩) (ln xs) cap):=by
 refine⟨_,xU.new H hk (.arr sz xs ⟨false,true⟩) (ln xs) c el λE=>⟨I,G,λ_=>by rw[yL];simp,M,λb n r L=>?_,f,λi x j v hx O=>⟨(hv i x j v hx O).evo E,λh=>by cases h⟩,h1,λb n hb=>?_⟩,?_⟩
 .rw[yL]at L
  grind
 .rw[yL]at hb;simp at hb;obtain⟨rfl,rfl⟩:=hb;exact⟨c,el,heap_alloc_new w _,zBw (zBe _ A) (zCx hc),C,B⟩
 .have:=yI.ref (w:=w.alloc (.cells c el)) (D:=xT X (cY β k [(w.heap.size,ln xs)])) (h:=over [(k,.arr sz xs ⟨false,true⟩)] h) (β:=cY β k [(w.heap.size,ln xs)]) k 0 (ln xs) sz xs ⟨false,true⟩ w.heap.size (ln xs) cap (qU _ _ _)
   (by rw[yL];simp) (by omega) A (by
    have:wO (w.alloc (.cells c el)) w.heap.size=c.size:=by
     unfold wO World.shape?;rw[heap_alloc_new];rfl
    rw[this];simpa using hc)
  simpa using this
theorem xU.newFz (H:jL X h β w) (c:Array Value) (el:Nat):xU X w h β (w.alloc (.cells c el)) h β:=by
 have A:∀b,b<w.heap.size->(w.alloc (.cells c el)).heap[b]? =w.heap[b]? :=λb hb=>heap_alloc_old w _ b hb
 have B:∀k b n,(b,n)∈β k->wO (w.alloc (.cells c el)) b=wO w b:=λk b n C=>by
  unfold wO World.shape?;rw[A b (H.lt b (.inr ⟨k,n,C⟩))]
 have E:EG w (xT X β) h β (w.alloc (.cells c el)) (xT X β) h β:=⟨by simp,λb hb hd=>⟨A b hb,hd⟩,B,jA h β⟩;refine⟨by simp,λb hb _=>A b hb,λk _ n C=> .inl ⟨k,n,C⟩,B,jA h β,⟨λk e G=>(H.ent k e G).evo E Z λb n C=>A b (H.lt b (.inr ⟨k,n,C⟩)),H.off,H.disj,H.free,λb hd=>?_⟩,rfl,rfl,rfl⟩;exact zBy (H.lt b hd) zV
theorem xM.newArr (H:jL X h β w) (c:Array Value) (el sz:Nat) (xs:List AV) (cap:Nat) (f:Nat->Nat->Value) (C:1<=sz) (B:ln xs<=dY)
 (A:ln xs<=cap) (G:∀(i:Nat) (x:AV),xs[i]? =some x->ln x.cells=sz) (L:∀i j,i<ln xs->j<sz->c[i*sz+j]? =some (f i j)) (h1:∀i j,i<ln xs->j<sz->(f i j).oneCell'=true)
 (hv:∀(i:Nat) (x:AV) (j:Nat) v,xs[i]? =some x->x.cells[j]? =some v->xM w (xT X β) v (f i j)):
  xM (w.alloc (.cells c el)) (xT X β) (.sl true xs) (.slice (some ⟨w.heap.size,0,none⟩) (ln xs) cap):=by
 have E:=(xU.newFz H c el).evo;by_cases hx:xs=[]
 .subst hx;exact .nil1 _ _
 .refine .sl true xs w.heap.size 0 sz cap f hx ⟨by simp,λhd=>?_,C,B,G,λi j hi hj=>?_,h1⟩ A λi x j v hx I=>(hv i x j v hx I).evo E.size E.fz
  .have:=H.lt _ hd;omega
  all_goals simp_all [yS,uM,dY,xT]
theorem xM.wkF {xs:List AV} (h:xM w D (.sl nn xs) c):xM w D (.sl false xs) c:=by
 cases h with
 |nil a cap=>exact .nil a cap
 |nil1 a cap=>exact .nil _ cap
 |sl nn xs b o sz cap f hx hL hc hh=>exact .sl false xs b o sz cap f hx hL hc hh
section
def AV.one:AV->Bool
 | .s v=>v.oneCell'
 | .sl _ _| .slc _ _| .ref _ _ _| .ptr _ _ _| .fp _ _ _| .fn _ _| .fm _ _=>true
 |_=>false
def AV.ok:AV->Bool
 | .agg _=>true
 |v=>v.one
mutual
def AV.nokey:AV->Bool
 | .bot| .s _| .sl _ _| .slc _ _| .fp _ _ _| .fm _ _=>true
 | .agg cs=>vI cs
 |_=>false
def vI:List AV->Bool
 | []=>true
 |v::r=>v.nokey&&vI r
end
theorem jM:∀{cs:List AV} {i:Nat} {v:AV},vI cs=true->cs[i]? =some v->v.nokey=true
 | [],_,_,_,h=>by simp at h
 |x::r,0,v,hk,h=>by simp at h;subst h;simp[vI]at hk;exact hk.1
 |x::r,i+1,v,hk,h=>by simp[vI]at hk;exact jM hk.2 OZ
def UM :List α->Nat->List α->List α
 |cs,_,[]=>cs
 |cs,o,v::vs=>UM (cs.set o v) (o+1) vs
theorem cP :∀(vs cs:List α) (o:Nat),(UM cs o vs).length=ln cs
 | [],_,_=>rfl
 |v::vs,cs,o=>by rw[UM,cP vs,zB5]
theorem YW :∀(vs cs:List α) (o j:Nat),o+ln vs<=ln cs->(UM cs o vs)[j]? =if o<=j/\j<o+ln vs then vs[j-o]? else cs[j]?
 | [],cs,o,j,_=>by rw[UM,Os zV]
 | v::vs,cs,o,j,h=>by
  simp at h;rw[UM,YW vs _ _ _ qA];by_cases h1:o+1<=j/\j<o+1+ln vs
  .rw[f5 h1,f5 qA,show j-o=(j-(o+1))+1 by omega];simp
  .rw[Os h1];by_cases h2:j=o
   .subst h2;rw[f5 zV,zBs (by omega),zC7];rfl
   .rw[Os qA,zFe (by omega)]
section
variable {w:World} {D:Nat->Prop} {h:yS} {β:uM}
theorem fX {c:Array Value} {v:Value} (h:c[i]? =some v):c.getD i undef=v:=by simp[zBu,h]
theorem jN (c:Array Value) (i:Nat) (h:i<c.size):c[i]? =some (c.getD i undef):=by grind [fX]
theorem xM.one_of {v:AV} (hv:xM w D v c) (h1:v.one=true):c.oneCell'=true:=by
 cases hv<;>first|rfl|(simp[AV.one]at h1;done)|simpa [AV.one]using h1
theorem yI.one_of {v:AV} (hv:yI w D h β v c) (h1:v.one=true):c.oneCell'=true:=by
 cases hv with
 |fz _ _ A=>exact A.one_of h1
 |dref _ _ _ _ _ h2=>exact h2
 |dptr _ _ _ _ _ h2=>exact h2
 |agg _ _ _ _ _=>simp[AV.one]at h1
 |tup _ _ _ _=>simp[AV.one]at h1
 |_=>rfl
theorem yI.cells {v:AV} (hv:yI w D h β v c) (h1:v.ok=true):
  c.cells.size=ln v.cells/\(∀i,i<c.cells.size->(c.cells.getD i undef).oneCell'=true)/\∀(i:Nat) u,v.cells[i]? =some u->yI w D h β u (c.cells.getD i undef):=by
 by_cases B:v.isAgg=true
 .cases v<;>simp[AV.isAgg]at B
  rename_i cs
  cases hv with
  |fz _ _ E=>
   cases E with
   |agg _ c hl h2 hh=>exact⟨hl,h2,λi u A=> .fz _ _ (hh i u A)⟩
  |agg _ c hl h2 hh=>exact⟨hl,h2,hh⟩
 .have G:v.one=true:=by cases v<;>first|exact h1|(simp[AV.isAgg]at B)
  have hc:=hv.one_of G
  have e1:c.cells= #[c]:=by cases c<;>first|rfl|(simp[Value.oneCell']at hc)
  have C:v.cells=[v]:=by cases v<;>first|rfl|(simp[AV.isAgg]at B)
  rw[e1,C];refine⟨rfl,λi hi=>?_,λi u A=>?_⟩
  .simp_all
  .cases i with
   |zero=>simp at A;subst A;exact hv
   |succ i=>simp at A
theorem yI.toF:∀{v:AV} {c:Value},yI w D h β v c->v.nokey=true->xM w D v c:=by
 intro v c hv
 induction hv with
 |fz _ _ A=>exact λ_=>A
 |agg cs c hl h1 _ B=>exact λhk=> .agg cs c hl h1 λi v hi=>B i v hi (jM (by simpa [AV.nokey]using hk) hi)
 |_=>intro hk;simp[AV.nokey]at hk
def D5 (w:World) (D:Nat->Prop) (h:yS) (β:uM) (A:List AV) (b o:Nat):Prop:=
 ∀(j:Nat) u,A[j]? =some u->∃c,w.cell? ⟨b,o+j,none⟩=some c/\c.oneCell'=true/\yI w D h β u c
def uP {c:Array Value} {A:Nat×Nat} (hb:w.heap[b]? =some (.cells c el A)) (j:Nat):w.cell? ⟨b,j,none⟩=c[j]? :=by simp[World.cell?,hb]
def PJ (H:jL X h β w) {cs:List AV} (hk:h k=some (.box cs)) (hv:yI w D h β (.ptr k i off) c):
  ∃b,c= .pointer (some ⟨b,off,none⟩)/\i=0/\D5 w (xT X β) h β cs b 0:=by
 cases hv with
 |fz _ _ I=>cases I
 |dptr _ _ _ _ hd _=>rw[hk]at hd;cases hd
 |parr _ _ _ _ _ _ _ _ hd _ _ _=>rw[hk]at hd;cases hd
 |pbox _ _ B b n hk' hb=>
  obtain⟨L,c,el,h1,h2,C,E,G⟩:=H.ent k _ hk;rw[h1]at hb;simp at hb;obtain⟨rfl,rfl⟩:=hb;refine⟨b,rfl,rfl,λj u A=>?_⟩;have hj:j<c.size:=by rw[C];exact(zBj.1 A).1
  exact⟨c.getD j undef,by rw[uP h2,zB7];exact jN c j hj,E j hj,G j u A⟩
def Pe (H:jL X h β w) {xs:List AV} {st:Fl} (hk:h k=some (.arr sz xs st)) {x:AV} (hx:xs[i]? =some x) (hv:yI w D h β (.ptr k i off) c):
  ∃b n,c= .pointer (some ⟨b,i*sz+off,none⟩)/\(b,n)∈β k/\off<sz/\x.cells.length=sz/\D5 w (xT X β) h β x.cells b (i*sz):=by
 cases hv with
 |fz _ _ M=>cases M
 |dptr _ _ _ _ hd _=>rw[hk]at hd;cases hd
 |pbox _ _ _ _ _ hd _=>rw[hk]at hd;cases hd
 |parr _ _ _ S U st' b n hk' hb hi O=>
  rw[hk]at hk';cases hk';obtain⟨_,_,_,R,_,f,E,G,I⟩:=H.ent k _ hk;obtain⟨c,el,L,_,B,_⟩:=I b n hb;have A:=R i x hx;refine⟨b,n,rfl,hb,O,A,λj u C=>?_⟩;have hj:j<sz:=by rw[<-A];exact(zBj.1 C).1
  exact⟨f i j,by rw[uP L];exact B i j hi hj,G i j (zBj.1 hx).1 hj,E.toV i x j u hx C⟩
def Zl (H:jL X h β w) {xs:List AV} {st:Fl} (hk:h k=some (.arr sz xs st)) {x:AV} (hx:xs[i]? =some x) (hv:yI w D h β (.ptr k i off) c):
  ∃b n,c= .pointer (some ⟨b,i*sz+off,none⟩)/\(b,n)∈β k/\off<sz/\x.cells.length=sz/\D5 w (xT X β) h β x.cells b (i*sz)/\i<n:=by
 cases hv with
 |fz _ _ M=>cases M
 |dptr _ _ _ _ hd _=>rw[hk]at hd;cases hd
 |pbox _ _ _ _ _ hd _=>rw[hk]at hd;cases hd
 |parr _ _ _ S U st' b n hk' hb hi O=>
  rw[hk]at hk';cases hk';obtain⟨_,_,_,R,_,f,E,G,I⟩:=H.ent k _ hk;obtain⟨c,el,L,_,B,_⟩:=I b n hb;have A:=R i x hx;refine⟨b,n,rfl,hb,O,A,λj u C=>?_,hi⟩;have hj:j<sz:=by rw[<-A];exact(zBj.1 C).1
  exact⟨f i j,by rw[uP L];exact B i j hi hj,G i j (zBj.1 hx).1 hj,E.toV i x j u hx C⟩
def Rz {xs:List AV} {x:AV} (hx:xs[i]? =some x) (hv:yI w D h β (.fp xs i off) c):
  ∃b o,c= .pointer (some ⟨b,o+off,none⟩)/\off<ln x.cells/\D5 w D h β x.cells b o:=by
 cases hv with
 | fz _ _ C=>
  cases C with
  |fp _ b o sz _ _ f hL hi E hh=>
   have A:=hL.wide i x hx;refine⟨b,o+i*sz,rfl,by omega,λj u B=>?_⟩;have hj:j<sz:=by rw[<-A];exact(zBj.1 B).1
   exact⟨f i j,hL.cell i j hi hj,hL.one i j hi hj,.fz _ _ (hh i x j u hx B)⟩
end
def Da (B:Bool) (n:Nat) (A:List AV) (off:Nat):Option AV:=
 bif B then(bif Nat.ble (off+n) (ln A) then some (.agg ((A.drop off).take n))else none)else A[off]?
theorem HT (C:uZ P TT) (hT:TT[T]? =some ti) {A:List AV} (M:D5 w D h β A b o) {v:AV}
 (hv:Da ti.d.agg ti.size A off=some v):∃c,(loadVar T ⟨b,o+off,none⟩).run P w= .ok c w/\yI w D h β v c:=by
 have E:=Qe (C _ _ hT) w;have S:=qK (C _ _ hT) w;unfold Da at hv
 have G:∀j,(⟨b,o+off,none⟩:Addr).add j=⟨b,o+(off+j),none⟩:=λj=>by unfold Addr.add;split<;>simp_all<;>omega
 cases hb:ti.d.agg with
 |false=>
  simp only[hb,zCt]at hv;obtain⟨c,h1,_,L⟩:=M off v hv;exact⟨c,by simp[loadVar,E,hb,h1],L⟩
 | true=>
  simp only[hb,zB6]at hv
  cases B:Nat.ble (off+ti.size) (ln A) with
  |false=>simp[B]at hv
  | true=>
   have I:=zA8 B;simp only[B,zB6,zCd]at hv;subst hv
   have hc:∀j,∃c,j<ti.size->∃u,A[off+j]? =some u/\w.cell? ((⟨b,o+off,none⟩:Addr).add j)=some c/\c.oneCell'=true/\yI w D h β u c:=λj=>by
    by_cases hj:j<ti.size
    .obtain⟨u,U⟩:∃u,A[off+j]? =some u:=⟨A[off+j],by simp⟩
     simp_all [uZ,hT,yS,uM,D5,Da]
    .exact⟨undef,λh=>absurd h hj⟩
   obtain⟨f,R⟩:∃f:Nat->Value,∀j,j<ti.size->∃u,A[off+j]? =some u/\w.cell? ((⟨b,o+off,none⟩:Addr).add j)=some (f j)/\(f j).oneCell'=true/\yI w D h β u (f j):=
    ⟨λj=>(hc j).choose,λj hj=>(hc j).choose_spec hj⟩
   have hl:=run_loadCells (P:=P) w ⟨b,o+off,none⟩ ti.size f λj hj=>(R j hj).choose_spec.2.1
   have O:∀i,i<ti.size->(((pi ti.size).map f).toArray).getD i undef=f i:=λi hi=>fX XX
   refine⟨.agg ((pi ti.size).map f).toArray,by simp[loadVar,E,hb,S,hl],.agg _ _ qA (λi hi=>?_) λi u U=>?_⟩
   all_goals grind
section ops
variable {P:Program} {TT:List TI} {st:St} (hP:uZ P TT)
theorem dI {v:AV} (k:Nat) (hx:yX (zK st.tm) x=v) (h1:v.ok=true):wX P st (.box T x) (.ptr k 0 0) [(k,.box v.cells)] [] [k]:=by
 refine⟨?_⟩;intro X V h L _ M o a w β A B C;obtain⟨d0,o0,U,S,E,I⟩:=o;dsimp only at A;subst A;obtain⟨hl,A,hv⟩:=(fC C L (x:=x) uO hx).cells h1;obtain⟨β',G,O⟩:=xU.newBox B (M k zV) (a.eval x).cells T v.cells hl A hv
 have R:(execOp a.eval ⟨d0,.box T x,U,S,E,I⟩).run P w= .ok (.value (.pointer (some ⟨w.heap.size,0,none⟩))) (w.alloc (.cells (a.eval x).cells T)):=by
  simp[execOp,Instr.box,newVar,newRow]
 rw[R];exact⟨β',G,O⟩
include hP in
def fJ (k:Nat) (hT:TT[T]? =some ti) (h1:ti.zero.all (·.oneCell')=true):wX P st (.alloc T) (.ptr k 0 0) [(k,.box (ti.zero.map .s))] [] [k]:=by
 refine⟨?_⟩;intro X tm h Y _ M o a w β B E W;obtain⟨d0,o0,V,U,I,L⟩:=o;dsimp only at B;subst B;obtain⟨z,S,A⟩:=Ak (hP _ _ hT) w
 obtain⟨β',G,O⟩:=xU.newBox E (M k zV) z.cells T (ti.zero.map .s) (by simp[<-A]) (λi hi=>by
   have:=zA5.1 h1 (z.cells.getD i undef) (by rw[<-A];exact zCc (by simpa using jN _ i hi))
   exact this) (λi v hv=>by
   simp only[zAz,zBa]at hv;obtain⟨u,C,rfl⟩:=hv;rw[<-A]at C;rw[fX (by simpa using C)]
   exact .fz _ _ (.s _))
 have R:(execOp a.eval ⟨d0,.alloc T,V,U,I,L⟩).run P w= .ok (.value (.pointer (some ⟨w.heap.size,0,none⟩))) (w.alloc (.cells z.cells T)):=by
  simp[execOp,Instr.alloc,S,newVar,newRow]
 rw[R];exact⟨β',G,O⟩
include hP in
def HU {cs:List AV} {v:AV} (hx:yX (zK st.tm) x= .ptr k 0 off) (hk:zD st.h k=some (.box cs)) (hT:TT[T]? =some ti)
 (hv:Da ti.d.agg ti.size cs off=some v):wX P st (.load T x) v [] [k] []:=
 yZ λo X S h w β a A I L B C=>by
  obtain⟨d0,o0,U,R,M,O⟩:=o;dsimp only at A;subst A;have h1:=fC C I (x:=x) uO hx;have hk':=(L k zV).trans hk;obtain⟨b,hc,_,G⟩:=PJ B hk' h1;obtain⟨c,h2,E⟩:=HT hP hT G hv;rw[zB7]at h2;exact⟨c,by simp[execOp,Instr.loadAt,hc,Instr.sureAddr,h2],E⟩
include hP in
def dJ {xs:List AV} {y v:AV} (hx:yX (zK st.tm) x= .ptr k i off) (hk:zD st.h k=some (.arr sz xs sl)) (M:xs[i]? =some y) (hT:TT[T]? =some ti)
 (hv:Da ti.d.agg ti.size y.cells off=some v):wX P st (.load T x) v [] [k] []:=
 yZ λo X U h w β a A I L B C=>by
  obtain⟨d0,o0,V,S,O,R⟩:=o;dsimp only at A;subst A;have h1:=fC C I (x:=x) uO hx;have hk':=(L k zV).trans hk;obtain⟨b,n,hc,_,_,_,G⟩:=Pe B hk' M h1;obtain⟨c,h2,E⟩:=HT hP hT G hv;exact⟨c,by simp[execOp,Instr.loadAt,hc,Instr.sureAddr,h2],E⟩
include hP in
def ZI {xs:List AV} {y v:AV} (hx:yX (zK st.tm) x= .fp xs i off) (I:xs[i]? =some y) (hT:TT[T]? =some ti)
 (hv:Da ti.d.agg ti.size y.cells off=some v):wX P st (.load T x) v [] [] []:=
 yZ λo X U h w β a A G R L B=>by
  obtain⟨d0,o0,V,S,M,O⟩:=o;dsimp only at A;subst A;have h1:=fC B G (x:=x) uO hx;obtain⟨b,o,hc,_,E⟩:=Rz I h1;obtain⟨c,h2,C⟩:=HT hP hT E hv;exact⟨c,by simp[execOp,Instr.loadAt,hc,Instr.sureAddr,h2],C⟩
end ops
theorem Yl (E:uZ P TT) (hT:TT[T]? =some ti) {c:Array Value} (hb:w.heap[b]? =some (.cells c el (0,0))) {x:Value} (C:x.cells.size=ti.size)
 (I:off+ti.size<=c.size) (h1:∀i,i<x.cells.size->(x.cells.getD i undef).oneCell'=true):
  ∃A:Array Value,(storeVar T ⟨b,off,none⟩ x).run P w= .ok () (w.setRow b A)/\A.size=c.size/\∀j,A.getD j undef=if off<=j/\j<off+ti.size then x.cells.getD (j-off) undef else c.getD j undef:=by
 have G:=qK (E _ _ hT) w
 have B:=run_storeCells_at P b off el x.cells.toList 0 c w hb qA (λv hv=>by
  obtain⟨i,hi,rfl⟩:=zC8 hv;have:=h1 i DY
  simpa [zBu,show i<x.cells.size by simpa using hi]using this)
 refine⟨_,by simp only[storeVar,Sem.run_bind,G,Result.andThen_ok,C,zDx,zE6,zFk,B];rfl,?_,λj=>?_⟩
 .simp;omega
 .simp only[zDh,zDs,C,zBu,zDg];by_cases h2:off<=j/\j<off+ti.size
  .grind
  .rw[Os h2]
   grind
def kJ {c A:Array Value} {B:Nat×Nat} (hb:w.heap[b]? =some (.cells c el B)) (C:A.size=c.size) (j:Nat):wO (w.setRow b A) j=wO w j:=by
 unfold wO World.shape?;by_cases h:j=b
 .subst h;rw[setRow_heap w _ _ _ _ _ hb,hb];simp[C]
 .rw[setRow_other w b j A h]
section ops
variable {P:Program} {TT:List TI} {st:St} (hP:uZ P TT)
include hP in
theorem LT {p:Operand} {k:Nat} {cs:List AV} {v:AV} (hp:yX (zK st.tm) p= .ptr k 0 off) (hx:yX (zK st.tm) x=v) (hk:zD st.h k=some (.box cs)) (hT:TT[T]? =some ti)
 (h1:v.ok=true) (h2:Nat.beq (ln v.cells) ti.size=true) (Y:Nat.ble (off+ti.size) (ln cs)=true):wX P st (.store T p x) .bot [(k,.box (UM cs off v.cells))] [k] []:=by
 refine⟨?_⟩;intro X tm h hg U _ o a w β ho I W;obtain⟨d0,o0,y0,p0,f0,g0⟩:=o;dsimp only at ho;subst ho;have hk':=(U k zV).trans hk;have h2:=zBo h2;have Y:=zA8 Y;have B:=fC W hg (x:=p) uO hp;obtain⟨hl,S,hv⟩:=(fC W hg (x:=x) uO hx).cells h1;obtain⟨b,c,el,e1,M,e3,e4,e5⟩:=I.ent k _ hk';obtain⟨G,hc,_,_⟩:=PJ I hk' B
 obtain rfl:G=b:=by
  generalize a.eval p=cp at*
  cases B with
  |fz _ _ hf=>cases hf
  |dptr _ _ _ _ hd _=>rw[hk']at hd;cases hd
  |parr _ _ _ _ _ _ _ _ hd _ _ _=>rw[hk']at hd;cases hd
  |pbox _ _ ap ag n ac hb=>
   grind
 obtain⟨L,C,V,O⟩:=Yl hP hT M (off:=off) (x:=a.eval x) (by omega) (by omega) S
 have U:(execOp a.eval ⟨d0,.store T p x,y0,p0,f0,g0⟩).run P w= .ok .skip (w.setRow G L):=by
  simp[execOp,Instr.storeAt,hc,Instr.sureAddr,C]
 rw[U]
 refine⟨cY β k (β k),xU.step I k _ _ zV (λj hj hn=>setRow_other w G j L (λe=>hn 0 (by rw[e1,e];simp))) Z Z Z (λb n R=> .inl ⟨n,R⟩) (λb n _=>kJ M V b)
  (λe he=>by rw[hk']at he;cases he;exact .inr ⟨⟨_,rfl⟩,λ_ _ R=>R⟩) λE=>⟨G,L,el,by rw[yL];exact e1,setRow_heap w _ _ _ _ _ M,by rw[cP];omega,λi hi=>?_,λi u A=>?_⟩,.fz _ _ (.bot _)⟩
 .grind
 .rw[YW _ _ _ _ (by omega)]at A;rw[O];rw[h2]at A;split
  .rename_i hi;rw[f5 hi]at A;exact(hv _ u A).evo E
  .rename_i hi;rw[Os hi]at A;exact(e5 i u A).evo E
def HV (x:AV) (off:Nat) (cs:List AV):AV:=match x with
 | .agg A=> .agg (UM A off cs)
 |_=>match cs with
  | [v]=>v
  |_=> .bot
def Jb {x:AV} {cs:List AV} (h:off+ln cs<=ln x.cells) (B:1<=ln cs) (A:cs.all (λv=>!v.isAgg)=true):(HV x off cs).cells=UM x.cells off cs:=by
  cases x<;>first
    |rfl
    | (simp only[AV.cells,zA6,zBx]at h
       match cs,B,h,A with
       | [v],_,h,A=>
         simp at A h;subst h
         cases v<;>first|rfl|(simp[AV.isAgg]at A))
include hP in
theorem WB {p:Operand} {k:Nat} {xs:List AV} {y v:AV} (hp:yX (zK st.tm) p= .ptr k i off) (hx:yX (zK st.tm) x=v) (hk:zD st.h k=some (.arr sz xs ⟨false,nest⟩)) (hy:xs[i]? =some y) (hT:TT[T]? =some ti)
 (h1:v.ok=true) (h2:Nat.beq (ln v.cells) ti.size=true) (h3:Nat.ble (off+ti.size) (ln y.cells)=true) (h4:(nest||v.nokey)=true) (h5:Nat.ble 1 ti.size=true) (h6:v.cells.all (λv=>!v.isAgg)=true):
  wX P st (.store T p x) .bot [(k,.arr sz (xs.set i (HV y off v.cells)) ⟨false,nest⟩)] [k] []:=by
 refine⟨?_⟩;intro X tm h hg hr _ o a w β ho HH Ht;obtain⟨d0,o0,y0,p0,f0,g0⟩:=o;dsimp only at ho;subst ho;have hk':=(hr k zV).trans hk;have h2:=zBo h2;have h3:=zA8 h3;have h5:=zA8 h5;have a2:=fC Ht hg (x:=p) uO hp;have hxv:=fC Ht hg (x:=x) uO hx;obtain⟨hl,Y,hv⟩:=hxv.cells h1
 have a4:nest=false->∀(j:Nat) u,v.cells[j]? =some u->xM w (xT X β) u ((a.eval x).cells.getD j undef):=λV j u G=>(hv j u G).toF (by
  rw[V,zC5]at h4
  cases v<;>first
   |(simp[AV.cells]at G;cases j<;>simp at G;subst G;exact h4)
   |(exact jM (by simpa [AV.nokey,AV.cells]using h4) G))
 obtain⟨b,n,hc,L,a9,a5,_,a8⟩:=Zl HH hk' hy a2;obtain⟨g1,g2,g3,g4,g5,f,g6,g7,g8⟩:=HH.ent k _ hk';have hi:i<ln xs:=(zBj.1 hy).1
 obtain⟨rr,hbk,a1,ac⟩:∃rr,β k=(b,n)::rr/\n=ln xs/\∀R n',(R,n')∈rr->n'=0:=by
  cases hbk:β k with
  |nil=>rw[hbk]at L;simp at L
  |cons q r=>
   obtain⟨b0,n0⟩:=q;obtain⟨e1,U,_⟩:=g5 b0 n0 r hbk;have U:=U Z;rw[hbk]at L;simp at L
   rcases L with⟨rfl,rfl⟩|L
   .exact⟨r,rfl,e1,U⟩
   .have:=U b n L;omega
 subst a1;obtain⟨c,el,U,e3,e4,e5⟩:=g8 b _ L
 have a7:i*sz+sz<=ln xs*sz:=by
  have:=zBe sz (show i+1<=ln xs by omega)
  rwa [zB2,zC2]at this
 obtain⟨S,av,a3,ag⟩:=Yl hP hT U (off:=i*sz+off) (x:=a.eval x) (by omega) (by omega) Y
 have hr:(execOp a.eval ⟨d0,.store T p x,y0,p0,f0,g0⟩).run P w= .ok .skip (w.setRow b S):=by
  simp[execOp,Instr.storeAt,hc,Instr.sureAddr,av]
 rw[hr];have au:=Jb (x:=y) (off:=off) (cs:=v.cells) (by omega) (by omega) h6;have a6:(xs.set i (HV y off v.cells)).length=ln xs:=by simp
 have W:∀(A:Nat) (O:AV),(xs.set i (HV y off v.cells))[A]? =some O->(A=i/\O=HV y off v.cells)\/(A≠i/\xs[A]? =some O):=by
  intro A O C;by_cases I:A=i
  .subst I;rw[zBs hi]at C;exact .inl ⟨rfl,(zD2 C).symm⟩
  .rw[zFe (λe=>I e.symm)]at C;exact .inr ⟨I,C⟩
 let f':Nat->Nat->Value:=λA j=>if A=i/\off<=j/\j<off+ti.size then(a.eval x).cells.getD (j-off) undef else f A j
 refine⟨cY β k (β k),xU.step HH k _ _ zV (λj hj V=>setRow_other w b j S (λe=>V (ln xs) Te)) Z Z Z (λb n L=> .inl ⟨n,L⟩) (λb n _=>kJ U a3 b)
  (λe he=>by rw[hk']at he;cases he;exact .inr ⟨⟨_,_,rfl,by simp⟩,λ_ n L=>⟨n,zAw _,L⟩⟩) λE=>⟨g1,by simpa using g2,λ_=>by rw[yL,hbk];simp,λA O C=>?_,λR n' r B=>?_,f',λA O j u C G=>?_,λA j hi' hj=>?_,λR n' B=>?_⟩,.fz _ _ (.bot _)⟩
 .rcases W A O C with⟨_,rfl⟩|⟨_,h⟩
  .rw[au,cP];exact a5
  .exact g4 A O h
 .rw[yL,hbk]at B;simp at B;obtain⟨⟨rfl,rfl⟩,rfl⟩:=B;refine⟨by simp,λ_=>ac,λR n' L=>by have:=ac R n' L;simp;omega⟩
 .rcases W A O C with⟨rfl,rfl⟩|⟨I,h⟩
  .rw[au,YW _ _ _ _ (by omega)]at G;simp only[f',true_and];rw[h2]at G;split
   .rename_i hj;rw[f5 hj]at G;exact⟨(hv _ u G).evo E,λV=>(a4 V _ u G).evo E.size E.fz⟩
   .rename_i hj;rw[Os hj]at G;exact⟨(g6 A y j u hy G).1.evo E,λV=>((g6 A y j u hy G).2 V).evo E.size E.fz⟩
  .simp only[f',I,false_and,zFk];exact⟨(g6 A O j u h G).1.evo E,λV=>((g6 A O j u h G).2 V).evo E.size E.fz⟩
 .simp only[f'];split
  .exact Y _ (by omega)
  .exact g7 A j (by simpa using hi') hj
 .have M:∀q,q<S.size->(S.getD q undef).oneCell'=true:=λq hq=>by
   rw[ag];split
   .exact Y _ (by omega)
   .exact e5 q (by omega)
  rw[yL,hbk]at B;simp at B
  rcases B with⟨rfl,rfl⟩|B
  case inr=>
   obtain rfl:=ac R n' B;by_cases ap:R=b
   .subst ap;exact⟨S,el,setRow_heap w _ _ _ _ _ U,by omega,λA j hi' _=>by omega,M⟩
   .obtain⟨c2,ax,q1,q2,_,q4⟩:=g8 R 0 (by rw[hbk];simp[B]);exact⟨c2,ax,(setRow_other w b R S ap).trans q1,q2,λA j hi' _=>by omega,q4⟩
  refine⟨S,el,setRow_heap w _ _ _ _ _ U,by omega,λA j hi' hj=>?_,M⟩
  have az:A*sz+j<S.size:=by
   have:=zBe sz (show A+1<=ln xs by omega);rw[zB2,zC2]at this;omega
  rw[jN S _ az,ag]
  congr 1
  have ar:(i*sz+off<=A*sz+j/\A*sz+j<i*sz+off+ti.size)↔(A=i/\off<=j/\j<off+ti.size):=by
   constructor
   .rintro⟨q1,q2⟩
    have I:A=i:=by
     rcases Nat.lt_trichotomy A i with h|h|h
     .have:=zBe sz (show A+1<=i by omega);rw[zB2,zC2]at this;omega
     .exact h
     .have:=zBe sz (show i+1<=A by omega);rw[zB2,zC2]at this;omega
    subst I;exact⟨rfl,by omega,by omega⟩
   .rintro⟨rfl,q1,q2⟩;omega
  simp only[f',ar];split
  .rename_i hq;obtain⟨rfl,q1,q2⟩:=hq
   congr 1
   omega
  .exact fX (e4 A j hi' hj)
end ops
end
section
section ops
variable {P:Program} {TT:List TI} {st:St} (hP:uZ P TT)
theorem CO {P:Program} {TT:List TI} (hP:uZ P TT) {f o:Nat} (hT:TT[T]? =some ti) (hd:ti.d= .str fs) (E:fs[f]? =some (o,ft)) (w:World):
  ∃(A:Array Field) (B:Field),(underlying T).run P w= .ok (.struct A) w/\A[f]? =some B/\B.offset=o/\B.type=ft:=by
 obtain⟨u,I,C⟩:=wH (hP _ _ hT) w;obtain⟨A,rfl,G⟩:=al (C.trans hd)
 grind
theorem ZJ {P:Program} {TT:List TI} (hP:uZ P TT) {f o:Nat} (hT:TT[T]? =some ti) (hd:ti.d= .str fs) (M:fs[f]? =some (o,ft)) (C:TT[ft]? =some tf) (G:Nat.ble 1 tf.size=true) (w:World) (b q:Nat):
  (Instr.fieldAt T (.pointer (some ⟨b,q,none⟩)) f).run P w= .ok (.pointer (some ⟨b,q+o,none⟩)) w:=by
 obtain⟨B,R,h1,h2,I,L⟩:=CO hP hT hd M w;have O:=qK (hP _ _ C) w;have G:=zA8 G;have E:¬tf.size=0:=by omega
 have A:(⟨b,q,none⟩:Addr).add o=⟨b,q+o,none⟩:=by unfold Addr.add;split<;>simp_all
 simp[Instr.fieldAt,h1,h2,Instr.sureAddr,fieldPlace,I,L,O,E,A]
theorem ZK (b q n:Nat):(⟨b,q,none⟩:Addr).add n=⟨b,q+n,none⟩:=by unfold Addr.add;split<;>simp_all
include hP in
def UN {f o:Nat} {cs:List AV} (hx:yX (zK st.tm) x= .ptr k 0 off) (hk:zD st.h k=some (.box cs)) (hT:TT[T]? =some ti) (hd:ti.d= .str fs) (C:fs[f]? =some (o,ft))
 (G:TT[ft]? =some tf) (S:Nat.ble 1 tf.size=true):wX P st (.fieldAddr T x f) (.ptr k 0 (off+o)) [] [k] []:=
 yZ λU X tm h w β a I O R V L=>by
  obtain⟨d0,o0,y0,p0,Y,g0⟩:=U;dsimp only at I;subst I;have h1:=fC L O (x:=x) uO hx;have hk':=(R k zV).trans hk;have E:=λb=>ZJ hP hT hd C G S w b off
  generalize M:a.eval x=W at h1
  cases h1 with
  |fz _ _ C=>cases C
  |dptr _ _ _ _ hd _=>rw[hk']at hd;cases hd
  |parr _ _ _ _ _ _ _ _ hd _ _ _=>rw[hk']at hd;cases hd
  |pbox _ _ B b n A hb=>exact⟨_,by simp[execOp,M,E],.pbox k _ B b n A hb⟩
include hP in
def UO {f o:Nat} {xs:List AV} (hx:yX (zK st.tm) x= .ptr k i off) (hk:zD st.h k=some (.arr sz xs sl)) (hT:TT[T]? =some ti) (hd:ti.d= .str fs) (C:fs[f]? =some (o,ft))
 (G:TT[ft]? =some tf) (S:Nat.ble 1 tf.size=true) (B:Nat.blt (off+o) sz=true):wX P st (.fieldAddr T x f) (.ptr k i (off+o)) [] [k] []:=
 yZ λU X tm h w β a I O R Y L=>by
  obtain⟨d0,o0,y0,p0,f0,g0⟩:=U;dsimp only at I;subst I;have h1:=fC L O (x:=x) uO hx;have hk':=(R k zV).trans hk;have E:=λb q=>ZJ hP hT hd C G S w b q
  have B:off+o<sz:=zA8 B;generalize M:a.eval x=cx at h1
  cases h1 with
  |fz _ _ C=>cases C
  |dptr _ _ _ _ hd _=>rw[hk']at hd;cases hd
  |pbox _ _ _ _ _ hd _=>rw[hk']at hd;cases hd
  |parr _ _ _ V W st' b n A hb hi I=>
   have h2:=A;rw[hk']at h2;cases h2;exact⟨_,by simp[execOp,M,E];rfl,by rw[zFx];exact .parr k i (off+o) sz xs sl b n A hb hi B⟩
include hP in
def SJ {f o:Nat} {xs:List AV} {y:AV} (hx:yX (zK st.tm) x= .fp xs i off) (R:xs[i]? =some y) (hT:TT[T]? =some ti) (hd:ti.d= .str fs) (B:fs[f]? =some (o,ft))
 (E:TT[ft]? =some tf) (S:Nat.ble 1 tf.size=true) (A:Nat.blt (off+o) (ln y.cells)=true):wX P st (.fieldAddr T x f) (.fp xs i (off+o)) [] [] []:=
 yZ λU X tm h w β a G M hr V I=>by
  obtain⟨d0,o0,y0,p0,Y,g0⟩:=U;dsimp only at G;subst G;have h1:=fC I M (x:=x) uO hx;have C:=λb q=>ZJ hP hT hd B E S w b q
  have A:off+o<ln y.cells:=zA8 A;generalize L:a.eval x=W at h1
  cases h1 with
  | fz _ _ B=>
   cases B with
   |fp _ b q sz _ _ f hL hi G hh=>
    have O:=hL.wide i y R;exact⟨_,by simp[execOp,L,C];rfl,.fz _ _ (by rw[zFx];exact .fp xs b q sz i (off+o) f hL hi (by omega) hh)⟩
include hP in
def RX (hT:TT[T]? =some ti) (hd:ti.d= .slice e) (C:TT[e]? =some te) (w:World) (b q len cap:Nat) (k:IntKind) (i:Int) (B:0<=i) (hi:i<len):
  (Instr.indexAt T (.slice (some ⟨b,q,none⟩) len cap) (.int k i)).run P w= .ok (.pointer (some ⟨b,q+i.toNat*te.size,none⟩)) w:=by
 obtain⟨u,G,A⟩:=wH (hP _ _ hT) w;obtain rfl:=uB (A.trans hd);have E:=qK (hP _ _ C) w;simp[Instr.indexAt,asIntOf,G,B,hi,E,ZK]
include hP in
def SO {xs:List AV} {y:AV} {k:IntKind} {i:Int} (hx:yX (zK st.tm) x= .sl nn xs) (hi:yX (zK st.tm) ix= .s (.int k i)) (hT:TT[T]? =some ti) (hd:ti.d= .slice e) (S:TT[e]? =some te)
 (R:0<=i) (M:xs[i.toNat]? =some y) (C:Nat.beq (ln y.cells) te.size=true) (O:Nat.ble 1 te.size=true):wX P st (.indexAddr T x ix) (.fp xs i.toNat 0) [] [] []:=
 yZ λW X tm h w β a L I hr Y G=>by
  obtain⟨d0,o0,y0,p0,f0,g0⟩:=W;dsimp only at L;subst L;have h1:=fC G I (x:=x) uO hx;have h2:=vP G I (x:=ix) uO hi;have C:=zBo C;have O:=zA8 O;have A:i.toNat<ln xs:=(zBj.1 M).1;generalize B:a.eval x=cx at h1
  cases h1 with
  | fz _ _ U=>
   cases U with
   |nil a cap=>simp at A
   |nil1 a cap=>simp at A
   |sl _ _ b o sz cap f V hL hc hh=>
    have E:=hL.wide _ y M;refine⟨_,by simp only[execOp,B,h2,Sem.run_bind,RX hP hT hd S w b o (ln xs) cap k i R (by omega),Result.andThen_ok,Sem.run_pure];rfl,.fz _ _ ?_⟩;have:=xM.fp xs b o sz i.toNat 0 f hL A (by omega) hh
    rwa [zDh,<-E,C]at this
include hP in
def UP {A:Nat} {xs:List AV} {k:IntKind} {i:Int} (hx:yX (zK st.tm) x= .ref A off len) (hi:yX (zK st.tm) ix= .s (.int k i)) (hk:zD st.h A=some (.arr sz xs sl)) (hT:TT[T]? =some ti) (hd:ti.d= .slice e) (S:TT[e]? =some te)
 (R:0<=i) (hl:i<len) (E:Nat.beq sz te.size=true):wX P st (.indexAddr T x ix) (.ptr A (off+i.toNat) 0) [] [A] []:=
 yZ λY X tm h w β a M L V O G=>by
  obtain⟨d0,o0,y0,p0,f0,g0⟩:=Y;dsimp only at M;subst M;have h1:=fC G L (x:=x) uO hx;have h2:=vP G L (x:=ix) uO hi;have hk':=(V A zV).trans hk;have E:=zBo E;have hp:=(O.ent A _ hk').1;generalize C:a.eval x=cx at h1
  cases h1 with
  |fz _ _ U=>cases U
  |dref _ _ _ _ hd _=>rw[hk']at hd;cases hd
  |ref0 _ _ _ _ _ _ _ _=>simp at hl;omega
  |ref _ _ _ ac ag st' b n cap B hb hn hc W=>
   have I:=B;rw[hk']at I;cases I;refine⟨_,by simp only[execOp,C,h2,Sem.run_bind,RX hP hT hd S w b _ len cap k i R hl,Result.andThen_ok,Sem.run_pure];rfl,?_⟩;have:=yI.parr (w:=w) (D:=xT X β) A (off+i.toNat) 0 sz xs sl b n B hb (by omega) (by omega);rw[zB2,zDh]at this;rw[<-E];exact this
include hP in
def UQ {A:Nat} {cs:List AV} {k:IntKind} {i:Int} (hx:yX (zK st.tm) x= .ptr A 0 off) (hi:yX (zK st.tm) ix= .s (.int k i)) (hk:zD st.h A=some (.box cs)) (hT:TT[T]? =some ti) (hd:ti.d= .arr n e) (R:TT[e]? =some te)
 (O:0<=i) (hl:i<n):wX P st (.indexAddr T x ix) (.ptr A 0 (off+i.toNat*te.size)) [] [A] []:=
 yZ λY X tm h w β a M L U HH I=>by
  obtain⟨d0,o0,y0,p0,f0,g0⟩:=Y;dsimp only at M;subst M;have h1:=fC I L (x:=x) uO hx;have h2:=vP I L (x:=ix) uO hi;have hk':=(U A zV).trans hk;obtain⟨u,W,E⟩:=wH (hP _ _ hT) w;obtain rfl:=jl (E.trans hd);have V:=qK (hP _ _ R) w;generalize G:a.eval x=cx at h1
  cases h1 with
  |fz _ _ S=>cases S
  |dptr _ _ _ _ hd _=>rw[hk']at hd;cases hd
  |parr _ _ _ _ _ _ _ _ hd _ _ _=>rw[hk']at hd;cases hd
  |pbox _ _ C b q B hb=>
   exact⟨.pointer (some ⟨b,off+i.toNat*te.size,none⟩),by simp[execOp,Instr.indexAt,asIntOf,W,Instr.sureAddr,O,hl,V,ZK,G,h2],.pbox A _ C b q B hb⟩
theorem Xl {P:Program} {TT:List TI} (hP:uZ P TT) (hT:TT[T]? =some ti) {cs:List AV} (hv:yI w D h β (.agg cs) c) {v:AV} (hl:Da ti.d.agg ti.size cs off=some v):
  ∃(A:Array Value) (u:Value),c= .agg A/\(part T A off).run P w= .ok u w/\yI w D h β v u:=by
 obtain⟨h1,h2,E⟩:=hv.cells Z;have G:=Qe (hP _ _ hT) w;have O:=qK (hP _ _ hT) w
 obtain⟨A,rfl⟩:∃A,c= .agg A:=by
  cases hv with
  |fz _ _ M=>cases M with|agg _ c=>exact⟨c,rfl⟩
  |agg _ c=>exact⟨c,rfl⟩
 simp only[Value.cells,AV.cells]at h1 h2 E;unfold Da at hl
 cases hb:ti.d.agg with
 |false=>
  simp only[hb,zCt]at hl;have C:off<A.size:=by rw[h1];exact(zBj.1 hl).1
  exact⟨A,A.getD off undef,rfl,by simp only[part,Sem.run_bind,G,hb,Result.andThen_ok,jN A off C,zFp,zFk,Sem.run_pure],E _ _ hl⟩
 | true=>
  simp only[hb,zB6]at hl
  cases B:Nat.ble (off+ti.size) (ln cs) with
  |false=>simp[B]at hl
  | true=>
   have I:=zA8 B;simp only[B,zB6,zCd]at hl;subst hl
   have L:∀i,i<ti.size->(A.extract off (off+ti.size)).getD i undef=A.getD (off+i) undef:=λi hi=>by
    apply fX;rw[Array.getElem?_extract];rw[f5 (by omega)];exact jN A _ (by omega)
   refine⟨A,.agg (A.extract off (off+ti.size)),rfl,by simp only[part,Sem.run_bind,G,hb,Result.andThen_ok,zE0,O,Sem.run_pure],.agg _ _ qA (λi hi=>?_) λi u R=>?_⟩
   all_goals grind
def ah (hP:uZ P TT) {f o:Nat} {cs:List AV} {v:AV} (hx:yX (zK st.tm) x= .agg cs) (hT:TT[T]? =some ti) (hd:ti.d= .str fs) (M:fs[f]? =some (o,ft))
 (B:TT[ft]? =some tf) (hv:Da tf.d.agg tf.size cs o=some v):wX P st (.field T x f) v [] [] []:=
 yZ λS X tm h w β a C O E U G=>by
  obtain⟨d0,o0,y0,p0,W,g0⟩:=S;dsimp only at C;subst C;have h1:=fC G O (x:=x) uO hx;obtain⟨A,Y,e1,I,e3,L⟩:=CO hP hT hd M w;obtain⟨V,u,hc,E,R⟩:=Xl hP B h1 hv;exact⟨u,by simp[execOp,hc,Instr.field,e1,I,asAgg,e3,L,E],R⟩
def SP {cs:List AV} (hx:yX (zK st.tm) x= .ptr k 0 off) (hk:zD st.h k=some (.box cs)):wX P st (.nilCheck x) (.ptr k 0 off) [] [k] []:=
 yZ λI X R h w β a A E G B C=>by
  obtain⟨d0,o0,S,O,L,M⟩:=I;dsimp only at A;subst A;have h1:=fC C E (x:=x) uO hx;have hk':=(G k zV).trans hk;obtain⟨b,hc,_,_⟩:=PJ B hk' h1;rw[hc]at h1;exact⟨_,by simp[execOp,hc],h1⟩
def bK {xs:List AV} {y:AV} (hx:yX (zK st.tm) x= .ptr k i off) (hk:zD st.h k=some (.arr sz xs sl)) (I:xs[i]? =some y):wX P st (.nilCheck x) (.ptr k i off) [] [k] []:=
 yZ λL X S h w β a A E G B C=>by
  obtain⟨d0,o0,U,R,M,O⟩:=L;dsimp only at A;subst A;have h1:=fC C E (x:=x) uO hx;have hk':=(G k zV).trans hk;obtain⟨b,n,hc,_,_,_,_⟩:=Pe B hk' I h1;rw[hc]at h1;exact⟨_,by simp[execOp,hc],h1⟩
def Ib (hP:uZ P TT) {xs:List AV} (hx:yX (zK st.tm) x= .sl nn xs) (hT:TT[T]? =some ti) (hd:ti.d= .slice e):
  wX P st (.call ⟨.builtin .len, #[x], #[T]⟩) (.s (.int .i64 (ln xs))) [] [] []:=
 yZ λL X W h w β a B G U M C=>by
  obtain⟨d0,o0,Y,V,R,S⟩:=L;dsimp only at B;subst B;have h1:=fC C G (x:=x) kQ hx;obtain⟨u,I,A⟩:=wH (hP _ _ hT) w;obtain rfl:=uB (A.trans hd)
  obtain⟨b,cap,hc⟩:∃b cap,a.eval x= .slice b (ln xs) cap:=by
   generalize a.eval x=O at h1
   cases h1 with
   |fz _ _ E=>cases E<;>exact⟨_,_,rfl⟩
  exact⟨_,by simp[execOp,resolve,invoke,builtin,Builtin.len_,hc,I,goInt],.fz _ _ (.s _)⟩
def CP (hP:uZ P TT) {xs:List AV} (hx:yX (zK st.tm) x= .ref k off len) (hk:zD st.h k=some (.arr sz xs sl)) (hT:TT[T]? =some ti) (hd:ti.d= .slice e):
  wX P st (.call ⟨.builtin .len, #[x], #[T]⟩) (.s (.int .i64 len)) [] [k] []:=
 yZ λM X W h w β a B G I O C=>by
  obtain⟨d0,o0,Y,V,S,U⟩:=M;dsimp only at B;subst B;have h1:=fC C G (x:=x) kQ hx;have hk':=(I k zV).trans hk;obtain⟨u,L,A⟩:=wH (hP _ _ hT) w;obtain rfl:=uB (A.trans hd)
  obtain⟨b,cap,hc⟩:∃b cap,a.eval x= .slice b len cap:=by
   generalize a.eval x=R at h1
   cases h1 with
   |fz _ _ E=>cases E
   |dref _ _ _ _ hd _=>rw[hk']at hd;cases hd
   |ref0 _ _ _ _ _ _ _ _=>exact⟨_,_,rfl⟩
   |ref _ _ _ _ _ _ _ _ _ _ _ _ _ _=>exact⟨_,_,rfl⟩
  exact⟨_,by simp[execOp,resolve,invoke,builtin,Builtin.len_,hc,L,goInt],.fz _ _ (.s _)⟩
def CQ (hP:uZ P TT) {b:Option Addr} {cap:Nat} (hx:yX (zK st.tm) x= .s (.slice b n cap)) (hT:TT[T]? =some ti) (hd:ti.d= .slice e):
  wX P st (.call ⟨.builtin .len, #[x], #[T]⟩) (.s (.int .i64 n)) [] [] []:=
 yZ λI X U h w β a B E R L C=>by
  obtain⟨d0,o0,V,S,M,O⟩:=I;dsimp only at B;subst B;have hc:=vP C E (x:=x) kQ hx;obtain⟨u,G,A⟩:=wH (hP _ _ hT) w;obtain rfl:=uB (A.trans hd);exact⟨_,by simp[execOp,resolve,invoke,builtin,Builtin.len_,hc,G,goInt],.fz _ _ (.s _)⟩
def Bd (st:St) (o:Option Operand) (A n:Nat):Prop:=match o with
 |none=>n=A
 |some x=>∃k i,yX (zK st.tm) x= .s (.int k i)/\i=(n:Int)
def fK {P:Program} {st:St} {op:Op} {I:Nat->AV} (H:∀t,yI w D h β (I t) (a.eval (.tmp t))) (G:∀t,t∈fI op->I t=zK st.tm t) 
 (h1:∀x,lo=some x->x∈op.operands) (h2:∀x,hi=some x->x∈op.operands) {cap l:Nat} (hl:Bd st lo 0 l) (A:Bd st hi len r) (B:l<=r) (C:r<=cap) (b:Bool):
  (Instr.sliceBounds b len cap (lo.map a.eval) (hi.map a.eval) none).run P w= .ok (l,r,cap) w:=by
 unfold Instr.sliceBounds
 cases lo with
 | none=>
  simp only[Bd]at hl;subst hl
  cases hi with
  |none=>simp only[Bd]at A;subst A;simp
  |some y=>
   obtain⟨k,i,e1,rfl⟩:=A;have E:=vP H G (h2 y Z) e1;simp[Instr.sliceBound,E,asIntOf,C]
 | some x=>
  obtain⟨k,i,e1,rfl⟩:=hl;have E:=vP H G (h1 x Z) e1
  cases hi with
  |none=>simp only[Bd]at A;subst A;simp[Instr.sliceBound,E,asIntOf,B]
  |some y=>
   obtain⟨O,M,e3,rfl⟩:=A;have L:=vP H G (h2 y Z) e3;simp[Instr.sliceBound,E,L,asIntOf,B,C]
theorem aI (hP:uZ P TT) {xs:List AV} (hx:yX (zK st.tm) x= .sl nn xs) (hT:TT[T]? =some ti) (hd:ti.d= .slice e) (he:TT[e]? =some te)
 (hl:Bd st lo 0 l) (hr:Bd st hi (ln xs) r) (V:l<=r) (C:r<=ln xs) (W:∀y,xs[0]? =some y->ln y.cells=te.size):wX P st (.slice T x lo hi none) (.sl nn ((xs.drop l).take (r-l))) [] [] []:=
 yZ λoo X tm h w β a ho hg _ HH Y=>by
  obtain⟨d0,o0,y0,p0,f0,g0⟩:=oo;dsimp only at ho;subst ho;have h1:=fC Y hg (x:=x) uO hx;obtain⟨u,hu,U⟩:=wH (hP _ _ hT) w;obtain rfl:=uB (U.trans hd);have hs:=qK (hP _ _ he) w
  obtain⟨b,cap,hc,G⟩:∃b cap,a.eval x= .slice b (ln xs) cap/\xs.length<=cap:=by
   generalize a.eval x=cx at h1
   cases h1 with
   |fz _ _ I=>
    cases I with
    |nil a cap=>exact⟨_,_,rfl,by simp⟩
    |nil1 a cap=>exact⟨_,_,rfl,by simp⟩
    |sl _ _ b o sz cap f L hL hc hh=>exact⟨_,_,rfl,hc⟩
  have hb:=fK (P:=P) Y hg (lo:=lo) (hi:=hi) (λy B=>by subst B;simp[Op.operands]) (λy B=>by subst B;simp[Op.operands]) hl hr V (zBw C G) true
  have R:(execOp a.eval ⟨d0,.slice T x lo hi none,y0,p0,f0,g0⟩).run P w= .ok (.value (.slice (if cap=l then b else b.map (·.add (l*te.size))) (r-l) (cap-l))) w:=by
   simp only[execOp,Instr.sliceAt,Instr.slice,Sem.run_bind,hu,Result.andThen_ok,hc,zDu,hb,hs,Sem.run_pure]
  refine⟨_,R,.fz _ _ ?_⟩;rw[hc]at h1;have A:((xs.drop l).take (r-l)).length=r-l:=by simp;omega
  by_cases hz:r-l=0
  .have O:(xs.drop l).take (r-l)=[]:=zBv (by omega);rw[O,hz]
   cases nn with
   |false=>exact .nil _ _
   | true=>
    cases h1 with
    |fz _ _ I=>
     cases I with
     |nil1 a cap=>split<;>exact .nil1 _ _
     |sl _ _ b o sz cap f L hL hc hh=>split<;>exact .nil1 _ _
  .cases h1 with
   | fz _ _ I=>
    cases I with
    |nil a cap=>simp at C;omega
    |nil1 a cap=>simp at C;omega
    | sl _ _ b o sz cap f L hL hc hh=>
     have M:¬cap=l:=by omega
     have S:te.size=sz:=by
      obtain⟨y,B⟩:∃y,xs[0]? =some y:=⟨xs[0]'(by omega),by simp⟩;rw[<-W y B,hL.wide 0 y B]
     have E:∀(i:Nat) y,((xs.drop l).take (r-l))[i]? =some y->xs[l+i]? =some y:=λi y B=>by
      rw[zCg]at B;split at B
      .rwa [zCz]at B
      .cases B
     rw[Os M,zCn,ZK,S]
     have:=xM.sl (w:=w) (D:=xT X β) nn ((xs.drop l).take (r-l)) b (o+l*sz) sz (cap-l) (λi j=>f (l+i) j) (λh0=>hz (by rw[<-A,h0];rfl))
      ⟨hL.lt,hL.nd,hL.pos,by rw[A];exact zBw (Nat.sub_le _ _) (zBw C hL.max),λi y B=>hL.wide _ y (E i y B),λi j hi hj=>by
       rw[A]at hi;have:=hL.cell (l+i) j (by omega) hj
       rwa [zB2,<-zFx]at this,λi j hi hj=>hL.one _ _ (by rw[A]at hi;omega) hj⟩ (by omega) (λi y j v B hv=>hh _ y j v (E i y B) hv)
     rwa [A]at this
def cZ (hP:uZ P TT) {xs:List AV} (hx:yX (zK st.tm) x= .ref k off len) (hk:zD st.h k=some (.arr sz xs sl)) (hT:TT[T]? =some ti) (hd:ti.d= .slice e) (he:TT[e]? =some te)
 (hl:Bd st lo 0 l) (hr:Bd st hi len r) (R:l<=r) (V:r<=len) (C:Nat.beq sz te.size=true):wX P st (.slice T x lo hi none) (.ref k (off+l) (r-l)) [] [k] []:=
 yZ λoo X tm h w β a ho hg U HH Ht=>by
  obtain⟨d0,o0,y0,p0,f0,g0⟩:=oo;dsimp only at ho;subst ho;have h1:=fC Ht hg (x:=x) uO hx;have hk':=(U k zV).trans hk;have C:=zBo C;obtain⟨u,hu,O⟩:=wH (hP _ _ hT) w;obtain rfl:=uB (O.trans hd);have hs:=qK (hP _ _ he) w;have hE:=HH.ent k _ hk';generalize M:a.eval x=cx at h1
  have B:∀b cap,cx= .slice b len cap->len<=cap->(execOp a.eval ⟨d0,.slice T x lo hi none,y0,p0,f0,g0⟩).run P w= .ok (.value (.slice (if cap=l then b else b.map (·.add (l*te.size))) (r-l) (cap-l))) w:=by
   intro b cap hc E;have hb:=fK (P:=P) Ht hg (lo:=lo) (hi:=hi) (λy Y=>by subst Y;simp[Op.operands]) (λy Y=>by subst Y;simp[Op.operands]) hl hr R (zBw V E) true;simp only[execOp,Instr.sliceAt,Instr.slice,Sem.run_bind,hu,Result.andThen_ok,M,hc,zDu,hb,hs,Sem.run_pure]
  cases h1 with
  |fz _ _ hf=>cases hf
  |dref _ _ _ _ hd _=>rw[hk']at hd;cases hd
  |ref0 _ _ I L st' b A hn=>
   have S:=B b 0 Z (zAw _);obtain rfl:r=0:=by omega
   obtain rfl:l=0:=by omega
   exact⟨_,S,.ref0 k off I L st' _ A hn⟩
  | ref _ _ _ I L st' b n cap A hb hn hc W=>
   have S:=B _ cap Z hc;have h3:=A;rw[hk']at h3;cases h3;refine⟨_,S,?_⟩;obtain⟨_,_,_,_,g5,_⟩:=hE
   have ac:n<=ln xs:=by
    cases hbk:β k with
    |nil=>rw[hbk]at hb;simp at hb
    |cons q rr=>
     obtain⟨b0,n0⟩:=q;obtain⟨e1,_,e3⟩:=g5 b0 n0 rr hbk;rw[hbk]at hb;simp at hb
     rcases hb with⟨_,rfl⟩|hb
     .omega
     .exact zE3 (e3 b n hb)
   by_cases G:cap=l
   .obtain rfl:r=l:=by omega
    rw[f5 G,show r-r=0 by omega,show cap-r=0 by omega];exact .ref0 k _ sz xs sl _ A (by omega)
   .rw[Os G,zCn,ZK,<-C,<-zB2];exact .ref k (off+l) (r-l) sz xs sl b n (cap-l) A hb (by omega) (by omega) (by rw[show off+l+(cap-l)=off+cap by omega];exact W)
end ops
end
section
def UR (ne:Bool) (h:yS):AV->Option (List AV)
 | .sl _ ys=>some ys
 | .s v=>match v with
  | .slice none 0 0=>some []
  |_=>none
 | .ref k off len=>match h k with
  |some (.arr _ xs fl)=>bif fl.nest&& !ne then none else some ((xs.drop off).take len)
  |_=>none
 |_=>none
abbrev CR (h:yS):AV->Option (List AV):=UR false h
def PK:AV->List Nat
 | .ref k _ _=>[k]
 |_=>[]
structure Qz (w:World) (D:Nat->Prop) (h:yS) (β:uM) (ne:Bool) (ys:List AV) (sz:Nat) (b o:Nat) (f:Nat->Nat->Value):Prop where
 wide:∀(i:Nat) (y:AV),ys[i]? =some y->y.cells.length=sz
 cell:∀i j,i<ys.length->j<sz->w.cell? ⟨b,o+i*sz+j,none⟩=some (f i j)
 one:∀i j,i<ys.length->j<sz->(f i j).oneCell'=true
 rep:gF w D h β ne ys f
theorem cQ (H:jL X h β w) {x:AV} (hv:yI w (xT X β) h β x c) {ys:List AV} (C:UR ne h x=some ys) (L:∀y,ys[0]? =some y->ln y.cells=sz):
  ∃a cap,c= .slice a (ln ys) cap/\ys.length<=cap/\ys.length<=dY/\(ys≠[]->∃b o f,a=some ⟨b,o,none⟩/\Qz w (xT X β) h β ne ys sz b o f):=by
 cases hv with
 | fz _ _ hf=>
  cases hf with
  |s v=>
   simp only[UR]at C
   grind
  |nil a cap=>cases C;exact⟨a,cap,rfl,by simp,by simp,λh=>absurd Z h⟩
  |nil1 a cap=>cases C;exact⟨some a,cap,rfl,by simp,by simp,λh=>absurd Z h⟩
  | sl nn xs b o A cap f G hL hc hh=>
   cases C
   have U:A=sz:=by
    obtain⟨y,B⟩:∃y,ys[0]? =some y:=by cases ys with|nil=>exact absurd Z G|cons y _=>exact⟨y,rfl⟩
    rw[<-L y B,hL.wide 0 y B]
   subst U;exact⟨_,cap,rfl,hc,hL.max,λ_=>⟨b,o,f,rfl,hL.wide,hL.cell,hL.one,.ofF hh⟩⟩
  |_=>cases C
 | ref k off len A xs st b n cap hk hb M hc U=>
  simp only[UR,hk]at C
  obtain⟨I,C⟩:(ne=false->st.nest=false)/\some ((xs.drop off).take len)=some ys:=by
   grind
  obtain rfl:=zD2 C;obtain⟨g1,g2,g3,R,g5,f,S,V,W⟩:=H.ent k _ hk
  have ag:n<=ln xs:=by
   cases hbk:β k with
   |nil=>rw[hbk]at hb;simp at hb
   |cons q rr=>
    grind
  have hl:((xs.drop off).take len).length=len:=by simp;omega
  have E:∀(i:Nat) y,((xs.drop off).take len)[i]? =some y->xs[off+i]? =some y:=λi y B=>by
   rw[zCg]at B;split at B
   .rwa [zCz]at B
   .cases B
  refine⟨_,cap,by rw[hl],by rw[hl];exact hc,by omega,λG=>?_⟩
  have O:A=sz:=by
   obtain⟨y,B⟩:∃y,((xs.drop off).take len)[0]? =some y:=by
    cases Y:(xs.drop off).take len with|nil=>exact absurd Y G|cons y _=>exact⟨y,rfl⟩
   rw[<-L y B,R _ y (E 0 y B)]
  subst O;obtain⟨c,el,e1,e2,e3,_⟩:=W b n hb;refine⟨b,off*A,λi j=>f (off+i) j,rfl,λi y B=>R _ y (E i y B),λi j hi hj=>?_,λi j hi hj=>V _ _ Ve hj,λi y j v B hv=>⟨S.toV _ y j v (E i y B) hv,λM=>S.toF (I M) _ y j v (E i y B) hv⟩⟩;rw[hl]at hi;rw[uP e1,show off*A+i*A+j=(off+i)*A+j by rw[zB2]];exact e3 _ _ (by omega) hj
 | ref0 k off A xs st a hk M=>
  simp only[UR,hk,zD7]at C
  obtain rfl: []=ys:=by
   cases ac:st.nest<;>cases ne<;>simp_all
  exact⟨a,0,rfl,by simp,by simp,λh=>absurd Z h⟩
 |dref _ _ _ _ hk _=>simp[UR,hk]at C
 |_=>simp[UR]at C
def flat (f:Nat->Nat->Value) (n sz:Nat):List Value:=(pi (n*sz)).map λq=>f (q/sz) (q % sz)
def zZ (f:Nat->Nat->Value) (n sz:Nat):(flat f n sz).length=n*sz:=by simp[flat]
def HW (f:Nat->Nat->Value) {q:Nat} (h:q<n*sz):(flat f n sz)[q]? =some (f (q/sz) (q % sz)):=by simp[flat,h]
theorem kR (f:Nat->Nat->Value) (hi:i<n) (hj:j<sz):(flat f n sz)[i*sz+j]? =some (f i j):=by
 have h1:i*sz+j<n*sz:=by
  have:=zBe sz (show i+1<=n by omega)
  grind
 rw[HW f h1];have h2:(i*sz+j)/sz=i:=Nat.div_eq_of_lt_le (by omega) (by rw[zB2,zC2];omega)
 grind [flat,Nat.mul_comm,Nat.mul_add_mod,Nat.mod_eq_of_lt]
theorem Qz.flat {ys:List AV} (C:Qz w D h β ne ys sz b o f) (G:1<=sz):
  (∀j u,(Av.flat f (ln ys) sz)[j]? =some u->w.cell? ((⟨b,o,none⟩:Addr).add j)=some u)/\∀u∈Av.flat f (ln ys) sz,u.oneCell'=true:=by
 have B:∀j,j<ln ys*sz->j/sz<ln ys/\j % sz<sz/\j/sz*sz+j % sz=j:=λj hj=>
  ⟨(Nat.div_lt_iff_lt_mul (by omega)).2 hj,zGb _ (by omega),by rw[zEs];exact Nat.div_add_mod j sz⟩
 refine⟨λj u A=>?_,λu A=>?_⟩
 .have hj:j<ln ys*sz:=by rw[<-zZ f (ln ys) sz];exact(zBj.1 A).1
  rw[HW f hj]at A;cases A;obtain⟨h1,h2,E⟩:=B j hj;have:=C.cell _ _ h1 h2;rw[ZK]
  grind
 .obtain⟨j,A⟩:=zD9 A;have hj:j<ln ys*sz:=by rw[<-zZ f (ln ys) sz];exact(zBj.1 A).1
  rw[HW f hj]at A;cases A;obtain⟨h1,h2,_⟩:=B j hj;exact C.one _ _ h1 h2
section runs
variable {P:Program} {TT:List TI} (hP:uZ P TT) {T e:Nat} {ti te:TI} (hT:TT[T]? =some ti) (hd:ti.d= .slice e) (he:TT[e]? =some te) (w:World)
include hP hT hd he
theorem wY:∃(i:TypeInfo) (z:Value),P.underlying T=some (.slice e)/\P.info? e=some i/\i.zero=some z/\i.size=te.size/\i.bytes=te.bytes/\z.cells.toList=te.zero:=by
 obtain⟨_,u,_,_,E,_,A,_⟩:=uG (hP _ _ hT);obtain rfl:=uB (A.symm.trans hd);obtain⟨i,_,z,hi,_,G,_,C,hb,B⟩:=uG (hP _ _ he)
 grind
def gB (ty:Nat) (b B:Option Addr) (n cap A:Nat) (hc:n<=cap):(Builtin.append_ #[T,T] ty #[.slice b n cap,.slice B 0 A]).run P w= .ok (.slice b n cap) w:=by
 obtain⟨i,z,C,hi,E,_⟩:=wY hP hT hd he
 have h1:(Builtin.firstCells i.size 0 (.slice B 0 A)).run P w= .ok #[] w:=by
  cases B with
  |none=>rfl
  |some a=>simp only[Builtin.firstCells,loadCells,zEa,loadCellsFrom];rfl
 cases b with
 |none=>simp[Builtin.append_,run_underlying C,sizeOf,typeInfo,hi,Builtin.lenOf,hc,h1]
 |some a=>simp[Builtin.append_,run_underlying C,sizeOf,typeInfo,hi,Builtin.lenOf,hc,h1,storeCells]
def bB (ty:Nat) (g o n cap:Nat) (A:Array Value) (el:Nat) (L:w.heap[g]? =some (.cells A el (0,0))) (a:Addr) (m c:Nat) (news:List Value) (hl:ln news=m*te.size)
  (C:∀j u,news[j]? =some u->w.cell? (a.add j)=some u) (h1:∀u∈news,u.oneCell'=true) (E:n+m<=cap) (B:o+n*te.size+ln news<=A.size):
  (Builtin.append_ #[T,T] ty #[.slice (some ⟨g,o,none⟩) n cap,.slice (some a) m c]).run P w=
   .ok (.slice (some ⟨g,o,none⟩) (n+m) cap) (w.setRow g (A.toList.take (o+n*te.size)++news++A.toList.drop (o+n*te.size+ln news)).toArray):=by
 obtain⟨i,z,O,hi,R,M,_⟩:=wY hP hT hd he;rw[<-M]at hl B⊢;have I:=run_firstCells_some (P:=P) w i.size m a m c news hl C;have G:=run_storeCells_at P g (o+n*i.size) el news 0 A w L (by simpa using B) h1;simp only[zDh]at G;simp[Builtin.append_,run_underlying O,sizeOf,typeInfo,hi,Builtin.lenOf,E,I,ZK,G]
end runs
section ops
variable {P:Program} {TT:List TI} {st:St}
def fL {x:AV} (H:∀k,k∈PK x->h k=h' k):UR ne h x=UR ne h' x:=by
 cases x with
 |ref k off len=>simp only[UR];rw[H k (by simp[PK])]
 |_=>rfl
theorem ZL (hP:uZ P TT) {xv:AV} {ys:List AV} (kn:Nat) (hs:yX (zK st.tm) s= .s (.slice none 0 0)) (hx:yX (zK st.tm) x=xv) (hT:TT[T]? =some ti) (hd:ti.d= .slice e) (L:TT[e]? =some te)
 (av:CR (zD st.h) xv=some ys) (au:∀y,ys[0]? =some y->ln y.cells=te.size) (R:Nat.ble 1 te.size=true) (hb:Nat.ble te.bytes 65536=true) (hz:Nat.beq (ln te.zero) te.size=true) (ax:te.zero.all (·.oneCell')=true) (hn:ln ys<=1073741824):
  wX P st (.call ⟨.builtin .append, #[s,x], #[T,T]⟩) (.ref kn 0 (ln ys)) [(kn,.arr te.size ys false)] (PK xv) [kn]:=by
 refine⟨?_⟩;intro X tm h hg hr ar o a w β ho I Ht;obtain⟨d0,o0,y0,p0,f0,g0⟩:=o;dsimp only at ho;subst ho;have M:=ar kn zV;have h1:=vP Ht hg (x:=s) kQ hs;have h2:=fC Ht hg (x:=x) kQ hx;have R:=zA8 R;have hb:=zA8 hb;obtain⟨ad,cap,hc,_,C,V⟩:=cQ I h2 ((fL hr).trans av) au;obtain⟨i,z,hu,hi,a1,e1,e2,e3⟩:=wY hP hT hd L;have hz:=zBo hz
 have O:∀{v w'},(Builtin.append_ #[T,T] y0 #[.slice none 0 0,a.eval x]).run P w= .ok v w'->(execOp a.eval ⟨d0,.call ⟨.builtin .append, #[s,x], #[T,T]⟩,y0,p0,f0,g0⟩).run P w= .ok (.value v) w':=λhv=>by
  simp[execOp,resolve,invoke,builtin,h1,hv]
 by_cases A:ys=[]
 .subst A;rw[O (by rw[hc];exact gB hP hT hd L w y0 none ad 0 0 cap (zAw _))]
  refine⟨cY β kn [],xU.step I kn _ _ (zAw _) (λ_ _ _=>rfl) Z Z Z (λb n hm=>by simp at hm) (λ_ _ _=>rfl) (λe L=>by rw[M]at L;cases L) (λE=>⟨R,by simp,λh=>absurd Z h,λi y W=>by simp at W,
   λb n r hr=>by rw[yL]at hr;simp at hr,λ_ _=>undef,λi y j v W _=>by simp at W,λi j hi _=>by simp at hi,λb n hm=>by rw[yL]at hm;simp at hm⟩),.ref0 kn 0 _ _ _ _ (qU _ _ _) zV⟩
 .obtain⟨b,q,f,rfl,Y⟩:=V A
  have S:0<ln ys:=by cases ys with|nil=>exact absurd Z A|cons _ _=>simp
  obtain⟨ac,ag⟩:=Y.flat R
  have B:ln ys*i.bytes<=281474976710656:=by
   have:=zDi hn (show i.bytes<=65536 by omega);omega
  have U:=run_append_nil (P:=P) w T y0 e i z hu hi a1 ⟨b,q,none⟩ (ln ys) cap (flat f (ln ys) te.size) (by rw[zZ,e1]) ac S (by unfold dY at C;omega) B;rw[O (by rw[hc];exact U)];have HD:=I.drew (w.drawn+1);have az:z.cells.size=ln te.zero:=by rw[<-e3];simp
  have ap:=grownCap_ge w (ln ys) 0 e
  obtain⟨β',G,hv⟩:=xU.newArr HD M ((flat f (ln ys) te.size).toArray++Builtin.zeroCells z.cells (grownCap w (ln ys) 0 e-ys.length)) e te.size ys (grownCap w (ln ys) 0 e) f R C ap (by
    simp only[zE5,zDq,zZ,size_zeroCells,az,hz,<-zB2]
    congr 1;omega) (kD.get ((kD.arr ag).app (kD.zero (λv hv=>zA5.1 ax v NC) _))) Y.wide
   (λi j hi hj=>by
    rw[zCu (by simp[zZ];have:=zBe te.size (show i+1<=ln ys by omega);rw[zB2,zC2]at this;omega)]
    simpa using kR f hi hj) Y.one (λi y j v W hv=>xM.evo (w:=w) (w':={w with drawn:=w.drawn+1}) (zAw _) (λ_ _ hd=>⟨rfl,hd⟩) (Y.rep.toF Z i y j v W hv))
  exact⟨β',xU.trans I (xU.drew I (w.drawn+1)) G,hv⟩
def QM (hP:uZ P TT) {xv:AV} {ys:List AV} (hs:yX (zK st.tm) s= .s (.slice none 0 0)) (hx:yX (zK st.tm) x=xv) (hT:TT[T]? =some ti) (hd:ti.d= .slice e) (he:TT[e]? =some te)
 (ac:CR (zD st.h) xv=some ys) (Y:∀y,ys[0]? =some y->ln y.cells=te.size) (S:Nat.ble 1 te.size=true) (hb:Nat.ble te.bytes 65536=true) (hz:Nat.beq (ln te.zero) te.size=true) (hn:ln ys<=1073741824):
  wX P st (.call ⟨.builtin .append, #[s,x], #[T,T]⟩) (.sl false ys) [] (PK xv) []:=by
 refine⟨?_⟩;intro X tm h hg hr _ o a w β ho E Ht;obtain⟨d0,o0,U,p0,f0,g0⟩:=o;dsimp only at ho;subst ho;have h1:=vP Ht hg (x:=s) kQ hs;have h2:=fC Ht hg (x:=x) kQ hx;have S:=zA8 S;have hb:=zA8 hb;obtain⟨ad,cap,hc,_,C,O⟩:=cQ E h2 ((fL hr).trans ac) Y;obtain⟨i,z,hu,hi,ag,e1,e2,e3⟩:=wY hP hT hd he;have hz:=zBo hz
 have I:∀{v w'},(Builtin.append_ #[T,T] U #[.slice none 0 0,a.eval x]).run P w= .ok v w'->(execOp a.eval ⟨d0,.call ⟨.builtin .append, #[s,x], #[T,T]⟩,U,p0,f0,g0⟩).run P w= .ok (.value v) w':=λhv=>by
  simp[execOp,resolve,invoke,builtin,h1,hv]
 by_cases A:ys=[]
 .subst A;rw[I (by rw[hc];exact gB hP hT hd he w U none ad 0 0 cap (zAw _))];rw[dZ];exact⟨β,xU.refl E,.fz _ _ (.nil _ _)⟩
 .obtain⟨b,q,f,rfl,R⟩:=O A
  have L:0<ln ys:=by cases ys with|nil=>exact absurd Z A|cons _ _=>simp
  obtain⟨V,ap⟩:=R.flat S
  have B:ln ys*i.bytes<=281474976710656:=by
   have:=zDi hn (show i.bytes<=65536 by omega);omega
  have M:=run_append_nil (P:=P) w T U e i z hu hi ag ⟨b,q,none⟩ (ln ys) cap (flat f (ln ys) te.size) (by rw[zZ,e1]) V L (by unfold dY at C;omega) B;rw[I (by rw[hc];exact M)];have HD:=E.drew (w.drawn+1);have ar:z.cells.size=ln te.zero:=by rw[<-e3];simp
  have W:=grownCap_ge w (ln ys) 0 e;have G:=xU.newFz HD ((flat f (ln ys) te.size).toArray++Builtin.zeroCells z.cells (grownCap w (ln ys) 0 e-ys.length)) e
  have hv:=xM.newArr HD ((flat f (ln ys) te.size).toArray++Builtin.zeroCells z.cells (grownCap w (ln ys) 0 e-ys.length)) e te.size ys (grownCap w (ln ys) 0 e) f S C W R.wide
   (λi j hi hj=>by
    rw[zCu (by simp[zZ];have:=zBe te.size (show i+1<=ln ys by omega);rw[zB2,zC2]at this;omega)]
    simpa using kR f hi hj) R.one (λi y j v hy hv=>xM.evo (w:=w) (w':={w with drawn:=w.drawn+1}) (zAw _) (λ_ _ hd=>⟨rfl,hd⟩) (R.rep.toF Z i y j v hy hv))
  rw[dZ];refine⟨β,xU.trans E (xU.drew E (w.drawn+1)) G,.fz _ _ hv.wkF⟩
theorem wR (st' ne:Bool) (hP:uZ P TT) {k:Nat} {xs:List AV} {xv:AV} {ys:List AV} (hs:yX (zK st.tm) s= .ref k 0 (ln xs)) (hk:zD st.h k=some (.arr sz xs sl)) (hx:yX (zK st.tm) x=xv) (hT:TT[T]? =some ti) (hd:ti.d= .slice e) (he:TT[e]? =some te)
 (br:ne=false->sl.nest=false) (cj:UR ne (zD st.h) xv=some ys) (ci:∀y,ys[0]? =some y->ln y.cells=sz) (O:Nat.beq sz te.size=true) (hb:Nat.ble te.bytes 65536=true) (hz:Nat.beq (ln te.zero) te.size=true) (ck:te.zero.all (·.oneCell')=true) (hn:ln xs+ln ys<=1073741824) (bu:st'=false->xs=[]):
    wX P st (.call ⟨.builtin .append, #[s,x], #[T,T]⟩) (.ref k 0 (xs++ys).length) [(k,.arr sz (xs++ys) ⟨st',ne⟩)] (k::PK xv) []:=by
  refine⟨?_⟩;intro X tm h hg hr _ o a w β ho HH Ht;obtain⟨d0,o0,y0,p0,f0,g0⟩:=o;dsimp only at ho;subst ho;have hk':=(hr k zV).trans hk;have h1:=fC Ht hg (x:=s) kQ hs;have h2:=fC Ht hg (x:=x) kQ hx;have O:=zBo O;have hb:=zA8 hb;have hz:=zBo hz;obtain⟨g1,g2,g3,g4,g5,fs,g6,g7,g8⟩:=HH.ent k _ hk';obtain⟨ad,cap,hc,_,cm,b6⟩:=cQ HH h2 ((fL λk' hk=>hr k' (by simp[hk])).trans cj) ci;obtain⟨i,z,hu,hi,bx,e1,e2,e3⟩:=wY hP hT hd he;have C:(xs++ys).length=ln xs+ln ys:=by simp
  have a4:∃bd S,a.eval s= .slice bd (ln xs) S/\xs.length<=S/\((∃b,bd=some ⟨b,0,none⟩/\(b,ln xs)∈β k/\S*sz=wO w b)\/(xs=[]/\S=0)):=by
    generalize a.eval s=cs at h1;generalize hL:ln xs=L at h1
    cases h1 with
    |fz _ _ hf=>cases hf
    |dref _ _ _ _ hd _=>rw[hk']at hd;cases hd
    |ref0 _ _ _ _ _ bd _ _=>exact⟨bd,0,rfl,zAw _,.inr ⟨zBv hL,rfl⟩⟩
    | ref _ _ _ cr cu st' b n S b4 hb hn hc ch=>
      have h3:=b4;rw[hk']at h3;cases h3;subst hL
      have ce:n=ln xs:=by
        cases hbk:β k with
        |nil=>rw[hbk]at hb;simp at hb
        | cons q R=>
          obtain⟨M,n0⟩:=q;obtain⟨e1,_,e3⟩:=g5 M n0 R hbk;rw[hbk]at hb;simp at hb
          rcases hb with⟨_,rfl⟩|hb
          · exact e1
          · have:=e3 b n hb;omega
      subst ce;exact⟨_,S,by rw[zEa],hc,.inl ⟨b,rfl,hb,by rwa [zB7]at ch⟩⟩
  obtain⟨bd,S,a3,cd,a4⟩:=a4
  have bl:∀{v w'},(Builtin.append_ #[T,T] y0 #[a.eval s,a.eval x]).run P w= .ok v w'->(execOp a.eval ⟨d0,.call ⟨.builtin .append, #[s,x], #[T,T]⟩,y0,p0,f0,g0⟩).run P w= .ok (.value v) w':=λhv=>by
    simp[execOp,resolve,invoke,builtin,hv]
  rw[C];by_cases ax:ys=[]
  ·
    subst ax;rw[bl (by rw[a3,hc];exact gB hP hT hd he w y0 bd ad (ln xs) S cap cd)]
    have G:=xU.step (w':=w) HH k (.arr sz (xs++[]) ⟨st',ne⟩) (β k) (zAw _) (λ_ _ _=>rfl) Z Z Z (λb n A=> .inl ⟨n,A⟩) (λ_ _ _=>rfl) (λe he=>by rw[hk']at he;cases he;exact .inr ⟨⟨_,_,rfl,by simp⟩,λ_ n A=>⟨n,zAw _,A⟩⟩)
      (λE=>⟨g1,by simpa using g2,λh=>by rw[yL];exact g3 OZ,λi y hy=>g4 i y (by simpa using hy),λb n r hr=>by
        rw[yL]at hr;obtain⟨q1,_,q3⟩:=g5 b n r hr
        exact⟨by simpa using q1,λh b' n' A=>by have:=q3 b' n' A;rw[bu h]at this;simp at this,by simpa using q3⟩,fs,λi y j v hy hv=>⟨(g6.toV i y j v (by simpa using hy) hv).evo E,λhn=>(g6.toF (br hn) i y j v (by simpa using hy) hv).evo E.size E.fz⟩,λi j hi hj=>g7 i j DY hj,λb n A=>by rw[yL]at A;exact g8 b n A⟩)
    exact⟨_,G,(a3▸h1:yI w (xT X β) h β (.ref k 0 (ln xs)) (.slice bd (ln xs) S)).evo G.evo⟩
  · obtain ⟨b2, q,f,rfl,hS⟩:=b6 ax
    have b5:0<ln ys:=by cases ys with|nil=>exact absurd Z ax|cons _ _=>simp
    obtain⟨a5,ba⟩:=hS.flat g1
    have hbk:β k=[]\/∃M R,β k=(M,ln xs)::R:=by
      cases hbk:β k with
      |nil=>exact .inl Z
      |cons q R=>obtain⟨M,n0⟩:=q;obtain⟨q1,_⟩:=g5 M n0 R hbk;exact .inr ⟨M,R,by rw[q1]⟩
    let f':Nat->Nat->Value:=λi j=>if i<ln xs then fs i j else f (i-xs.length) j
    have bz:∀(i:Nat) y,(xs++ys)[i]? =some y->(i<ln xs/\xs[i]? =some y)\/(¬i<ln xs/\ys[i-xs.length]? =some y):=λi y hy=>by
      by_cases hi:i<ln xs
      · rw[zBp hi]at hy;exact .inl ⟨hi,hy⟩
      · rw[zBq (by omega)]at hy;exact .inr ⟨hi,hy⟩
    have a2:∀(i:Nat) (y:AV),(xs++ys)[i]? =some y->ln y.cells=sz:=λi y hy=>by
      rcases bz i y hy with⟨_,h⟩|⟨_,h⟩
      · exact g4 i y h
      · exact hS.wide _ y h
    have a6:∀i j,i<(xs++ys).length->j<sz->(f' i j).oneCell'=true:=λi j hi hj=>by
      simp only[f'];split
      · exact g7 i j ‹_› hj
      · exact hS.one _ _ (by rw[C]at hi;omega) hj
    have a7:∀{w':World} {D':Nat->Prop} {h':yS} {β':uM},EG w (xT X β) h β w' D' h' β'->gF w' D' h' β' ne (xs++ys) f':=λE i y j v hy hv=>by
      simp only[f']
      rcases bz i y hy with⟨hi,h⟩|⟨hi,h⟩
      · rw[f5 hi];exact⟨(g6.toV i y j v h hv).evo E,λhn=>(g6.toF (br hn) i y j v h hv).evo E.size E.fz⟩
      · rw[Os hi];exact⟨(hS.rep.toV _ y j v h hv).evo E,λhn=>(hS.rep.toF hn _ y j v h hv).evo E.size E.fz⟩
    by_cases ar:ln xs+ln ys<=S
    ·
      rcases a4 with⟨b,rfl,A,cb⟩|⟨b7,cn⟩
      case inr=>omega
      obtain⟨V,el,c1,c2,c3,c4⟩:=g8 b _ A
      have cc:S*sz<=V.size:=by
        have:wO w b=V.size:=by unfold wO World.shape?;rw[c1];rfl
        omega
      have au:(ln xs+ln ys)*sz<=V.size:=zBw (zBe _ ar) cc
      have a1:=bB hP hT hd he w y0 b 0 (ln xs) S V el c1 ⟨b2,q,none⟩ (ln ys) cap (flat f (ln ys) sz) (by rw[zZ,O]) a5 ba ar (by
        rw[zZ,<-O,zB7,<-zB2];exact au)
      rw[bl (by rw[a3,hc];exact a1)];generalize I:(V.toList.take (0+ln xs*te.size)++flat f (ln ys) sz++V.toList.drop (0+ln xs*te.size+(flat f (ln ys) sz).length)).toArray=B
      have U:B.size=V.size:=by
        rw[<-I];simp only[zDq,zAv,zBg,zBr,zDs,zZ,zB7,<-O];rw[zB2]at au;omega
      have ap:∀q,q<B.size->(B.getD q undef).oneCell'=true:=by
        rw[<-I];refine kD.get (kD.arr λv hv=>?_);have b1:=kD.of c4
        rcases zBc.1 hv with hv|hv
        · rcases zBc.1 hv with hv|hv
          · exact b1 v (zCo hv)
          · exact ba v hv
        · exact b1 v (zBz hv)
      have ac:∀i j,i<ln xs+ln ys->j<sz->B[i*sz+j]? =some (f' i j):=λi j hi hj=>by
        rw[<-I];simp only[f',zDg,zB7,<-O];rw[zB2]at au;by_cases ag:i<ln xs
        · have av:i*sz+j<ln xs*sz:=by
            have:=zBe sz (show i+1<=ln xs by omega);rw[zB2,zC2]at this;omega
          rw[f5 ag,zBp qA,zBp qA,zCg,f5 av];simpa using c3 i j ag hj
        · have b3:ln xs*sz<=i*sz:=zBe _ (by omega);have e4:i*sz+j-xs.length*sz=(i-xs.length)*sz+j:=by rw[zFm];omega
          have av:(i-xs.length)*sz+j<ln ys*sz:=by
            have:=zBe sz (show(i-xs.length)+1<=ln ys by omega);rw[zB2,zC2]at this;omega
          rw[Os ag,zBp (by simp[zZ];omega),zBq qA];have e5:(List.take (ln xs*sz) V.toList).length=ln xs*sz:=by simp;omega
          rw[e5,e4];exact kR f (by omega) hj
      obtain⟨M,R,hbk⟩:=hbk.resolve_left (λY=>by rw[Y]at A;simp at A)
      have ca:M=b:=by
        rw[hbk]at A;simp at A
        rcases A with rfl|A
        · rfl
        · have:=(g5 M _ R hbk).2.2 b _ A;omega
      subst ca
      have G := xU.step (w' := w.setRow M B) HH k (.arr sz (xs++ys) ⟨st',ne⟩) ((M,ln xs+ln ys)::R) zV (λj hj hn=>setRow_other w M j B (λe=>hn (ln xs) Te)) Z Z Z
        (λb n A=>by
          simp at A
          rcases A with⟨rfl,_⟩|A
          · exact .inl ⟨ln xs,by rw[hbk];simp⟩
          · exact .inl ⟨n,by rw[hbk];simp[A]⟩) (λb n _=>kJ c1 U b)
        (λe he=>by
          rw[hk']at he;cases he;refine .inr ⟨⟨_,_,rfl,by rw[C];omega⟩,λb n A=>?_⟩;rw[hbk]at A;simp at A
          rcases A with⟨rfl,rfl⟩|A
          · exact⟨ln xs+ln ys,by omega,by simp⟩
          · exact⟨n,zAw _,by simp[A]⟩)
        (λE=>⟨g1,by rw[C];unfold dY;omega,λ_=>by rw[yL];simp,a2,λb n r hr=>by
          rw[yL]at hr;simp at hr;obtain⟨⟨rfl,rfl⟩,rfl⟩:=hr
          exact⟨C.symm,λh b' n' A=>by have:=(g5 M _ R hbk).2.2 b' n' A;rw[bu h]at this;simp at this,λb' n' A=>by have:=(g5 M _ R hbk).2.2 b' n' A;rw[C];omega⟩,f',a7 E,a6,λb n A=>by
          rw[yL]at A;simp at A;by_cases a9:b=M
          · subst a9
            have bf:n<=ln xs+ln ys:=by
              rcases A with⟨_,rfl⟩|A
              · omega
              · have:=(g5 b _ R hbk).2.2 b n A;omega
            exact⟨B,el,setRow_heap w _ _ _ _ _ c1,by rw[U];exact zBw (zBe _ bf) au,λi j hi hj=>ac i j (by omega) hj,ap⟩
          · have A : (b, n) ∈ R := by   rcases A with⟨h,_⟩|A;· exact absurd h a9
                                        · exact A
            obtain⟨c',a8,d1,d2,d3,d4⟩:=g8 b n (by rw[hbk];simp[A]);have bf:=(g5 M _ R hbk).2.2 b n A
            exact⟨c',a8,(setRow_other w M b B a9).trans d1,d2,λi j hi hj=>by simp only[f'];rw[f5 (by omega)];exact d3 i j hi hj,d4⟩⟩)
      refine⟨_,G,?_⟩
      have:=yI.ref (w:=w.setRow M B) (D:=xT X (cY β k ((M,ln xs+ln ys)::R))) (h:=over [(k,.arr sz (xs++ys) ⟨st',ne⟩)] h) (β:=cY β k ((M,ln xs+ln ys)::R)) k 0 (ln xs+ln ys) sz (xs++ys) ⟨st',ne⟩ M (ln xs+ln ys) S (qU _ _ _)
        (by rw[yL];simp) (by omega) ar (by rw[kJ c1 U,zB7];exact cb)
      rwa [zEa]at this
    ·
      have W:(ln xs+ln ys)*i.bytes<=140737488355328:=by
        have:=zDi hn (show i.bytes<=65536 by omega);omega
      have b3:=grownCap_ge w (ln xs+ln ys) S e;have cl:z.cells.size=ln te.zero:=by rw[<-e3];simp
      have bb:∃olds:List Value,(∀u∈olds,u.oneCell'=true)/\olds.length=ln xs*sz/\(∀i j,i<ln xs->j<sz->olds[i*sz+j]? =some (fs i j))/\
          (Builtin.append_ #[T,T] y0 #[.slice bd (ln xs) S,.slice (some ⟨b2,q,none⟩) (ln ys) cap]).run P w= .ok (.slice (some ⟨w.heap.size,0,none⟩) (ln xs+ln ys) (grownCap w (ln xs+ln ys) S e))
            (w.drew.alloc (.cells (olds.toArray++(flat f (ln ys) sz).toArray++Builtin.zeroCells z.cells (grownCap w (ln xs+ln ys) S e-(ln xs+ln ys))) e)):=by
        rcases a4 with⟨b,rfl,A,_⟩|⟨rfl,rfl⟩
        · obtain⟨V,el,c1,c2,c3,_⟩:=g8 b _ A;have b9:Qz w (xT X β) h β ne xs sz b 0 fs:=⟨g4,λi j hi hj=>by rw[uP c1,zB7];exact c3 i j hi hj,g7,λi x j v hx hv=>⟨g6.toV i x j v hx hv,λhn=>g6.toF (br hn) i x j v hx hv⟩⟩;obtain⟨q1,q2⟩:=b9.flat g1;exact⟨flat fs (ln xs) sz,q2,zZ _ _ _,λi j hi hj=>kR fs hi hj,run_append_grow (P:=P) w T y0 e i z hu hi bx ⟨b,0,none⟩ (ln xs) S (flat fs (ln xs) sz) (by rw[zZ,O,e1]) q1 ⟨b2,q,none⟩ (ln ys) cap (flat f (ln ys) sz) (by rw[zZ,O,e1]) a5 (by omega) (by omega) (growslice_fits (by omega) W)⟩
        · refine⟨[],(λu hu=>by simp at hu),by simp,λi j hi _=>by simp at hi,?_⟩
          cases bd with
          | none=>
            have:=run_append_nil (P:=P) w T y0 e i z hu hi bx ⟨b2,q,none⟩ (ln ys) cap (flat f (ln ys) sz) (by rw[zZ,O,e1]) a5 b5 (by omega) (by simp only[zBx,zB7]at W;omega);simpa using this
          | some ad=>
            have:=run_append_grow (P:=P) w T y0 e i z hu hi bx ad 0 0 [] zV zV ⟨b2,q,none⟩ (ln ys) cap (flat f (ln ys) sz) (by rw[zZ,O,e1]) a5 (by omega) (by omega) (growslice_fits (by omega) (by simpa using W));simpa using this
      obtain⟨olds,cf,az,cg,a1⟩:=bb;rw[bl (by rw[a3,hc];exact a1)];generalize co:grownCap w (ln xs+ln ys) S e=gc at *;generalize I:olds.toArray++(flat f (ln ys) sz).toArray++Builtin.zeroCells z.cells (gc-(ln xs+ln ys))=B
      have ap:∀q,q<B.size->(B.getD q undef).oneCell'=true:=by
        rw[<-I];exact kD.get (((kD.arr cf).app (kD.arr ba)).app (kD.zero (λv hv=>zA5.1 ck v NC) _))
      have U:B.size=gc*sz:=by
        rw[<-I];simp only[zE5,zDq,zZ,size_zeroCells,cl,hz,<-O,az,<-zB2]
        congr 1
        omega
      have ac:∀i j,i<ln xs+ln ys->j<sz->B[i*sz+j]? =some (f' i j):=λi j hi hj=>by
        have av:i*sz+j<(ln xs+ln ys)*sz:=by
          have:=zBe sz (show i+1<=ln xs+ln ys by omega);rw[zB2,zC2]at this;omega
        rw[zB2]at av;rw[<-I,zCu (by simp[zZ,az];omega)];simp only[f'];by_cases ag:i<ln xs
        · have av:i*sz+j<ln xs*sz:=by
            have:=zBe sz (show i+1<=ln xs by omega);rw[zB2,zC2]at this;omega
          rw[f5 ag,zCu (by simp[az];omega)];simpa using cg i j ag hj
        · have b3:ln xs*sz<=i*sz:=zBe _ (by omega);have e4:i*sz+j-xs.length*sz=(i-xs.length)*sz+j:=by rw[zFm];omega
          rw[Os ag,zEt (by simp[az];omega)];simp only[zDq,az,e4,zDg];exact kR f (by omega) hj
      have HD:=HH.drew (w.drawn+1);have dr:∀{w':World} {D':Nat->Prop} {h':yS} {β':uM},EG w.drew (xT X β) h β w' D' h' β'->EG w (xT X β) h β w' D' h' β':=λE=>⟨E.size,E.fz,E.bs,E.key⟩
      have cq:=grownCap_ge w (ln xs+ln ys) S e;have bk:=a6
      have G := xU.step (w:=w.drew) (w':=w.drew.alloc (.cells B e)) HD k (.arr sz (xs++ys) ⟨st',ne⟩) ((w.heap.size,ln xs+ln ys)::β k) zV (λj hj _=>heap_alloc_old w.drew _ j hj) Z Z Z
        (λb n A=>by
          simp at A
          rcases A with⟨rfl,_⟩|A
          · exact .inr zV
          · exact .inl ⟨n,A⟩) (λb n A=>by
          unfold wO World.shape?
          rw[heap_alloc_old w.drew _ b (HH.lt b (.inr ⟨k,n,A⟩))])
        (λe he=>by
          rw[hk']at he;cases he
          exact .inr ⟨⟨_,_,rfl,by rw[C];omega⟩,λb n A=>⟨n,zAw _,by simp[A]⟩⟩)
        (λE=>⟨g1,by rw[C];unfold dY;omega,λ_=>by rw[yL];simp,a2,λb n r hr=>by
          rw[yL]at hr;simp at hr;obtain⟨⟨rfl,rfl⟩,rfl⟩:=hr;refine⟨C.symm,λh b' n' A=>?_,λb' n' A=>?_⟩
          · have b7:ln xs=0:=by rw[bu h];rfl
            rcases hbk with Y|⟨M,R,Y⟩
            · rw[Y]at A;simp at A
            · rw[Y]at A;simp at A
              rcases A with⟨_,rfl⟩|A
              · exact b7
              · have:=(g5 M _ R Y).2.2 b' n' A;omega
          rw[C]
          rcases hbk with Y|⟨M,R,Y⟩
          · rw[Y]at A;simp at A
          · rw[Y]at A;simp at A
            rcases A with⟨_,rfl⟩|A
            · omega
            · have:=(g5 M _ R Y).2.2 b' n' A;omega,f',a7 (w':=w.drew.alloc (.cells B e)) (dr E),bk,λb n A=>by
          rw[yL]at A;simp at A
          rcases A with⟨rfl,rfl⟩|A
          · exact⟨B,e,heap_alloc_new w.drew _,by rw[U];exact zBe _ (by omega),λi j hi hj=>ac i j hi hj,ap⟩
          · obtain⟨c',a8,d1,d2,d3,d4⟩:=g8 b n A
            have bf:n<=ln xs:=by
              rcases hbk with Y|⟨M,R,Y⟩
              · rw[Y]at A;simp at A
              · rw[Y]at A;simp at A
                rcases A with⟨_,rfl⟩|A
                · omega
                · exact zE3 ((g5 M _ R Y).2.2 b n A)
            exact⟨c',a8,(heap_alloc_old w.drew _ b (HH.lt b (.inr ⟨k,n,A⟩))).trans d1,d2,λi j hi hj=>by simp only[f'];rw[f5 (by omega)];exact d3 i j hi hj,d4⟩⟩)
      refine⟨_,xU.trans HH (xU.drew HH (w.drawn+1)) G,?_⟩
      have:=yI.ref (w:=w.drew.alloc (.cells B e)) (D:=xT X (cY β k ((w.heap.size,ln xs+ln ys)::β k))) (h:=over [(k,.arr sz (xs++ys) ⟨st',ne⟩)] h) (β:=cY β k ((w.heap.size,ln xs+ln ys)::β k)) k 0 (ln xs+ln ys) sz (xs++ys) ⟨st',ne⟩ w.heap.size (ln xs+ln ys) gc (qU _ _ _)
        (by rw[yL];simp) (by omega) (by omega) (by
          have:wO (w.drew.alloc (.cells B e)) w.heap.size=B.size:=by
            unfold wO World.shape?;rw[show(w.drew.alloc (.cells B e)).heap[w.heap.size]? =_ from heap_alloc_new w.drew _];rfl
          rw[this,U,zB7])
      rwa [zEa]at this
def NE (I:uZ P TT) {k:Nat} {xs:List AV} {S:Bool} {G:AV} {ys:List AV} (O:yX (zK st.tm) s= .ref k 0 (ln xs)) (hk:zD st.h k=some (.arr sz xs ⟨S,false⟩)) (hx:yX (zK st.tm) x=G) (hT:TT[T]? =some ti) (hd:ti.d= .slice e) (L:TT[e]? =some te)
 (C:CR (zD st.h) G=some ys) (B:∀y,ys[0]? =some y->ln y.cells=sz) (A:Nat.beq sz te.size=true) (hb:Nat.ble te.bytes 65536=true) (R:Nat.beq (ln te.zero) te.size=true) (E:te.zero.all (·.oneCell')=true) (M:ln xs+ln ys<=1073741824):
  wX P st (.call ⟨.builtin .append, #[s,x], #[T,T]⟩) (.ref k 0 (xs++ys).length) [(k,.arr sz (xs++ys) true)] (k::PK G) []:=
 wR true false I O hk hx hT hd L (λ_=>rfl) C B A hb R E M (λh=>by cases h)
def QN (I:uZ P TT) {k:Nat} {xs:List AV} {G:AV} {ys:List AV} (O:yX (zK st.tm) s= .ref k 0 (ln xs)) (hk:zD st.h k=some (.arr sz xs sl)) (hx:yX (zK st.tm) x=G) (hT:TT[T]? =some ti) (hd:ti.d= .slice e) (L:TT[e]? =some te)
 (C:UR true (zD st.h) G=some ys) (B:∀y,ys[0]? =some y->ln y.cells=sz) (A:Nat.beq sz te.size=true) (hb:Nat.ble te.bytes 65536=true) (R:Nat.beq (ln te.zero) te.size=true) (E:te.zero.all (·.oneCell')=true) (M:ln xs+ln ys<=1073741824):
  wX P st (.call ⟨.builtin .append, #[s,x], #[T,T]⟩) (.ref k 0 (xs++ys).length) [(k,.arr sz (xs++ys) ⟨true,true⟩)] (k::PK G) []:=
 wR true true I O hk hx hT hd L (λh=>by cases h) C B A hb R E M (λh=>by cases h)
end ops
end
section
def NF (B:Nat->Option (Nat×Nat)):List AV->List (Nat×AV)->Option (List AV)
 |A,[]=>some A
 |A,(i,v)::rest=>match B i with
  |none=>none
  |some (off,size)=>bif Nat.beq (ln v.cells) size&&(Nat.ble (off+size) (ln A)&&v.ok)then NF B (UM A off v.cells) rest else none
theorem NG (B:Nat->Option (Nat×Nat)):∀(C:List (Nat×AV)) (A:List (Nat×Value)) (cs:List AV) (c:Array Value) (G:List AV),NF B cs C=some G->
  (ln A)=ln C->(∀(j:Nat) p M,C[j]? =some p->A[j]? =some M->M.1=p.1/\yI w D h β p.2 M.2)->
  c.size=ln cs->(∀i,i<c.size->(c.getD i undef).oneCell'=true)->(∀(i:Nat) u,cs[i]? =some u->yI w D h β u (c.getD i undef))->
  ∃O,Instr.fill B c A=some O/\O.size=ln G/\(∀i,i<O.size->(O.getD i undef).oneCell'=true)/\∀(i:Nat) u,G[i]? =some u->yI w D h β u (O.getD i undef)
 | [],A,cs,c,G,L,hl,_,h1,h2,h3=>by
  obtain rfl:A=[]:=zBv CD;cases L;exact⟨c,rfl,h1,h2,h3⟩
 | (i, v)::rest,A,cs,c,G,L,hl,hp,h1,h2,h3=>by
  cases A with
  |nil=>simp at hl
  | cons M U=>
   obtain⟨e1,e2⟩:=hp 0 (i,v) M Z Z;obtain⟨i',V⟩:=M;dsimp only at e1 e2;subst e1;unfold NF at L
   cases S:B i' with
   |none=>simp[S]at L
   | some q=>
    obtain⟨off,E⟩:=q;simp only[S]at L
    cases hc:Nat.beq (ln v.cells) E&&(Nat.ble (off+E) (ln cs)&&v.ok)with
    |false=>simp[hc]at L
    | true=>
     simp only[hc,zB6]at L;simp only[zA2]at hc;have q1:=zBo hc.1;have q2:=zA8 hc.2.1;obtain⟨r1,r2,r3⟩:=e2.cells hc.2.2;obtain⟨s1,s2⟩:=Great.foldl_set off V.cells.toList 0 c
     have R:V.cells.zipIdx.foldl (λcs (x:Value×Nat)=>cs.setIfInBounds (off+x.2) x.1) c=(V.cells.toList.zipIdx 0).foldl (λcs (x:Value×Nat)=>cs.setIfInBounds (off+x.2) x.1) c:=by
      rw[<-Array.foldl_toList,Array.toList_zipIdx]
     generalize ag:(V.cells.toList.zipIdx 0).foldl (λcs (x:Value×Nat)=>cs.setIfInBounds (off+x.2) x.1) c=c2 at*
     have W:∀k,c2.getD k undef=if off<=k/\k<off+E then V.cells.getD (k-off) undef else c.getD k undef:=λk=>by
      have hk:=s2 k;simp only[zDh,zDs]at hk;by_cases I:off<=k/\k<off+E
      .rw[f5 I];rw[f5 (by omega)]at hk;apply fX;rw[hk];have:=jN V.cells (k-off) (by omega);simpa using this
      .rw[Os I];rw[Os (by omega)]at hk;simp[zBu,hk]
     obtain⟨O,t1,t2,t3,t4⟩:=NG B rest U (UM cs off v.cells) c2 G L CD (λj p M hj ac=>hp (j+1) p M (by simpa using hj) (by simpa using ac))
      (by rw[s1,cP];exact h1) (λk hk=>by
       rw[W];split
       .exact r2 _ (by omega)
       .exact h2 k (by omega)) (λk u Y=>by
       rw[YW _ _ _ _ (by omega),q1]at Y;rw[W];split
       .rename_i I;rw[f5 I]at Y;exact r3 _ u Y
       .rename_i I;rw[Os I]at Y
        exact h3 k u Y)
     refine⟨O,?_,t2,t3,t4⟩;unfold Instr.fill;simp only[S];rw[Os qA,R];exact t1
def Hb (TT:List TI):List (Nat×Nat)->Option (List (Nat×Nat))
 | []=>some []
 |(o,t)::r=>match TT[t]?,Hb TT r with
  |some ti,some l=>some ((o,ti.size)::l)
  |_,_=>none
theorem CS (C:uZ P TT):∀(fs:List Field) (l:List (Nat×Nat)),Hb TT (fs.map λf=>(f.offset,f.type))=some l->fs.mapM (λf=>(P.info? f.type).map λi=>(f.offset,i.size))=some l
 | [],l,h=>by simp[Hb]at h;simp[h]
 | f::fs,l,h=>by
  simp only[zCb,Hb]at h
  cases A:TT[f.type]? with
  |none=>simp[A]at h
  | some ti=>
   cases B:Hb TT (fs.map λf=>(f.offset,f.type))with
   |none=>simp[A,B]at h
   |some G=>
    simp[A,B]at h;subst h;obtain⟨i,_,_,hi,_,_,_,E,_⟩:=uG (C _ _ A);simp[zF9,hi,CS C fs G B,E]
section ops
variable {P:Program} {TT:List TI} {st:St}
def bL (st:St) (ps:Array (Nat×Operand)):List (Nat×AV):=ps.toList.map λp=>(p.1,yX (zK st.tm) p.2)
def CT {op:Op} {E:Nat->AV} (H:∀t,yI w D h β (E t) (a.eval (.tmp t))) (G:∀t,t∈fI op->E t=zK st.tm t) (A:∀p∈ps.toList,p.2∈op.operands)
 (j:Nat) (p:Nat×AV) (B:Nat×Value) (h1:(bL st ps)[j]? =some p) (h2:(ps.map λx=>(x.1,a.eval x.2)).toList[j]? =some B):B.1=p.1/\yI w D h β p.2 B.2:=by
 simp only[bL,zAz,zBa]at h1;obtain⟨q,C,rfl⟩:=h1;simp only[zE7,zAz,C,zCn,zCd]at h2;subst h2;exact⟨rfl,fC H G (A q (zCc C)) Z⟩
def CU (z:Value) (A:List Value) (C:z.cells.toList=A) (h1:A.all (·.oneCell')=true):
  z.cells.size=(A.map AV.s).length/\(∀i,i<z.cells.size->(z.cells.getD i undef).oneCell'=true)/\∀(i:Nat) u,(A.map AV.s)[i]? =some u->yI w D h β u (z.cells.getD i undef):=by
 subst C;refine⟨by simp,λi hi=>zA5.1 h1 _ (zCc (by simpa using jN _ i hi)),λi u B=>?_⟩;simp only[zAz,zBa]at B;obtain⟨v,hv,rfl⟩:=B;rw[fX DZ];exact .fz _ _ (.s _)
def oh (M:uZ P TT) {C:List (Nat×Nat)} {cs:List AV} (hT:TT[T]? =some ti) (hd:ti.d= .str fs) (h1:ti.zero.all (·.oneCell')=true) (G:Hb TT fs=some C)
 (Y:NF (C[·]?) (ti.zero.map .s) (bL st ps)=some cs):wX P st (.build T ps) (.agg cs) [] [] []:=
 yZ λoo X tm h w β a O hg hr HH R=>by
  obtain⟨d0,o0,y0,p0,f0,g0⟩:=oo;dsimp only at O;subst O;obtain⟨i,u,z,hi,hu,hz,E,_,_,I⟩:=uG (M _ _ hT);obtain⟨A,rfl,hm⟩:=al (E.symm.trans hd);have B:=CS M A.toList C (by rw[hm];exact G);obtain⟨z1,z2,z3⟩:=CU (w:=w) (D:=xT X β) (h:=h) (β:=β) z ti.zero I.symm h1
  obtain⟨L,S,U,V,W⟩:=NG (w:=w) (D:=xT X β) (h:=h) (β:=β) (C[·]?) (bL st ps) (ps.map λx=>(x.1,a.eval x.2)).toList _ _ cs Y (by simp[bL]) (CT (op:= .build T ps) R hg λp hp=>by
   simp only[Op.operands,zF4]
   exact zCa.2 ⟨p,hp,rfl⟩) z1 z2 z3
  have hb:P.built T (ps.map λx=>(x.1,a.eval x.2)).toList=some L:=by
   simp only[Program.built,hi,hu,hz,B];simpa using S
  exact⟨_,by simp only[execOp,Sem.run_bind,run_build w T _ L hb,Result.andThen_ok,Sem.run_pure],.agg _ _ U V W⟩
def LU (I:uZ P TT) {cs:List AV} (hT:TT[T]? =some ti) (hd:ti.d= .arr n e) (V:TT[e]? =some te) (h1:ti.zero.all (·.oneCell')=true)
 (W:NF (λi=>some (i*te.size,te.size)) (ti.zero.map .s) (bL st ps)=some cs):wX P st (.build T ps) (.agg cs) [] [] []:=
 yZ λoo X tm h w β a L Y hr HH M=>by
  obtain⟨d0,o0,y0,p0,f0,g0⟩:=oo;dsimp only at L;subst L;obtain⟨i,u,z,hi,hu,hz,A,_,_,E⟩:=uG (I _ _ hT);obtain rfl:=jl (A.symm.trans hd);obtain⟨ie,_,_,B,_,_,_,C,_,_⟩:=uG (I _ _ V);obtain⟨z1,z2,z3⟩:=CU (w:=w) (D:=xT X β) (h:=h) (β:=β) z ti.zero E.symm h1
  obtain⟨G,O,R,S,U⟩:=NG (w:=w) (D:=xT X β) (h:=h) (β:=β) (λi=>some (i*te.size,te.size)) (bL st ps) (ps.map λx=>(x.1,a.eval x.2)).toList _ _ cs W (by simp[bL]) (CT (op:= .build T ps) M Y λp hp=>by
   simp only[Op.operands,zF4]
   exact zCa.2 ⟨p,hp,rfl⟩) z1 z2 z3
  have hb:P.built T (ps.map λx=>(x.1,a.eval x.2)).toList=some G:=by
   simp only[Program.built,hi,hu,hz,B,<-C];exact O
  exact⟨_,by simp only[execOp,Sem.run_bind,run_build w T _ G hb,Result.andThen_ok,Sem.run_pure],.agg _ _ R S U⟩
theorem NH (ne:Bool) (hP:uZ P TT) {xs:List AV} (hT:TT[T]? =some ti) (hd:ti.d= .slice e) (he:TT[e]? =some te) (hp:Nat.ble 1 te.size=true) (ac:bL st ps=(xs.zipIdx 0).map λx=>(x.2,x.1)) (hl:Nat.beq (ln xs) len=true)
 (hw:xs.all (λx=>Nat.beq (ln x.cells) te.size&&(x.ok&&(ne||x.nokey)))=true) (hb:Nat.ble (len*te.size) 65536=true) (S:Nat.beq (ln te.zero) te.size=true):
  ∀ (o:Oper) (X:Nat->Prop) (tm:Nat->AV) (h:yS) (w:World) (β:uM) (a:Act),o.op= .buildSlice T len ps->(∀t,t∈fI (.buildSlice T len ps)->tm t=zK st.tm t)->(∀t,yI w (xT X β) h β (tm t) (a.eval (.tmp t)))->
   ∃(C:Array Value) (f:Nat->Nat->Value),(execOp a.eval o).run P w= .ok (.value (.slice (some ⟨w.heap.size,0,none⟩) (ln xs) (ln xs))) (w.alloc (.cells C e))/\C.size=ln xs*te.size/\xs.length<=dY/\xs.length=len/\
    (∀(i:Nat) (x:AV),xs[i]? =some x->ln x.cells=te.size)/\(∀i j,i<ln xs->j<te.size->C[i*te.size+j]? =some (f i j))/\(∀i j,i<ln xs->j<te.size->(f i j).oneCell'=true)/\
    gF w (xT X β) h β ne xs f:=by
 intro o X tm h w β a ho hg Ht;obtain⟨d0,o0,y0,p0,f0,g0⟩:=o;dsimp only at ho;subst ho;have hp:=zA8 hp;have hl:=zBo hl;have hb:=zA8 hb;have S:=zBo S;subst hl;obtain⟨i,z,B,hi,hz,e1,e2,e3⟩:=wY hP hT hd he
 have R:∀(j:Nat) (x:AV),xs[j]? =some x->ln x.cells=te.size/\x.ok=true/\(ne||x.nokey)=true:=λj x hx=>by
  have:=zA5.1 hw x (zCc hx)
  simp_all [uZ,hT,bL,yS,uM,fI,zK,xT,dY,gF]
 have G:ln ps.toList=ln xs:=by
  have:=zBb List.length ac;simpa [bL]using this
 let vs:List Value:=ps.toList.map λp=>a.eval p.2
 have O:ln vs=ln xs:=by simp[vs];simpa using G
 have ap:∀(j:Nat) (x:AV),xs[j]? =some x->∃p,ps.toList[j]? =some p/\p.1=j/\yX (zK st.tm) p.2=x:=λj x hx=>by
  have hj:=zBb (·[j]?) ac;simp only[bL,zAz,zEv,hx,zCn,zB7]at hj
  grind
 have au:∀(j:Nat) (x:AV),xs[j]? =some x->∃v,vs[j]? =some v/\yI w (xT X β) h β x v:=λj x hx=>by
  obtain⟨p,L,_,a3⟩:=ap j x hx;refine⟨a.eval p.2,by simp only[vs,zAz,L,zCn],fC (op:= .buildSlice T (ln xs) ps) Ht hg ?_ a3⟩;simp only[Op.operands,zF4]
  grind
 have a4:(ps.map λx=>(x.1,a.eval x.2)).toList=(vs.zipIdx 0).map λx=>(x.2,x.1):=by
  apply zB0;intro j;simp only[zE7,zAz,zEv,vs,zB7];by_cases hj:j<ln xs
  .obtain⟨p,L,a2,_⟩:=ap j xs[j] (by simp[hj]);simp[L,a2]
  all_goals grind
 have M:∀v∈vs,v.cells.size=te.size:=λv hv=>by
  obtain⟨j,hj⟩:=zD9 hv;have W:j<ln xs:=by rw[<-O];exact(zBj.1 hj).1
  obtain⟨v',h1,h2⟩:=au j xs[j] (by simp[W]);rw[hj]at h1;cases h1;obtain⟨q1,q2,_⟩:=R j xs[j] (by simp[W]);rw[(h2.cells q2).1,q1]
 have a6:z.cells.size=te.size:=by rw[<-S,<-e3];simp
 have E:=Great.fill_whole (s:=te.size) (by omega) vs ((Array.range (ln xs*te.size)).map (z.cells[· % z.cells.size]!)) M (by simp[O]);have I:=Great.flat_get (s:=te.size) (by omega) vs M;generalize hC:(vs.flatMap λv=>v.cells.toList).toArray=C at E
 have V:C.size=ln xs*te.size:=by
  rw[<-hC]
  have:∀l:List Value,(∀v∈l,v.cells.size=te.size)->(l.flatMap λv=>v.cells.toList).length=ln l*te.size:=by
   intro l
   induction l with
   |nil=>simp
   |cons v l ih=>
    intro hv;rw[List.flatMap_cons,zAv,ih λu B=>hv u (by simp[B])];have:=hv v zV;simp only[zDs,this,zA6,zB2,zC2];omega
  simpa [O]using this vs M
 have ar:(execOp a.eval ⟨d0,.buildSlice T (ln xs) ps,y0,p0,f0,g0⟩).run P w= .ok (.value (.slice (some ⟨w.heap.size,0,none⟩) (ln xs) (ln xs))) (w.alloc (.cells C e)):=by
  have av:¬xs.length*te.size>2 ^ 24:=by omega
  have hs:=qK (hP _ _ he) w;simp only[execOp,Instr.buildSlice,Sem.run_bind,CI w B,Result.andThen_ok,hs];by_cases h0:ln xs*te.size=0
  .have a5:xs=[]:=by
    rcases Nat.mul_eq_zero.1 h0 with h|h
    .exact zBv h
    .omega
   subst a5
   have ag:ps= #[]:=by
    have:ln ps.toList=0:=by simpa using G
    exact Array.eq_empty_of_size_eq_zero Ue
   subst ag;have ax:C= #[]:=by simpa using V
   subst ax;simp[Instr.fill,newRow,Array.range_zero']
  .have Y:(ps.map λx=>(x.1,a.eval x.2)).toList=(vs.zipIdx 0).map λx=>(x.2,x.1):=a4
   simp only[Os av,Sem.run_pure,Result.andThen_ok,Os h0,Sem.run_bind,zeroValue,typeInfo,run_program,hi,hz,Y];rw[E];simp[newRow]
 have A:∀(j:Nat) (x:AV),xs[j]? =some x->∃v,vs[j]? =some v/\v.cells.size=te.size/\(∀q,q<te.size->C[j*te.size+q]? =some (v.cells.getD q undef))/\(∀q,q<te.size->(v.cells.getD q undef).oneCell'=true)/\
   ∀(q:Nat) u,x.cells[q]? =some u->yI w (xT X β) h β u (v.cells.getD q undef)/\(ne=false->xM w (xT X β) u (v.cells.getD q undef)):=λj x hx=>by
  obtain⟨v,h1,h2⟩:=au j x hx;obtain⟨q1,q2,q3⟩:=R j x hx;obtain⟨r1,r2,r3⟩:=h2.cells q2;refine⟨v,h1,by omega,λq U=>?_,λq U=>r2 q (by omega),λq u B=>⟨r3 q u B,λhn=>(r3 q u B).toF ?_⟩⟩
  .have az:(j*te.size+q)/te.size=j:=Nat.div_eq_of_lt_le (by omega) (by rw[zB2,zC2];omega);have a1:(j*te.size+q) % te.size=q:=by rw[zEs,zFf];exact zDl U
   have:=I (j*te.size+q);rw[az,a1,h1]at this;rw[<-hC];simp only[zDg,this,Option.bind_some];exact jN _ _ (by omega)
  .rw[hn,zC5]at q3
   cases x<;>first
    |(simp[AV.cells]at B;cases q<;>simp at B;subst B;exact q3)
    |(exact jM (by simpa [AV.nokey,AV.cells]using q3) B)
 refine⟨C,λj q=>(vs.getD j undef).cells.getD q undef,ar,V,?_,rfl,λj x hx=>(R j x hx).1,?_,?_,?_⟩
 .have:ln xs*1<=ln xs*te.size:=Nat.mul_le_mul_left _ hp;unfold dY;omega
 .intro j q hj U;obtain⟨v,h1,_,h3,_⟩:=A j xs[j] (by simp[hj]);have:vs.getD j undef=v:=by simp[py,h1]
  dsimp only;rw[this];exact h3 q U
 .intro j q hj U;obtain⟨v,h1,_,_,h4,_⟩:=A j xs[j] (by simp[hj]);have:vs.getD j undef=v:=by simp[py,h1]
  dsimp only;rw[this];exact h4 q U
 .intro j x q u hx B;obtain⟨v,h1,_,_,_,h5⟩:=A j x hx;have:vs.getD j undef=v:=by simp[py,h1]
  dsimp only;rw[this];exact h5 q u B
def yV (W:uZ P TT) {xs:List AV} (k:Nat) (hT:TT[T]? =some ti) (hd:ti.d= .slice e) (Y:TT[e]? =some te) (L:Nat.ble 1 te.size=true) (M:bL st ps=(xs.zipIdx 0).map λx=>(x.2,x.1)) (hl:Nat.beq (ln xs) len=true)
 (hw:xs.all (λx=>Nat.beq (ln x.cells) te.size&&(x.ok&&x.nokey))=true) (hb:Nat.ble (len*te.size) 65536=true) (O:Nat.beq (ln te.zero) te.size=true):
  wX P st (.buildSlice T len ps) (.ref k 0 len) [(k,.arr te.size xs false)] [] [k]:=by
 refine⟨?_⟩;intro X tm h hg _ hn o a w β ho U V;obtain⟨C,f,B,A,I,E,q1,R,S,q4⟩:=NH false W hT hd Y L M hl hw hb O o X tm h w β a ho hg V;rw[B];subst E;obtain⟨β',G,hv⟩:=xU.newArr U (hn k zV) C e te.size xs (ln xs) f (zA8 L) I (zAw _) (by rw[A]) (CN A (zA8 L) R S) q1 R S (q4.toF Z);exact⟨β',G,hv⟩
def QO (W:uZ P TT) {xs:List AV} (k:Nat) (hT:TT[T]? =some ti) (hd:ti.d= .slice e) (Y:TT[e]? =some te) (L:Nat.ble 1 te.size=true) (M:bL st ps=(xs.zipIdx 0).map λx=>(x.2,x.1)) (hl:Nat.beq (ln xs) len=true)
 (hw:xs.all (λx=>Nat.beq (ln x.cells) te.size&&x.ok)=true) (hb:Nat.ble (len*te.size) 65536=true) (O:Nat.beq (ln te.zero) te.size=true):
  wX P st (.buildSlice T len ps) (.ref k 0 len) [(k,.arr te.size xs ⟨false,true⟩)] [] [k]:=by
 refine⟨?_⟩;intro X tm h hg _ hn o a w β ho U V;obtain⟨C,f,B,A,I,E,q1,R,S,q4⟩:=NH true W hT hd Y L M hl (by simpa using hw) hb O o X tm h w β a ho hg V;rw[B];subst E;obtain⟨β',G,hv⟩:=xU.newArrN U (hn k zV) C e te.size xs (ln xs) f (zA8 L) I (zAw _) (by rw[A]) (CN A (zA8 L) R S) q1 R S (q4.toV);exact⟨β',G,hv⟩
def QP (R:uZ P TT) {xs:List AV} (hT:TT[T]? =some ti) (hd:ti.d= .slice e) (S:TT[e]? =some te) (L:Nat.ble 1 te.size=true) (E:bL st ps=(xs.zipIdx 0).map λx=>(x.2,x.1)) (hl:Nat.beq (ln xs) len=true)
 (Y:xs.all (λx=>Nat.beq (ln x.cells) te.size&&(x.ok&&x.nokey))=true) (hb:Nat.ble (len*te.size) 65536=true) (G:Nat.beq (ln te.zero) te.size=true):
  wX P st (.buildSlice T len ps) (.sl true xs) [] [] []:=by
 refine⟨?_⟩;intro X tm h U _ hn o a w β W I M;obtain⟨C,f,A,O,B,V,q1,q2,q3,q4⟩:=NH false R hT hd S L E hl Y hb G o X tm h w β a W U M;rw[A];rw[dZ];exact⟨β,xU.newFz I C e,.fz _ _ (xM.newArr I C e te.size xs (ln xs) f (zA8 L) B (zAw _) q1 q2 q3 (q4.toF Z))⟩
def uH (ti:TI):AV:=bif ti.d.agg then .agg (ti.zero.map .s)else match ti.zero with
 | [v]=> .s v
 |_=> .bot
theorem WC (hP:uZ P TT) {n:Nat} {kx ky:IntKind} {nx A:Int} (k:Nat) (hx:yX (zK st.tm) x= .s (.int kx nx)) (hy:yX (zK st.tm) y= .s (.int ky A)) (hT:TT[T]? =some ti) (hd:ti.d= .slice e) (he:TT[e]? =some te)
 (ar:nx=(n:Int)) (au:nx<=A) (a1:A<=1073741824) (hb:Nat.ble te.bytes 65536=true) (hp:Nat.ble 1 te.size=true) (E:Nat.beq (ln te.zero) te.size=true) (V:te.zero.all (·.oneCell')=true) (L:Nat.beq (uH te).cells.length te.size=true) (W:(uH te).cells=te.zero.map .s):
  wX P st (.makeSlice T x y) (.ref k 0 n) [(k,.arr te.size (pb n (uH te)) false)] [] [k]:=by
 refine⟨?_⟩;intro X tm h hg _ hn o a w β ho HH Ht;obtain⟨d0,o0,y0,p0,f0,g0⟩:=o;dsimp only at ho;subst ho;have h1:=vP Ht hg (x:=x) uO hx;have h2:=vP Ht hg (x:=y) uO hy;have hp:=zA8 hp;have hb:=zA8 hb;have E:=zBo E;have L:=zBo L;subst ar;obtain⟨i,z,S,hi,hz,e1,e2,e3⟩:=wY hP hT hd he
 have B:(i.bytes:Int)*A<=281474976710656:=by
  obtain⟨m,rfl⟩:=zCl (show 0<=A by omega);have:i.bytes*m<=65536*1073741824:=zDi (by omega) (by omega)
  grind
 have R:=run_make (P:=P) w T e i z S hi hz kx ky (n:Int) A (by omega) au B (by omega)
 have Y:(execOp a.eval ⟨d0,.makeSlice T x y,y0,p0,f0,g0⟩).run P w= .ok (.value (.slice (some ⟨w.heap.size,0,none⟩) n A.toNat)) (w.alloc (.cells (madeCells z.cells (A.toNat*i.size)) e)):=by
  simp only[execOp,h1,h2,Sem.run_bind,R,Result.andThen_ok,Sem.run_pure];rfl
 rw[Y];have az:z.cells.size=te.size:=by rw[<-E,<-e3];simp
 have C:(pb n (uH te)).length=n:=by simp
 have O:∀(j:Nat) v,(pb n (uH te))[j]? =some v->v=uH te:=λj v hv=>by
  grind
 have I:∀j,j<te.size->∃v,te.zero[j]? =some v/\z.cells.getD j undef=v:=λj hj=>by
  have:=jN z.cells j (by omega)
  grind
 have:=xU.newArr HH (hn k zV) (madeCells z.cells (A.toNat*i.size)) e te.size (pb n (uH te)) A.toNat (λ_ j=>z.cells.getD j undef) hp (by rw[C];unfold dY;omega) (by rw[C];omega) (by rw[size_madeCells,e1]) (kD.get (kD.made (λv hv=>zA5.1 V v NC) (by omega) _))
  (λj v hv=>by rw[O j v hv];exact L) (λM j hi' hj=>by
   rw[C]at hi'
   have ag:M*te.size+j<A.toNat*te.size:=by
    have:=zBe te.size (show M+1<=A.toNat by omega)
    grind
   have ap:(M*te.size+j) % te.size=j:=by rw[zEs,zFf];exact zDl hj
   simp only[madeCells,e1,zFo,zE9,ag,zE0,zCn,az,ap]
   congr 1
   have ac:j<z.cells.size:=by omega
   simp[zBu,ac]) (λM j _ hj=>by
   obtain⟨v,hv,av⟩:=I j hj;rw[av]
   exact zA5.1 V v (zCc hv)) (λM v j u hv S=>by
   rw[O M v hv,W]at S;simp only[zAz,zBa]at S;obtain⟨q,hq,rfl⟩:=S;have hj:j<te.size:=by rw[<-E];exact(zBj.1 hq).1
   obtain⟨v',U,ax⟩:=I j hj;rw[ax];rw[hq]at U;cases U
   exact .s _)
 obtain⟨β',G,hv⟩:=this;rw[C]at hv;exact⟨β',G,hv⟩
def Ut {E G:Nat} {k:IntKind} {n:Int} (hx:yX (zK st.tm) x= .s (.int k m)) (I:yX (zK st.tm) y= .s (.int k n)):wX P st (.call ⟨.builtin .max, #[x,y], #[E,G]⟩) (.s (.int k (max m n))) [] [] []:=
 yZ λL X V h w β a C B S M A=>by
  obtain⟨d0,o0,W,U,O,R⟩:=L;dsimp only at C;subst C;have h1:=vP A B (x:=x) kQ hx;have h2:=vP A B (x:=y) kQ I;refine⟨.int k (max m n),?_,.fz _ _ (.s _)⟩;have:(if n>m then n else m)=max m n:=by omega
  simp[execOp,resolve,invoke,builtin,Builtin.max_,Builtin.max2,h1,h2,this]
def Tt {E G:Nat} {k:IntKind} {n:Int} (hx:yX (zK st.tm) x= .s (.int k m)) (I:yX (zK st.tm) y= .s (.int k n)):wX P st (.call ⟨.builtin .min, #[x,y], #[E,G]⟩) (.s (.int k (min m n))) [] [] []:=
 yZ λL X V h w β a C B S M A=>by
  obtain⟨d0,o0,W,U,O,R⟩:=L;dsimp only at C;subst C;have h1:=vP A B (x:=x) kQ hx;have h2:=vP A B (x:=y) kQ I;refine⟨.int k (min m n),?_,.fz _ _ (.s _)⟩;have:(if n<m then n else m)=min m n:=by omega
  simp[execOp,resolve,invoke,builtin,Builtin.min_,Builtin.min2,h1,h2,this]
def VA (h:yS):AV->Bool
 | .sl true _=>true
 | .sl false (_::_)=>true
 | .ref k _ (_+1)=>match h k with
  |some (.arr _ _ _)=>true
  |_=>false
 |_=>false
def RY (B:uZ P TT) (hT:TT[T]? =some ti) (hd:ti.d= .slice e) (w:World) (b:Option Addr) (n c:Nat):(Op.equal T (.slice b n c) (.slice none 0 0)).run P w= .ok b.isNone w:=by
 obtain⟨_,u,_,_,C,_,A,_⟩:=uG (B _ _ hT);obtain rfl:=uB (A.symm.trans hd)
 show(Op.equalIn (9999+1) T _ _).run P w=_
 unfold Op.equalIn
 cases b<;>simp[CI w C]
def xX (I:uZ P TT) {C:AV} {v:Bool} (B:op= .eql/\v=false\/op= .neq/\v=true) (hx:yX (zK st.tm) x=C) (hT:TT[T]? =some ti) (hd:ti.d= .slice e) (A:VA (zD st.h) C=true):
  wX P st (.binOp op T x (.const (.slice none 0 0)) ty) (.s (.bool v)) [] (PK C) []:=
 yZ λU X tm h w β a E O S V G=>by
  obtain⟨d0,o0,y0,p0,Y,g0⟩:=U;dsimp only at E;subst E;have h1:=fC G O (x:=x) uO hx
  obtain⟨b,n,c,hc⟩:∃b n c,a.eval x= .slice (some b) n c:=by
   generalize a.eval x=W at h1
   cases h1 with
   |fz _ _ M=>
    cases M with
    |nil a cap=>simp[VA]at A
    |nil1 a cap=>exact⟨_,_,_,rfl⟩
    |sl _ _ b o sz cap f R hL hc hh=>exact⟨_,_,_,rfl⟩
    |_=>simp[VA]at A
   |ref _ _ _ _ _ _ _ _ _ _ _ _ _ _=>exact⟨_,_,_,rfl⟩
   |ref0 _ _ _ _ _ _ _ _=>simp[VA]at A
   |dref k off len _ hk _=>
    have:=S k (by simp[PK])
    cases len with
    |zero=>simp[VA]at A
    |succ m=>simp[VA,<-this,hk]at A
   |_=>simp[VA]at A
  have L:=RY I hT hd w (some b) n c;refine⟨.bool v,?_,.fz _ _ (.s _)⟩
  rcases B with⟨rfl,rfl⟩|⟨rfl,rfl⟩<;>simp[execOp,hc,show a.eval (.const (.slice none 0 0))= .slice none 0 0 from Z,eqGuard,binOp,L]
def Gb (E:uZ P TT) {v:Bool} {c:Nat} (A:op= .eql/\v=true\/op= .neq/\v=false) (hx:yX (zK st.tm) x= .s (.slice none n c)) (hT:TT[T]? =some ti) (hd:ti.d= .slice e):
  wX P st (.binOp op T x (.const (.slice none 0 0)) ty) (.s (.bool v)) [] [] []:=
 yZ λL X V h w β a B I S M C=>by
  obtain⟨d0,o0,W,U,O,R⟩:=L;dsimp only at B;subst B;have hc:=vP C I (x:=x) uO hx;have G:=RY E hT hd w none n c;refine⟨.bool v,?_,.fz _ _ (.s _)⟩
  rcases A with⟨rfl,rfl⟩|⟨rfl,rfl⟩<;>simp[execOp,hc,show a.eval (.const (.slice none 0 0))= .slice none 0 0 from Z,eqGuard,binOp,G]
def RZ {p q:ByteArray} {v:Bool} (hx:yX (zK st.tm) x= .s (.string p)) (G:yX (zK st.tm) y= .s (.string q))
 (A:op= .eql/\v=(p.toList==q.toList)\/op= .neq/\v= !(p.toList==q.toList)):wX P st (.binOp op tx x y ty) (.s (.bool v)) [] [] []:=
 yZ λo X O h w β a E C _ _ B=>by
  obtain⟨d0,o0,R,M,I,L⟩:=o;dsimp only at E;subst E;have h1:=vP B C (x:=x) uO hx;have h2:=vP B C (x:=y) uO G;refine⟨.bool v,?_,.fz _ _ (.s _)⟩
  rcases A with⟨rfl,rfl⟩|⟨rfl,rfl⟩<;>simp[execOp,h1,h2,eqGuard,binOp,Op.stringOp]
end ops
end
