/- Part 1. -/
import Derived.Below
import Derived.Orders
import Derived.LoopN
import Derived.Laws.Sem
import Derived.KernelRfl
import Derived.Laws.AppendOwn
import Derived.Laws.CopyRow
import Derived.IntWalk
import Derived.Laws.MakeOwn
import Derived.Laws.Append
import Derived.Great.FillDense
import Derived.Laws.Tables
namespace Go.Proofs.YtaglbcjljlkjcaaGreat.Av
open List renaming length->ln,replicate->pg,range->pi,getD->py
open Inhabited renaming default->dd
variable {a:Act}{ps:Array (Nat×Operand)}{z:Array Value}{op:BinOp}{ne nest nn:Bool}{m:Int}{fs:List (Nat×Nat)}{T b e el ft i j k l len n o off r sz tx ty:Nat}{f:Nat->Nat->Value}{D D' X:Nat->Prop}{ix s x y:Operand}{hi lo:Option Operand}{P:Program}{p:Prop}{α:Type}{u:TypeDesc}{c:Value}{w w':World}
theorem Z{α:Sort _}{a:α}:a=a:=rfl
set_option linter.all false
def hW:=@if_neg
def Os:=@if_pos
def f7:=@List.length_map
def zAa:=@List.take_length
def zAb:=@decide_eq_false
def zAc:=@decide_eq_true
def zAd:=@List.map_append
def zAe:=@Nat.le_refl
def zAf:=@List.length_append
def zAg:=@decide_eq_true_eq
def zAh:=@List.getElem?_map
def zAi:=@Bool.and_eq_true
def zAj:=@Bool.true_and
def zAk:=@List.getD_eq_getElem?_getD
def zAl:=@List.take_of_length_le
def zAm:=@List.all_eq_true
def zAn:=@Nat.zero_le
def zAo:=@Option.map_eq_some_iff
def zAp:=@List.length_cons
def zAq:=@Nat.le_of_ble_eq_true
def zAr:=@List.drop_zero
def zAs:=@Bool.false_ne_true
def zAt:=@congrArg
def zAu:=@List.getElem?_eq_getElem
def zAv:=@Int.toNat_natCast
def zAw:=@List.mem_range
def zAx:=@List.getElem?_eq_some_iff
def zAy:=@List.mem_append
def zAz:=@decide_eq_false_iff_not
def zA0:=@List.length_take
def zA1:=@Nat.mul_le_mul_right
def zA2:=@List.append_assoc
def zA3:=@Nat.eq_of_beq_eq_true
def zA4:=@Array.getD_eq_getD_getElem?
def zA5:=@List.eq_nil_of_length_eq_zero
def zA6:=@List.append_nil
def zA7:=@Bool.false_and
def zA8:=@List.mem_singleton
def zA9:=@List.getElem?_append_left
def zBa:=@Nat.not_lt_zero
def zBb:=@List.getElem?_append_right
def zBc:=@List.map_cons
def zBd:=@beq_eq_false_iff_ne
def zBe:=@List.ext_getElem?
def zBf:=@Nat.le_trans
def zBg:=@Nat.lt_of_lt_of_le
def zBh:=@List.length_drop
def zBi:=@Int.tmod_eq_emod_of_nonneg
def zBj:=@List.getElem?_eq_none
def zBk:=@cond_true
def zBl:=@Nat.add_mul
def zBm:=@List.mem_map
def zBn:=@List.length_set
def zBo:=@List.mem_of_mem_drop
def zBp:=@List.length_range
def zBq:=@List.length_nil
def zBr:=@List.any_eq_true
def zBs:=@List.map_nil
def zBt:=@List.map_set
def zBu:=@Nat.zero_add
def zBv:=@beq_iff_eq
def zBw:=@Option.some.injEq
def zBx:=@List.mem_cons
def zBy:=@List.getElem?_set_self
def zBz:=@List.length_filter_le
def zB0:=@List.getElem?_take
def zB1:=@List.length_replicate
def zB2:=@List.getElem?_range
def zB3:=@Bool.and_false
def zB4:=@List.range_succ
def zB5:=@List.mem_of_getElem?
def zB6:=@List.mem_of_mem_take
def zB7:=@Int.eq_ofNat_of_zero_le
def zB8:=@Option.map_some
def zB9:=@cond_false
def zCa:=@Nat.le_of_eq
def zCb:=@Int.fdiv_eq_ediv_of_nonneg
def zCc:=@Int.tdiv_eq_ediv_of_nonneg
def zCd:=@List.take_succ_eq_append_getElem
def zCe:=@List.getElem?_drop
def zCf:=@List.length_singleton
def zCg:=@bne_eq_false_iff_eq
def zCh:=@Bool.false_or
def zCi:=@Int.le_refl
def zCj:=@List.getElem_of_mem
def zCk:=@Bool.or_eq_true
def zCl:=@Nat.one_mul
def zCm:=@Array.getElem?_append_left
def zCn:=@Array.getElem?_eq_some_iff
def zCo:=@Option.getD_some
def zCp:=@Prod.mk.injEq
def zCq:=@Int.emod_lt_of_pos
def zCr:=@Bool.not_eq_true'
def zCs:=@List.any_eq_false
def zCt:=@Bool.true_or
def zCu:=@Classical.byContradiction
def zCv:=@Bool.and_true
def zCw:=@List.contains_iff_mem
def zCx:=@Int.emod_nonneg
def zCy:=@Nat.add_zero
def zCz:=@Nat.sub_self
def zC0:=@List.flatten_cons
def zC1:=@List.mem_or_eq_of_mem_set
def zC2:=@bne_iff_ne
def zC3:=@List.getElem?_toArray
def zC4:=@List.map_drop
def zC5:=@List.getElem?_replicate
def zC6:=@List.all_eq_false
def zC7:=@List.nil_append
def zC8:=@Array.length_toList
def zC9:=@List.zipWith_cons_cons
def zDa:=@Nat.lt_irrefl
def zDb:=@List.cons_append
def zDc:=@List.set_append_right
def zDd:=@List.take_append_drop
def zDe:=@List.take_zero
def zDf:=@Nat.ble_eq_true_of_le
def zDg:=@List.getElem?_of_mem
def zDh:=@Nat.zero_mul
def zDi:=@List.size_toArray
def zDj:=@List.take_add_one
def zDk:=@List.map_take
def zDl:=@List.flatten_append
def zDm:=@Bool.not_eq_true
def zDn:=@Nat.mod_eq_of_lt
def zDo:=@Nat.mul_le_mul
def zDp:=@BitVec.toNat_ofNat
def zDq:=@Bool.or_true
def zDr:=@List.map_replicate
def zDs:=@List.mem_filter
def zDt:=@Decidable.not_not
def zDu:=@List.getElem?_set
def zDv:=@BitVec.ofInt_natCast
def zDw:=@List.drop_eq_getElem_cons
def zDx:=@List.replicate_succ'
def zDy:=@List.getElem_mem
def zDz:=@Int.toNat_of_nonneg
def zD0:=@ne_eq
def zD1:=@List.mem_replicate
def zD2:=@Option.some.inj
def zD3:=@Nat.shiftLeft_add_eq_or_of_lt
def zD4:=@Bool.eq_false_iff
def zD5:=@of_decide_eq_true
def zD6:=@Bool.not_false
def zD7:=@List.singleton_append
def zD8:=@List.getElem?_zipIdx
def zD9:=@List.mem_flatten
def zEa:=@List.pairwise_append
def zEb:=@List.replicate_succ
def zEc:=@Array.getElem?_eq_getElem
def zEd:=@List.set_cons_zero
def zEe:=@Nat.mul_comm
def zEf:=@of_decide_eq_false
def zEg:=@not_false_eq_true
def zEh:=@not_true_eq_false
def zEi:=@List.drop_eq_nil_of_le
def zEj:=@Array.toList_map
def zEk:=@if_true
def zEl:=@Bool.eq_iff_iff
def zEm:=@Int.not_le
def zEn:=@Int.not_lt
def zEo:=@List.getElem?_set_ne
def zEp:=@List.set_set
def zEq:=@Nat.le_of_lt
def zEr:=@Nat.pow_le_pow_right
def zEs:=@Option.map_none
def zEt:=@decide_false
def zEu:=@List.replicate_zero
def zEv:=@List.nodup_nil
def zEw:=@Int.one_mul
def zEx:=@decide_true
def zEy:=@Array.getElem?_append_right
def zEz:=@Bool.false_eq_true
def zE0:=@Int.tmod_lt_of_pos
def zE1:=@List.filter_append
def zE2:=@List.pairwise_cons
def zE3:=@and_false
def zE4:=@Bool.not_true
def zE5:=@Bool.or_false
def zE6:=@List.all_cons
def zE7:=@Nat.add_assoc
def zE8:=@Array.size_append
def zE9:=@List.mem_of_find?_eq_some
def zFa:=@dif_pos
def zFb:=@Int.natCast_succ
def zFc:=@Int.pow_succ
def zFd:=@List.drop_length
def zFe:=@List.mem_toArray
def zFf:=@Nat.lt_or_ge
def zFg:=@if_false
def zFh:=@Int.natCast_mul
def zFi:=@Int.tmod_nonneg
def zFj:=@Nat.mul_add_mod
def zFk:=@Nat.sub_mul
def zFl:=@List.mapM_cons
def zFm:=@List.set_getElem_self
def zFn:=@Nat.mod_lt
def zFo:=@and_true
def zFp:=@List.any_cons
def zFq:=@Int.min_self
def zFr:=@List.map_map
def zFs:=@Nat.sub_zero
def yE (h:p:=by simp):p:=h
def xG (h:p:=by decide):p:=h
def vA (h:p:=by kernel_rfl):p:=h
def uL (h:p:=by simp[Op.operands]):p:=h
def qM (h:p:=by(simp;omega)):p:=h
def gR (h:p:=by simp[Op.operands,Call.operands]):p:=h
def QT (h:p:=by simp[List.getD,hi']):p:=h
def QU (h:p:=by(rw[hd];simp)):p:=h
def NJ (h:p:=by simpa using h):p:=h
def NK (h:p:=by(dsimp only;omega)):p:=h
def XM (h:p:=by(first|rfl|assumption)):p:=h
def XN (h:p:=by(have:=H.vl;omega)):p:=h
def NL (h:p:=by simpa using hi):p:=h
def NM (h:p:=by(rw[hh j hj];exact hk')):p:=h
def JC (h:p:=by(have:=J.n;omega)):p:=h
def JD (h:p:=by simpa using h1):p:=h
def JE (h:p:=by simpa using h2):p:=h
def JF (h:p:=by(rw[hd];decide)):p:=h
def JG (h:p:=by simpa using hb):p:=h
def JH (h:p:=by(rw[hk];rfl)):p:=h
def EW (h:p:=by simpa using hv):p:=h
def EX (h:p:=by(rw[<-e3];exact hv)):p:=h
def EY (h:p:=by(rw[zBh];omega)):p:=h
def EZ (h:p:=by(rw[zA0];omega)):p:=h
def md (h:p:=by(rw[hx];simp[hd])):p:=h
def rd (h:p:=by(rw[hl]at hi;omega)):p:=h
def Zd (h:p:=by simpa using this):p:=h
def Yd (h:p:=by(rw[hbk,e];simp)):p:=h
def Xd (h:p:=by(rw[hβ j hj];exact hb)):p:=h
def Uj (h:p:=by(rcases hxv with h|h;exact .inl h;exact .inr h.1)):p:=h
def Tj (h:p:=by(rw[hh j hk];exact hk')):p:=h
def Sj (h:p:=by rw[zAr,zAa]):p:=h
def Rj (h:p:=by(rw[zBn];exact zAe _)):p:=h
def bw (h:p:=by(rw[zAk,zAu hr1];exact zDy _)):p:=h
def aw (h:p:=by(simp[List.getD];rw[zAu zB];simp)):p:=h
def pw (h:p:=by(rcases hk with hk|hk|hk|hk<;>rw[hk]<;>rfl)):p:=h
def mw (h:p:=by rw[hN,zAr,<-hz3l,zAa]):p:=h
def lw (h:p:=by(rw[zAf,zCf];omega)):p:=h
def sw (h:p:=by(rw[zA0,zBh];omega)):p:=h
inductive AV where
 |bot
 |gh (n:Nat)
 |s (v:Value)
 |agg (cs:List AV)
 |sl (nn:Bool) (xs:List AV)
 |slc (cap:Nat) (xs:List AV)
 |ref (k off len:Nat)
 |ptr (k i off:Nat)
 |fp (xs:List AV) (i off:Nat)
 |fn (f:Nat) (caps:List AV)
 |tup (vs:List AV)
 |fm (ob:Option Nat) (p:Obj->Prop)
 deriving Inhabited
def AV.cells:AV->List AV
 | .agg cs=>cs
 |v=>[v]
def AV.isAgg:AV->Bool
 | .agg _=>true
 |_=>false
def cD:Nat:=9223372036854775807
structure uy (w:World) (D:Nat->Prop) (xs:List AV) (b o sz:Nat) (f:Nat->Nat->Value):Prop where
 lt:b<w.heap.size
 nd:¬D b
 pos:1<=sz
 max:xs.length<=cD
 wide:∀(i:Nat) (x:AV),xs[i]? =some x->x.cells.length=sz
 cell:∀i j,i<xs.length->j<sz->w.cell? ⟨b,o+i*sz+j,none⟩=some (f i j)
 one:∀i j,i<xs.length->j<sz->(f i j).oneCell'=true
inductive xF (w:World) (D:Nat->Prop):AV->Value->Prop
 |bot (c:Value):xF w D .bot c
 |gh (n:Nat) (c:Value):xF w D (.gh n) c
 |s (v:Value):xF w D (.s v) v
 |agg (cs:List AV) (c:Array Value) (hl:c.size=cs.length) (h1:∀i,i<c.size->(c.getD i undef).oneCell'=true) (h:∀(i:Nat) v,cs[i]? =some v->xF w D v (c.getD i undef)):xF w D (.agg cs) (.agg c)
 |nil (a:Option Addr) (cap:Nat):xF w D (.sl false []) (.slice a 0 cap)
 |nil1 (a:Addr) (cap:Nat):xF w D (.sl true []) (.slice (some a) 0 cap)
 |sl (nn:Bool) (xs:List AV) (b o sz cap:Nat) (f:Nat->Nat->Value) (hx:xs≠[]) (hL:uy w D xs b o sz f) (hc:xs.length<=cap)
  (h:∀(i:Nat) (x:AV) (j:Nat) v,xs[i]? =some x->x.cells[j]? =some v->xF w D v (f i j)):xF w D (.sl nn xs) (.slice (some ⟨b,o,none⟩) xs.length cap)
 |slc (cap:Nat) (xs:List AV) (b o sz:Nat) (f:Nat->Nat->Value) (hL:uy w D xs b o sz f) (hc:xs.length<=cap)
  (h:∀(i:Nat) (x:AV) (j:Nat) v,xs[i]? =some x->x.cells[j]? =some v->xF w D v (f i j)):xF w D (.slc cap xs) (.slice (some ⟨b,o,none⟩) xs.length cap)
 |fp (xs:List AV) (b o sz i off:Nat) (f:Nat->Nat->Value) (hL:uy w D xs b o sz f) (hi:i<xs.length) (ho:off<sz)
  (h:∀(i:Nat) (x:AV) (j:Nat) v,xs[i]? =some x->x.cells[j]? =some v->xF w D v (f i j)):xF w D (.fp xs i off) (.pointer (some ⟨b,o+i*sz+off,none⟩))
 |fm (ob:Option Nat) (p:Obj->Prop) (b:Nat) (x:Obj) (ho:∀n,ob=some n->n=b) (hl:b<w.heap.size) (hd:¬D b) (hx:w.heap[b]? =some x) (hp:p x):xF w D (.fm ob p) (.map (some b))
structure Fl where
 stale:Bool
 nest:Bool
variable {sl:Fl}
instance:Coe Bool Fl:=⟨λb=>⟨b,false⟩⟩
inductive xM where
 |box (cs:List AV)
 |arr (sz:Nat) (xs:List AV) (fl:Fl)
 |dead
 |obj (o:Nat×(Obj->Prop))
abbrev yM:=Nat->Option xM
variable {h h':yM}
abbrev uH:=Nat->List (Nat×Nat)
variable {β β':uH}
def wW (w:World) (b:Nat):Nat:=((w.shape? b).map (·.2)).getD 0
inductive yF (w:World) (D:Nat->Prop) (h:yM) (β:uH):AV->Value->Prop
 |fz (v:AV) (c:Value) (hf:xF w D v c):yF w D h β v c
 |agg (cs:List AV) (c:Array Value) (hl:c.size=cs.length) (h1:∀i,i<c.size->(c.getD i undef).oneCell'=true) (hh:∀(i:Nat) v,cs[i]? =some v->yF w D h β v (c.getD i undef)):yF w D h β (.agg cs) (.agg c)
 |fn (f:Nat) (caps:List AV) (c:Array Value) (hl:c.size=caps.length) (hh:∀(i:Nat) v,caps[i]? =some v->yF w D h β v (c.getD i undef)):yF w D h β (.fn f caps) (.func (.func f) #[] c)
 |tup (vs:List AV) (c:Array Value) (hl:c.size=vs.length) (hh:∀(i:Nat) v,vs[i]? =some v->yF w D h β v (c.getD i undef)):yF w D h β (.tup vs) (.tuple c)
 |dref (k off len:Nat) (c:Value) (hk:h k=some .dead) (h1:c.oneCell'=true):yF w D h β (.ref k off len) c
 |dptr (k i off:Nat) (c:Value) (hk:h k=some .dead) (h1:c.oneCell'=true):yF w D h β (.ptr k i off) c
 |ref (k off len sz:Nat) (xs:List AV) (st:Fl) (b n cap:Nat) (hk:h k=some (.arr sz xs st)) (hb:(b,n)∈β k) (hn:off+len<=n) (hc:len<=cap) (hs:(off+cap)*sz=wW w b):
  yF w D h β (.ref k off len) (.slice (some ⟨b,off*sz,none⟩) len cap)
 |ref0 (k off sz:Nat) (xs:List AV) (st:Fl) (a:Option Addr) (hk:h k=some (.arr sz xs st)) (hn:off<=xs.length):yF w D h β (.ref k off 0) (.slice a 0 0)
 |pbox (k off:Nat) (cs:List AV) (b n:Nat) (hk:h k=some (.box cs)) (hb:(b,n)∈β k):yF w D h β (.ptr k 0 off) (.pointer (some ⟨b,off,none⟩))
 |parr (k i off sz:Nat) (xs:List AV) (st:Fl) (b n:Nat) (hk:h k=some (.arr sz xs st)) (hb:(b,n)∈β k) (hi:i<n) (ho:off<sz):
  yF w D h β (.ptr k i off) (.pointer (some ⟨b,i*sz+off,none⟩))
def xT (X:Nat->Prop) (β:uH) (b:Nat):Prop:=X b\/∃k n,(b,n)∈β k
def gA (w:World) (D:Nat->Prop) (h:yM) (β:uH) (nest:Bool) (xs:List AV) (f:Nat->Nat->Value):Prop:=
 ∀(i:Nat) (x:AV) (j:Nat) v,xs[i]? =some x->x.cells[j]? =some v->yF w D h β v (f i j)/\(nest=false->xF w D v (f i j))
theorem gA.ofF {xs:List AV} (H:∀(i:Nat) (x:AV) (j:Nat) v,xs[i]? =some x->x.cells[j]? =some v->xF w D v (f i j)):gA w D h β nest xs f:=
 λi x j v hx hv=>⟨.fz _ _ (H i x j v hx hv),λ_=>H i x j v hx hv⟩
theorem gA.toF {xs:List AV} (H:gA w D h β nest xs f) (A:nest=false) (i:Nat) (x:AV) (j:Nat) (v:AV) (hx:xs[i]? =some x) (hv:x.cells[j]? =some v):xF w D v (f i j):=
 (H i x j v hx hv).2 A
theorem gA.toV {xs:List AV} (H:gA w D h β nest xs f) (i:Nat) (x:AV) (j:Nat) (v:AV) (hx:xs[i]? =some x) (hv:x.cells[j]? =some v):yF w D h β v (f i j):=
 (H i x j v hx hv).1
def XO (w:World) (D:Nat->Prop) (h:yM) (β:uH) (k:Nat):xM->Prop
 | .box cs=>∃b c el,β k=[(b,0)]/\w.heap[b]? =some (.cells c el (0,0))/\c.size=ln cs/\(∀i,i<c.size->(c.getD i undef).oneCell'=true)/\∀(i:Nat) v,cs[i]? =some v->yF w D h β v (c.getD i undef)
 | .obj o=>β k=[(o.1,0)]/\∃x,w.heap[o.1]? =some x/\o.2 x
 | .arr sz xs st=>1<=sz/\xs.length<=cD/\(xs≠[]->β k≠[])/\(∀(i:Nat) (x:AV),xs[i]? =some x->ln x.cells=sz)/\
  (∀b n r,β k=(b,n)::r->n=ln xs/\(st.stale=false->∀B A,(B,A)∈r->A=0)/\∀B A,(B,A)∈r->A<ln xs)/\
  ∃f:Nat->Nat->Value,gA w D h β st.nest xs f/\(∀i j,i<ln xs->j<sz->(f i j).oneCell'=true)/\
   ∀b n,(b,n)∈β k->∃c el,w.heap[b]? =some (.cells c el (0,0))/\n*sz<=c.size/\(∀i j,i<n->j<sz->c[i*sz+j]? =some (f i j))/\∀i,i<c.size->(c.getD i undef).oneCell'=true
 | .dead=>β k=[]
structure jW (X:Nat->Prop) (h:yM) (β:uH) (w:World):Prop where
 ent:∀k e,h k=some e->XO w (xT X β) h β k e
 off:∀k,h k=none->β k=[]
 disj:∀k k' b n n',(b,n)∈β k->(b,n')∈β k'->k=k'
 free:∀k b n,(b,n)∈β k->¬X b
 lt:∀b,xT X β b->b<w.heap.size
structure DA (w:World) (D:Nat->Prop) (h:yM) (β:uH) (w':World) (D':Nat->Prop) (h':yM) (β':uH):Prop where
 size:w.heap.size<=w'.heap.size
 fz:∀b,b<w.heap.size->¬D b->w'.heap[b]? =w.heap[b]? /\¬D' b
 bs:∀k b n,(b,n)∈β k->wW w' b=wW w b
 key:∀k e,h k=some e->h' k=some .dead\/match e with
  | .dead=>False
  | .box _=>(∃cs',h' k=some (.box cs'))/\∀b n,(b,n)∈β k->(b,n)∈β' k
  | .obj _=>(∃cs',h' k=some (.obj cs'))/\∀b n,(b,n)∈β k->(b,n)∈β' k
  | .arr sz xs _=>(∃xs' st',h' k=some (.arr sz xs' st')/\xs.length<=xs'.length)/\∀b n,(b,n)∈β k->∃n',n<=n'/\(b,n')∈β' k
theorem uy.evo {xs:List AV} {b:Nat} (A:uy w D xs b o sz f) (C:w.heap.size<=w'.heap.size)
 (B:∀b,b<w.heap.size->¬D b->w'.heap[b]? =w.heap[b]? /\¬D' b):uy w' D' xs b o sz f:=
 ⟨zBg A.lt C,(B b A.lt A.nd).2,A.pos,A.max,A.wide,λi j hi hj=>(World.cell?_of_block (a:=⟨b,o+i*sz+j,none⟩) (B b A.lt A.nd).1).trans (A.cell i j hi hj),A.one⟩
theorem xF.evo (E:w.heap.size<=w'.heap.size) (C:∀b,b<w.heap.size->¬D b->w'.heap[b]? =w.heap[b]? /\¬D' b)
 {v:AV} (h:xF w D v c):xF w' D' v c:=by
 induction h with
 |bot c=>exact .bot c
 |gh n c=>exact .gh n c
 |s v=>exact .s v
 |agg cs c hl h1 _ A=>exact .agg cs c hl h1 A
 |nil a cap=>exact .nil a cap
 |nil1 a cap=>exact .nil1 a cap
 |sl nn xs b o sz cap f hx B hc _ A=>exact .sl nn xs b o sz cap f hx (B.evo E C) hc A
 |slc cap xs b o sz f B hc _ A=>exact .slc cap xs b o sz f (B.evo E C) hc A
 |fp xs b o sz i off f B hi G _ A=>exact .fp xs b o sz i off f (B.evo E C) hi G A
 |fm L p b x G hl hd hx I=>exact .fm L p b x G (zBg hl E) (C b hl hd).2 ((C b hl hd).1.trans hx) I
theorem yF.evo (E:DA w D h β w' D' h' β') {v:AV} (hv:yF w D h β v c):yF w' D' h' β' v c:=by
 induction hv with
 |fz v c M=>exact .fz v c (M.evo E.size E.fz)
 |agg cs c hl h1 _ G=>exact .agg cs c hl h1 G
 |fn f C c hl _ G=>exact .fn f C c hl G
 |tup S c hl _ G=>exact .tup S c hl G
 |dref k off len c hk h1=>exact .dref _ _ _ _ ((E.key k _ hk).resolve_right (λf=>f)) h1
 |dptr k i off c hk h1=>exact .dptr _ _ _ _ ((E.key k _ hk).resolve_right (λf=>f)) h1
 |ref k off len sz xs st b n cap hk hb I hc R=>
  rcases E.key k _ hk with hd|⟨⟨xs',st',hk',_⟩,hm⟩
  .exact .dref _ _ _ _ hd Z
  .obtain⟨L,B,A⟩:=hm b n hb;exact .ref k off len sz xs' st' b L cap hk' A (zBf I B) hc (by rw[E.bs k b n hb];exact R)
 |ref0 k off sz xs st a hk I=>
  rcases E.key k _ hk with hd|⟨⟨xs',st',hk',hl⟩,hm⟩
  .exact .dref _ _ _ _ hd Z
  .exact .ref0 k off sz xs' st' a hk' (zBf I hl)
 |pbox k off cs b n hk hb=>
  rcases E.key k _ hk with hd|⟨⟨cs',hk'⟩,hm⟩
  .exact .dptr _ _ _ _ hd Z
  .exact .pbox k off cs' b n hk' (hm b n hb)
 |parr k i off sz xs st b n hk hb hi O=>
  rcases E.key k _ hk with hd|⟨⟨xs',st',hk',hl⟩,hm⟩
  .exact .dptr _ _ _ _ hd Z
  .obtain⟨L,B,A⟩:=hm b n hb;exact .parr k i off sz xs' st' b L hk' A (zBg hi B) O
theorem gA.evo (E:DA w D h β w' D' h' β') {xs:List AV} (H:gA w D h β nest xs f):gA w' D' h' β' nest xs f:=
 λi x j v hx hv=>⟨(H i x j v hx hv).1.evo E,λA=>((H i x j v hx hv).2 A).evo E.size E.fz⟩
structure xX (X:Nat->Prop) (w:World) (h:yM) (β:uH) (w':World) (h':yM) (β':uH):Prop where
 size:w.heap.size<=w'.heap.size
 keep:∀b,b<w.heap.size->(∀k n,(b,n)∉β k)->w'.heap[b]? =w.heap[b]?
 own:∀k b n,(b,n)∈β' k->(∃k' n',(b,n')∈β k')\/w.heap.size<=b
 bs:∀k b n,(b,n)∈β k->wW w' b=wW w b
 key:∀k e,h k=some e->h' k=some .dead\/match e with
  | .dead=>False
  | .box _=>(∃cs',h' k=some (.box cs'))/\∀b n,(b,n)∈β k->(b,n)∈β' k
  | .obj _=>(∃cs',h' k=some (.obj cs'))/\∀b n,(b,n)∈β k->(b,n)∈β' k
  | .arr sz xs _=>(∃xs' st',h' k=some (.arr sz xs' st')/\xs.length<=xs'.length)/\∀b n,(b,n)∈β k->∃n',n<=n'/\(b,n')∈β' k
 hok:jW X h' β' w'
 os:w'.os=w.os
 tape:w'.tape=w.tape
 output:w'.output=w.output
theorem xX.evo (G:xX X w h β w' h' β'):DA w (xT X β) h β w' (xT X β') h' β' where
 size:=G.size
 fz b hb hd:=by
  have h1:∀k n,(b,n)∉β k:=λk n A=>hd (.inr ⟨k,n,A⟩)
  refine⟨G.keep b hb h1,?_⟩;rintro(hx|⟨k,n,A⟩)
  .exact hd (.inl hx)
  .rcases G.own k b n A with⟨B,C,h2⟩|h2
   .exact h1 _ _ h2
   .omega
 bs:=G.bs
 key:=G.key
theorem kY (h:yM) (β:uH):∀k e,h k=some e->h k=some .dead\/match e with
 | .dead=>False
 | .box _=>(∃A,h k=some (.box A))/\∀b n,(b,n)∈β k->(b,n)∈β k
 | .obj _=>(∃A,h k=some (.obj A))/\∀b n,(b,n)∈β k->(b,n)∈β k
 | .arr sz xs _=>(∃B st',h k=some (.arr sz B st')/\xs.length<=ln B)/\∀b n,(b,n)∈β k->∃C,n<=C/\(b,C)∈β k:=by grind
theorem xX.refl (H:jW X h β w):xX X w h β w h β:=
 ⟨zAe _,λ_ _ _=>rfl,λk _ n A=> .inl ⟨k,n,A⟩,λ_ _ _ _=>rfl,kY h β,H,rfl,rfl,rfl⟩
theorem jW.drew {w:World} (H:jW X h β w) (n:Nat):jW X h β {w with drawn:=n}:=by
 have E:∀{v c},yF w (xT X β) h β v c->yF {w with drawn:=n} (xT X β) h β v c:=λhv=>
  yF.evo (w:=w) (w':={w with drawn:=n}) (D':=xT X β) (h':=h) (β':=β) ⟨zAe _,λ_ _ hd=>⟨rfl,hd⟩,λ_ _ _ _=>rfl,kY h β⟩ hv
 have I:∀{v c},xF w (xT X β) v c->xF {w with drawn:=n} (xT X β) v c:=λhv=>xF.evo (w:=w) (w':={w with drawn:=n}) (D':=xT X β) (zAe _) (λ_ _ hd=>⟨rfl,hd⟩) hv
 refine⟨λk e M=>?_,H.off,H.disj,H.free,H.lt⟩;have:=H.ent k e M
 cases e with
 |dead=>exact this
 |box cs=>
  obtain⟨b,c,el,h1,h2,A,B,C⟩:=this;exact⟨b,c,el,h1,h2,A,B,λi v hv=>E (C i v hv)⟩
 |obj cs=>
  exact this
 |arr sz xs st=>
  obtain⟨h1,h2,A,B,C,f,G,L⟩:=this;exact⟨h1,h2,A,B,C,f,λi x j v hx hv=>⟨E (G i x j v hx hv).1,λO=>I ((G i x j v hx hv).2 O)⟩,L⟩
theorem xX.drew {w:World} (H:jW X h β w) (n:Nat):xX X w h β {w with drawn:=n} h β:=
 ⟨zAe _,λ_ _ _=>rfl,λk _ n A=> .inl ⟨k,n,A⟩,λ_ _ _ _=>rfl,kY h β,H.drew n,rfl,rfl,rfl⟩
theorem xX.trans {O:World} {E:yM} {R:uH} (H:jW X h β w) (G:xX X w h β w' h' β') (K:xX X w' h' β' O E R):xX X w h β O E R where
 size:=zBf G.size K.size
 keep b hb hn:=by
  rw[K.keep b (zBg hb G.size),G.keep b hb hn];intro k n A
  rcases G.own k b n A with⟨S,C,h2⟩|h2
  .exact hn _ _ h2
  .omega
 own k b n A:=by
  rcases K.own k b n A with⟨S,C,h2⟩|h2
  .exact G.own S b C h2
  .exact .inr (zBf G.size h2)
 bs k b n A:=by
  have hb:=H.lt b (.inr ⟨k,n,A⟩);by_cases hd:∃k n,(b,n)∈β' k
  .obtain⟨S,C,B⟩:=hd;rw[K.bs S b C B,G.bs k b n A]
  .rw[<-G.bs k b n A];unfold wW World.shape?;rw[K.keep b (zBg hb G.size) λk n A=>hd ⟨k,n,A⟩]
 key k e he:=by
  rcases G.key k e he with h1|h1
  .rcases K.key k _ h1 with h2|h2
   .exact .inl h2
   .exact h2.elim
  .cases e with
   |dead=>exact h1.elim
   |box cs=>
    obtain⟨⟨U,h2⟩,I⟩:=h1
    rcases K.key k _ h2 with h4|⟨h4,h5⟩
    .exact .inl h4
    .exact .inr ⟨h4,λb n A=>h5 b n (I b n A)⟩
   |obj cs=>
    obtain⟨⟨U,h2⟩,I⟩:=h1
    rcases K.key k _ h2 with h4|⟨h4,h5⟩
    .exact .inl h4
    .exact .inr ⟨h4,λb n A=>h5 b n (I b n A)⟩
   |arr sz xs st=>
    obtain⟨⟨Y,st',h2,hl⟩,I⟩:=h1
    rcases K.key k _ h2 with h4|⟨⟨xs'',st'',h4,hl'⟩,h5⟩
    .exact .inl h4
    .refine .inr ⟨⟨xs'',st'',h4,zBf hl hl'⟩,λb n A=>?_⟩;obtain⟨C,V,B⟩:=I b n A;obtain⟨W,M,L⟩:=h5 b C B;exact⟨W,zBf V M,L⟩
 hok:=K.hok
 os:=K.os.trans G.os
 tape:=K.tape.trans G.tape
 output:=K.output.trans G.output
section
inductive TD where
 |str (fs:List (Nat×Nat))
 |slice (e:Nat)
 |arr (n e:Nat)
 |int (k:IntKind)
 |bool
 |string
 |ptr (e:Nat)
 |func
 |other
structure TI where
 d:TD
 size:Nat
 bytes:Nat
 zero:List Value
def TD.agg:TD->Bool
 | .str _| .arr _ _=>true
 |_=>false
def XE:TypeDesc->TD
 | .struct fs=> .str (fs.toList.map λf=>(f.offset,f.type))
 | .slice e=> .slice e
 | .array n e=> .arr n e
 | .int k=> .int k
 | .bool=> .bool
 | .string=> .string
 | .pointer e=> .ptr e
 | .func .. => .func
 |_=> .other
def Qj (P:Program) (t:Nat):Option TI:=
 match P.info? t,P.underlying t with
 |some i,some u=>i.zero.map λz=>⟨XE u,i.size,i.bytes,z.cells.toList⟩
 |_,_=>none
def qI (P:Program) (TT:List TI):Prop:=∀(t:Nat) ti,TT[t]? =some ti->Qj P t=some ti
theorem vO {t:Nat} {A:TI} (h:Qj P t=some A):∃i u z,P.info? t=some i/\P.underlying t=some u/\i.zero=some z/\A.d=XE u/\A.size=i.size/\A.bytes=i.bytes/\A.zero=z.cells.toList:=by
 unfold Qj at h;split at h
 .rename_i i u hi C
  cases B:i.zero with
  |none=>simp[B]at h
  |some z=>
   grind
 .cases h
section runs
variable {P:Program} {t:Nat} {ti:TI} (h:Qj P t=some ti) (w:World)
include h
def DB:∃i z,(typeInfo t).run P w= .ok i w/\i.size=ti.size/\i.bytes=ti.bytes/\i.zero=some z/\z.cells.toList=ti.zero:=by
 obtain⟨i,u,z,hi,_,C,_,B,hb,A⟩:=vO h;exact⟨i,z,by simp[typeInfo,hi],B.symm,hb.symm,C,A.symm⟩
def jR:(sizeOf t).run P w= .ok ti.size w:=by
 obtain⟨i,z,A,B,_⟩:=DB h w;simp[sizeOf,A,B]
def Pj:∃z,(zeroValue t).run P w= .ok z w/\z.cells.toList=ti.zero:=by
 obtain⟨i,z,B,_,_,C,A⟩:=DB h w;exact⟨z,by simp[zeroValue,B,C],A⟩
def vX:∃u,(underlying t).run P w= .ok u w/\XE u=ti.d:=by
 obtain⟨i,u,z,_,A,_,hd,_⟩:=vO h;exact⟨u,by simp[underlying,A],hd.symm⟩
def IY:(isAgg t).run P w= .ok ti.d.agg w:=by
 obtain⟨u,A,hd⟩:=vX h w;rw[<-hd];simp only[isAgg,Sem.run_bind,A,Result.andThen_ok]
 cases u<;>rfl
end runs
def DC {t:Nat} (w:World) (A:P.underlying t=some u):(underlying t).run P w= .ok u w:=by simp[underlying,A]
def kO (h:XE u= .slice e):u= .slice e:=by cases u<;>simp[XE]at h;rw[h]
def Oj (h:XE u= .arr n e):u= .array n e:=by cases u<;>simp[XE]at h;rw[h.1,h.2]
def IZ {k:IntKind} (h:XE u= .int k):u= .int k:=by cases u<;>simp[XE]at h;rw[h]
def mr (h:XE u= .bool):u= .bool:=by cases u<;>simp[XE]at h;rfl
def Lf (h:XE u= .string):u= .string:=by cases u<;>simp[XE]at h;rfl
def Ua (h:XE u= .str fs):∃f,u= .struct f/\f.toList.map (λf=>(f.offset,f.type))=fs:=by
 cases u with
 |struct f=>exact⟨f,rfl,by simpa [XE]using h⟩
 |_=>simp[XE]at h
structure St where
 tm:List (Nat×AV)
 h:List (Nat×xM)
def zL:List (Nat×AV)->Nat->AV
 | [],_=> .bot
 |(k,v)::r,t=>bif Nat.beq t k then v else zL r t
def zD:List (Nat×xM)->Nat->Option xM
 | [],_=>none
 |(k,e)::r,t=>bif Nat.beq t k then some e else zD r t
def over (d:List (Nat×xM)) (h:yM):yM:=λk=>match zD d k with
 |some e=>some e
 |none=>h k
def yW (A:Nat->AV):Operand->AV
 | .tmp t=>A t
 | .const v=> .s v
 | .func f=> .fn f []
 | .global _=> .bot
def fV (op:Op):List Nat:=op.operands.toList.filterMap λ| .tmp t=>some t|_=>none
def WH (P:Program) (N:Value->World->Prop):Result Next->Prop
 | .ok (.value c) w'=>N c w'
 | .ok .skip w'=>N undef w'
 | .ok (.enter f args) w'=>Calls P f args w' λe A=>∃c,e= .returned c/\N c A
 |_=>False
def D4 (P:Program) (X:Nat->Prop) (A:Nat->AV) (h:yM) (op:Op) (v:AV) (h':yM):Prop:=
 ∀(o:Oper) (a:Act) (w:World) (β:uH),o.op=op->jW X h β w->(∀t,yF w (xT X β) h β (A t) (a.eval (.tmp t)))->
  WH P (λc w'=>∃β',xX X w h β w' h' β'/\yF w' (xT X β') h' β' v c) ((execOp a.eval o).run P w)
structure wZ (P:Program) (st:St) (op:Op) (v:AV) (d:List (Nat×xM)) (r nw:List Nat):Prop where
 run:∀(X:Nat->Prop) (tm:Nat->AV) (h:yM),(∀t,t∈fV op->tm t=zL st.tm t)->(∀k,k∈r->h k=zD st.h k)->(∀k,k∈nw->h k=none)->D4 P X tm h op v (over d h)
section
variable {w:World} {D:Nat->Prop} {h:yM} {β:uH}
def PN {A:Nat->AV} (H:∀t,yF w D h β (A t) (a.eval (.tmp t))) (x:Operand):yF w D h β (yW A x) (a.eval x):=by
 cases x with
 |tmp t=>exact H t
 |const v=>exact .fz _ _ (.s v)
 |global g=>exact .fz _ _ (.bot _)
 |func f=>exact .fn f [] #[] Z (λi v hv=>by simp at hv)
def Kf {op:Op} {B A:Nat->AV} (H:∀t,t∈fV op->B t=A t) (hx:x∈op.operands):yW B x=yW A x:=by
 cases x with
 |tmp t=>exact H t (by simp only[fV,List.mem_filterMap];exact⟨.tmp t,by simpa using hx,rfl⟩)
 |_=>rfl
theorem yF.s_inv {x:Value} (hv:yF w D h β (.s x) c):c=x:=by
 cases hv with
 |fz _ _ A=>cases A;rfl
def dE {op:Op} {A:Nat->AV} {st:St} (H:∀t,yF w D h β (A t) (a.eval (.tmp t))) (B:∀t,t∈fV op->A t=zL st.tm t) (hx:x∈op.operands) {v:AV}
 (hv:yW (zL st.tm) x=v):yF w D h β v (a.eval x):=by
 rw[<-hv,<-Kf B hx];exact PN H x
def vP {op:Op} {A:Nat->AV} {st:St} (H:∀t,yF w D h β (A t) (a.eval (.tmp t))) (B:∀t,t∈fV op->A t=zL st.tm t) (hx:x∈op.operands) {v:Value}
 (hv:yW (zL st.tm) x= .s v):a.eval x=v:=(dE H B hx hv).s_inv
end
def ZH (h:yM):over [] h=h:=rfl
def yZ {st:St} {op:Op} {v:AV} {r:List Nat}
 (H:∀(o:Oper) (X:Nat->Prop) (A:Nat->AV) (h:yM) (w:World) (β:uH) (a:Act),o.op=op->(∀t,t∈fV op->A t=zL st.tm t)->(∀k,k∈r->h k=zD st.h k)->jW X h β w->
 (∀t,yF w (xT X β) h β (A t) (a.eval (.tmp t)))->∃c,(execOp a.eval o).run P w= .ok (.value c) w/\yF w (xT X β) h β v c):wZ P st op v [] r []:=by
 refine⟨?_⟩;intro X A h E I _ o a w β G B C;obtain⟨c,hc,hv⟩:=H o X A h w β a G E I B C;rw[hc,ZH];exact⟨β,xX.refl B,hv⟩
section ops
variable {P:Program} {TT:List TI} {st:St}
theorem Nj {v:AV} (hv:yW (zL st.tm) x=v):wZ P st (.move x) v [] [] []:=
 yZ λo X L h w β a A C _ _ B=>by
  obtain⟨d0,o0,M,I,E,G⟩:=o;dsimp only at A;subst A;exact⟨a.eval x,rfl,dE B C uL hv⟩
theorem Ta {v:AV} (hv:yW (zL st.tm) x=v):wZ P st (.assign x) v [] [] []:=
 yZ λo X L h w β a A C _ _ B=>by
  obtain⟨d0,o0,M,I,E,G⟩:=o;dsimp only at A;subst A;exact⟨a.eval x,rfl,dE B C uL hv⟩
theorem Mj {c:Operand} {t:Bool} {v:AV} (hc:yW (zL st.tm) c= .s (.bool t)) (hv:(bif t then yW (zL st.tm) x else yW (zL st.tm) y)=v):wZ P st (.pick c x y) v [] [] []:=
 yZ λo X L h w β a C B _ _ A=>by
  obtain⟨d0,o0,M,I,E,G⟩:=o;dsimp only at C;subst C;have h1:=vP A B (x:=c) uL hc;refine⟨if t then a.eval x else a.eval y,by simp[execOp,h1,asBool],?_⟩;cases t
  all_goals exact dE A B uL hv
theorem DD {B:List AV} {v:AV} (hx:yW (zL st.tm) x= .tup B) (hv:B[i]? =some v):wZ P st (.extract x i) v [] [] []:=
 yZ λo X U h w β a A I _ _ C=>by
  obtain⟨d0,o0,V,S,O,R⟩:=o;dsimp only at A;subst A;have h1:=dE C I (x:=x) uL hx;have hi:=(zAx.1 hv).1;generalize E:a.eval x=M at h1
  cases h1 with
  |fz _ _ G=>cases G
  |tup _ c hl hh=>
   obtain⟨u,hc⟩:∃u,c[i]? =some u:=⟨c[i],by simp[show i<c.size by omega]⟩;have L:c.getD i undef=u:=by simp[zA4,hc]
   exact⟨u,by simp[execOp,Instr.extract,E,hc],L▸hh i v hv⟩
def bZ:IntKind->Int->Prop
 | .i64,n=> -9223372036854775808<=n/\n<=9223372036854775807
 | .u8,n=>0<=n/\n<=255
 | .i32,n=> -2147483648<=n/\n<=2147483647
 | .u32,n=>0<=n/\n<=4294967295
 | .u64,n=>0<=n/\n<=18446744073709551615
 | .i8,n=> -128<=n/\n<=127
 | .i16,n=> -32768<=n/\n<=32767
 | .u16,n=>0<=n/\n<=65535
theorem jX {k:IntKind} {n:Int} (h:bZ k n):k.wrap n=n:=by
 cases k<;>first
  |exact IntWalk.i64_in n h
  |exact IntWalk.u8_in n h
  |exact IntWalk.i32_in n h
  |exact IntWalk.u32_in n h
  |exact IntWalk.u64_in n h
  |exact IntWalk.i8_in n h
  |exact IntWalk.i16_in n h
  |exact IntWalk.u16_in n h
def uP {k:IntKind} {n:Int} {v:Value} (hx:yW (zL st.tm) x= .s (.int k m)) (G:yW (zL st.tm) y= .s (.int k n))
 (H:∀w,(binOp op tx (.int k m) (.int k n)).run P w= .ok v w):wZ P st (.binOp op tx x y ty) (.s v) [] [] []:=
 yZ λo X O h w β a E C _ _ B=>by
  obtain⟨d0,o0,R,M,I,L⟩:=o;dsimp only at E;subst E;have h1:=vP B C (x:=x) uL hx;have h2:=vP B C (x:=y) uL G;refine⟨v,?_,.fz _ _ (.s v)⟩
  have A:(eqGuard op tx x y (.int k m) (.int k n)).run P w= .ok () w:=by
   unfold eqGuard;cases op<;>rfl
  simp only[execOp,h1,h2,Sem.run_bind,A,Result.andThen_ok,H,Sem.run_pure]
section
variable {tx ty:Nat} {x y:Operand} {k:IntKind} {m n:Int} (hx:yW (zL st.tm) x= .s (.int k m)) (hy:yW (zL st.tm) y= .s (.int k n))
include hx hy
def PO (A:bZ k (m+n)):wZ P st (.binOp .add tx x y ty) (.s (.int k (m+n))) [] [] []:=uP hx hy λw=>by simp[binOp,Op.intArith,jX A]
def lr (A:bZ k (m-n)):wZ P st (.binOp .sub tx x y ty) (.s (.int k (m-n))) [] [] []:=uP hx hy λw=>by simp[binOp,Op.intArith,jX A]
def PP (A:bZ k (m*n)):wZ P st (.binOp .mul tx x y ty) (.s (.int k (m*n))) [] [] []:=uP hx hy λw=>by simp[binOp,Op.intArith,jX A]
def sr (B:bZ k (m.tdiv n)) (A:n≠0):wZ P st (.binOp .quo tx x y ty) (.s (.int k (m.tdiv n))) [] [] []:=uP hx hy λw=>by simp[binOp,Op.intDiv,A,jX B]
def tr (A:n≠0):wZ P st (.binOp .rem tx x y ty) (.s (.int k (m.tmod n))) [] [] []:=uP hx hy λw=>by simp[binOp,Op.intDiv,A]
def HA:wZ P st (.binOp .and tx x y ty) (.s (.int k (k.wrap (BitVec.ofInt k.bits m &&& BitVec.ofInt k.bits n).toNat))) [] [] []:=uP hx hy λw=>by simp only[binOp,Op.intBits];simp
theorem HB:wZ P st (.binOp .or tx x y ty) (.s (.int k (k.wrap (BitVec.ofInt k.bits m ||| BitVec.ofInt k.bits n).toNat))) [] [] []:=uP hx hy λw=>by simp only[binOp,Op.intBits];simp
def Zr:wZ P st (.binOp .xor tx x y ty) (.s (.int k (k.wrap (BitVec.ofInt k.bits m ^^^ BitVec.ofInt k.bits n).toNat))) [] [] []:=uP hx hy λw=>by simp only[binOp,Op.intBits];simp
def Sa:wZ P st (.binOp .andNot tx x y ty) (.s (.int k (k.wrap (BitVec.ofInt k.bits m &&& ~~~BitVec.ofInt k.bits n).toNat))) [] [] []:=uP hx hy λw=>by simp only[binOp,Op.intBits];simp
def HC:wZ P st (.binOp .eql tx x y ty) (.s (.bool (m==n))) [] [] []:=uP hx hy λw=>by simp[binOp,Op.intCmp]
def HE:wZ P st (.binOp .neq tx x y ty) (.s (.bool (m != n))) [] [] []:=uP hx hy λw=>by simp[binOp,Op.intCmp]
def HF:wZ P st (.binOp .lss tx x y ty) (.s (.bool (decide (m<n)))) [] [] []:=uP hx hy λw=>by simp[binOp,Op.intCmp]
def HG:wZ P st (.binOp .leq tx x y ty) (.s (.bool (decide (m<=n)))) [] [] []:=uP hx hy λw=>by simp[binOp,Op.intCmp]
def HI:wZ P st (.binOp .gtr tx x y ty) (.s (.bool (decide (n<m)))) [] [] []:=uP hx hy λw=>by simp[binOp,Op.intCmp]
def HJ:wZ P st (.binOp .geq tx x y ty) (.s (.bool (decide (n<=m)))) [] [] []:=uP hx hy λw=>by simp[binOp,Op.intCmp]
end
def YN {k L:IntKind} {n:Int} {v:Int} (A:op= .shl/\v=k.wrap (m*2 ^ (min n.toNat k.bits))\/op= .shr/\v=m.fdiv (2 ^ (min n.toNat k.bits)))
 (hx:yW (zL st.tm) x= .s (.int k m)) (I:yW (zL st.tm) y= .s (.int L n)) (R:0<=n):wZ P st (.binOp op tx x y ty) (.s (.int k v)) [] [] []:=
 yZ λo X U h w β a E C _ _ B=>by
  obtain⟨d0,o0,V,S,M,O⟩:=o;dsimp only at E;subst E;have h1:=vP B C (x:=x) uL hx;have h2:=vP B C (x:=y) uL I;have G:¬n<0:=by omega
  refine⟨.int k v,?_,.fz _ _ (.s _)⟩
  rcases A with⟨rfl,rfl⟩|⟨rfl,rfl⟩<;>simp[execOp,h1,h2,eqGuard,binOp,Op.shift,G]
def Yr {b:Bool} (hx:yW (zL st.tm) x= .s (.bool b)):wZ P st (.unOp .not tx x) (.s (.bool !b)) [] [] []:=
 yZ λo X L h w β a A C _ _ B=>by
  obtain⟨d0,o0,M,I,E,G⟩:=o;dsimp only at A;subst A;have h1:=vP B C (x:=x) uL hx;exact⟨_,by simp[execOp,h1,Op.unary],.fz _ _ (.s _)⟩
def Xr {k:IntKind} {n:Int} (hx:yW (zL st.tm) x= .s (.int k n)) (E:bZ k (-n)):wZ P st (.unOp .neg tx x) (.s (.int k (-n))) [] [] []:=
 yZ λo X M h w β a A C _ _ B=>by
  obtain⟨d0,o0,O,L,G,I⟩:=o;dsimp only at A;subst A;have h1:=vP B C (x:=x) uL hx;exact⟨.int k (-n),by simp[execOp,h1,Op.unary,Op.intArith,jX E],.fz _ _ (.s _)⟩
def DE {C A:Nat} {k B:IntKind} {n:Int} {ts S:TI} (O:qI P TT) (Y:TT[C]? =some ts) (hd:TT[A]? =some S) (hk:S.d= .int B) (hx:yW (zL st.tm) x= .s (.int k n)):
  wZ P st (.convert C A x) (.s (.int B (B.wrap n))) [] [] []:=
 yZ λo X tm h w β a R W _ _ V=>by
  obtain⟨M,ac,U,pos,E,G⟩:=o;dsimp only at R;subst R;have h1:=vP V W (x:=x) uL hx;obtain⟨u,hu,_⟩:=vX (O _ _ Y) w;obtain⟨u',L,I⟩:=vX (O _ _ hd) w;obtain rfl:=IZ (I.trans hk);exact⟨.int B (B.wrap n),by simp[execOp,convert,h1,hu,L,Conv.intToInt],.fz _ _ (.s _)⟩
def JJ {p q:Bool} {v:Bool} {I:TI} (L:qI P TT) (O:TT[tx]? =some I) (hd:I.d= .bool) (hx:yW (zL st.tm) x= .s (.bool p)) (S:yW (zL st.tm) y= .s (.bool q))
 (B:op= .eql/\v=(p==q)\/op= .neq/\v=(p != q)):wZ P st (.binOp op tx x y ty) (.s (.bool v)) [] [] []:=
 yZ λo X Y h w β a G E _ _ C=>by
  obtain⟨d0,o0,y0,W,U,V⟩:=o;dsimp only at G;subst G;have h1:=vP C E (x:=x) uL hx;have h2:=vP C E (x:=y) uL S;obtain⟨u,R,A⟩:=vX (L _ _ O) w;obtain rfl:=mr (A.trans hd)
  have M:(Op.equal tx (.bool p) (.bool q)).run P w= .ok (p==q) w:=by
   show(Op.equalIn (9999+1) tx (.bool p) (.bool q)).run P w=_
   unfold Op.equalIn;simp[R]
  refine⟨.bool v,?_,.fz _ _ (.s _)⟩
  rcases B with⟨rfl,rfl⟩|⟨rfl,rfl⟩<;>simp[execOp,h1,h2,eqGuard,binOp,M,bne]
def HL {f:Nat} {cap:Array Operand}:wZ P st (.makeFunc (.func f) #[] cap) (.fn f (cap.toList.map (yW (zL st.tm)))) [] [] []:=
 yZ λo X L h w β a A C _ _ B=>by
  obtain⟨d0,o0,M,I,E,G⟩:=o;dsimp only at A;subst A;refine⟨.func (.func f) #[] (cap.map a.eval),by simp[execOp,Instr.makeFunc],.fn _ _ _ yE λi v hv=>?_⟩;simp only[zAh,zAo]at hv;obtain⟨x,hx,rfl⟩:=hv
  have:(cap.map a.eval).getD i undef=a.eval x:=by
   have:cap[i]? =some x:=by simpa using hx
   simp[zA4,this]
  rw[this];refine dE B C ?_ Z
  have:x∈cap:=by
   have:=zB5 hx;simpa using this
  simp[Op.operands,this]
end ops
end
def cT (β:uH) (k:Nat) (l:List (Nat×Nat)):uH:=λj=>if j=k then l else β j
variable {te tf ti:TI}
def yJ (β:uH) (k:Nat) (l:List (Nat×Nat)):cT β k l k=l:=by simp[cT]
def qN (β:uH) (l:List (Nat×Nat)) (h:j≠k):cT β k l j=β j:=by simp[cT,h]
def Jf (k:Nat):Nat.beq k k=true:=by simp
theorem JK (h:j≠k):Nat.beq j k=false:=by grind [Nat.beq,Nat.eq_of_beq_eq_true]
def qO (k:Nat) (e:xM) (h:yM):over [(k,e)] h k=some e:=by simp[over,zD]
def aA {k:Nat} (e:xM) (h:yM) (hj:j≠k):over [(k,e)] h j=h j:=by simp[over,zD,JK hj]
theorem XO.evo (E:DA w D h β w' D' h' β') {e:xM} (hb:β' k=β k) (hk:∀b n,(b,n)∈β k->w'.heap[b]? =w.heap[b]?)
 (H:XO w D h β k e):XO w' D' h' β' k e:=by
 cases e with
 |dead=>exact hb.trans H
 |box cs=>
  obtain⟨b,c,el,h1,h2,G,B,I⟩:=H;exact⟨b,c,el,hb.trans h1,(hk b 0 (by rw[h1];simp)).trans h2,G,B,λi v hv=>(I i v hv).evo E⟩
 |obj cs=>
  simp_all [yM,uH,XO]
 |arr sz xs st=>
  obtain⟨h1,h2,G,B,I,f,L,M,O⟩:=H;refine⟨h1,h2,by rwa [hb],B,by rwa [hb],f,L.evo E,M,λb n C=>?_⟩;rw[hb]at C;obtain⟨c,el,R,A⟩:=O b n C;exact⟨c,el,(hk b n C).trans R,A⟩
theorem xX.step (H:jW X h β w) (k:Nat) (O:xM) (l:List (Nat×Nat)) (L:w.heap.size<=w'.heap.size)
 (U:∀b,b<w.heap.size->(∀n,(b,n)∉β k)->w'.heap[b]? =w.heap[b]?) (os:w'.os=w.os) (ar:w'.tape=w.tape) (W:w'.output=w.output)
 (Y:∀b n,(b,n)∈l->(∃C,(b,C)∈β k)\/(w.heap.size<=b/\b<w'.heap.size)) (bs:∀b n,(b,n)∈β k->wW w' b=wW w b)
 (ax:∀e,h k=some e->O= .dead\/match e with
 | .dead=>False
 | .box _=>(∃A,O= .box A)/\∀b n,(b,n)∈β k->(b,n)∈l
 | .obj _=>(∃A,O= .obj A)/\∀b n,(b,n)∈β k->(b,n)∈l
 | .arr sz xs _=>(∃M st',O= .arr sz M st'/\xs.length<=ln M)/\∀b n,(b,n)∈β k->∃C,n<=C/\(b,C)∈l)
 (au:DA w (xT X β) h β w' (xT X (cT β k l)) (over [(k,O)] h) (cT β k l)->XO w' (xT X (cT β k l)) (over [(k,O)] h) (cT β k l) k O):
  xX X w h β w' (over [(k,O)] h) (cT β k l):=by
 have ag:∀j b n,(b,n)∈cT β k l j->(∃k' C,(b,C)∈β k')\/w.heap.size<=b:=by
  intro j b n B;by_cases hj:j=k
  .subst hj;rw[yJ]at B
   grind
  .rw[qN _ _ hj]at B;exact .inl ⟨_,_,B⟩
 have G:∀j b n C,j≠k->(b,n)∈β j->(b,C)∉β k:=λj b n C hj h1 h2=>hj (H.disj _ _ _ _ _ h1 h2)
 have V:∀b,b<w.heap.size->(∀k n,(b,n)∉β k)->w'.heap[b]? =w.heap[b]? :=λb hb hn=>U b hb (hn k)
 have ap:∀j b n,(b,n)∈β j->wW w' b=wW w b:=by
  intro j b n B;by_cases hj:j=k
  .grind
  .unfold wW World.shape?;rw[U b (H.lt b (.inr ⟨j,n,B⟩)) λC h1=>G j b n C hj B h1]
 have ac:∀j e,h j=some e->over [(k,O)] h j=some .dead\/match e with
   | .dead=>False
   | .box _=>(∃A,over [(k,O)] h j=some (.box A))/\∀b n,(b,n)∈β j->(b,n)∈cT β k l j
   | .obj _=>(∃A,over [(k,O)] h j=some (.obj A))/\∀b n,(b,n)∈β j->(b,n)∈cT β k l j
   | .arr sz xs _=>(∃M st',over [(k,O)] h j=some (.arr sz M st')/\xs.length<=ln M)/\∀b n,(b,n)∈β j->∃C,n<=C/\(b,C)∈cT β k l j:=by
  intro j e R;by_cases hj:j=k
  .subst hj;rw[qO,yJ]
   rcases ax e R with h1|h1
   .exact .inl (by rw[h1])
   .cases e with
    |dead=>exact h1.elim
    |box cs=>obtain⟨⟨A,h2⟩,I⟩:=h1;exact .inr ⟨⟨A,by rw[h2]⟩,I⟩
    |obj cs=>obtain⟨⟨A,h2⟩,I⟩:=h1;exact .inr ⟨⟨A,by rw[h2]⟩,I⟩
    |arr sz xs st=>obtain⟨⟨M,st',h2,av⟩,I⟩:=h1;exact .inr ⟨⟨M,st',by rw[h2],av⟩,I⟩
  .rw[aA _ _ hj,qN _ _ hj];exact kY h β j e R
 have E:DA w (xT X β) h β w' (xT X (cT β k l)) (over [(k,O)] h) (cT β k l):=by
  refine⟨L,λb hb hd=>?_,ap,ac⟩;have h1:∀k n,(b,n)∉β k:=λk n B=>hd (.inr ⟨k,n,B⟩)
  refine⟨V b hb h1,?_⟩;rintro(hx|⟨j,n,B⟩)
  .exact hd (.inl hx)
  .rcases ag j b n B with⟨k',C,h2⟩|h2
   .exact h1 _ _ h2
   .omega
 refine⟨L,V,ag,ap,ac,⟨λj e R=>?_,λj R=>?_,λj j' b n C h1 h2=>?_,λj b n B hx=>?_,λb hd=>?_⟩,os,ar,W⟩
 .by_cases hj:j=k
  .subst hj;rw[qO]at R;cases R;exact au E
  .rw[aA _ _ hj]at R;exact(H.ent j e R).evo E (qN _ _ hj) λb n B=>U b (H.lt b (.inr ⟨j,n,B⟩)) λC h1=>G j b n C hj B h1
 .by_cases hj:j=k
  .subst hj;rw[qO]at R;cases R
  .rw[aA _ _ hj]at R;rw[qN _ _ hj];exact H.off j R
 .by_cases hj:j=k<;>by_cases S:j'=k
  .rw[hj,S]
  .subst hj;rw[yJ]at h1;rw[qN _ _ S]at h2
   rcases Y b n h1 with⟨m,I⟩|⟨I,_⟩
   .exact absurd I (G j' b C m S h2)
   .have:=H.lt b (.inr ⟨_,_,h2⟩);omega
  .subst S;rw[yJ]at h2;rw[qN _ _ hj]at h1
   rcases Y b C h2 with⟨m,I⟩|⟨I,_⟩
   .exact absurd I (G j b n m hj h1)
   .have:=H.lt b (.inr ⟨_,_,h1⟩);omega
  .rw[qN _ _ hj]at h1;rw[qN _ _ S]at h2;exact H.disj _ _ _ _ _ h1 h2
 .by_cases hj:j=k
  .subst hj;rw[yJ]at B
   rcases Y b n B with⟨m,I⟩|⟨I,_⟩
   .exact H.free _ _ _ I hx
   .have:=H.lt b (.inl hx);omega
  .rw[qN _ _ hj]at B;exact H.free _ _ _ B hx
 .rcases hd with hx|⟨j,n,B⟩
  .exact zBg (H.lt b (.inl hx)) L
  .by_cases hj:j=k
   .subst hj;rw[yJ]at B
    rcases Y b n B with⟨m,I⟩|⟨_,I⟩
    .exact zBg (H.lt b (.inr ⟨_,_,I⟩)) L
    .exact I
   .rw[qN _ _ hj]at B;exact zBg (H.lt b (.inr ⟨_,_,B⟩)) L
theorem xX.new (H:jW X h β w) {k:Nat} (hk:h k=none) (A:xM) (n:Nat) (c:Array Value) (el:Nat)
 (C:DA w (xT X β) h β (w.alloc (.cells c el)) (xT X (cT β k [(w.heap.size,n)])) (over [(k,A)] h) (cT β k [(w.heap.size,n)])->
 XO (w.alloc (.cells c el)) (xT X (cT β k [(w.heap.size,n)])) (over [(k,A)] h) (cT β k [(w.heap.size,n)]) k A):
  xX X w h β (w.alloc (.cells c el)) (over [(k,A)] h) (cT β k [(w.heap.size,n)]):=by
 refine xX.step H k A _ yE (λb hb _=>heap_alloc_old w _ b hb) Z Z Z (λb n B=>?_) (λb n B=>?_) (λe E=>?_) C
 .simp at B;refine .inr ?_;simp[B.1]
 .rw[H.off k hk]at B;simp at B
 .rw[hk]at E;cases E
theorem xX.newBox (H:jW X h β w) {k:Nat} (hk:h k=none) (c:Array Value) (el:Nat) (cs:List AV) (hl:c.size=ln cs) (h1:∀i,i<c.size->(c.getD i undef).oneCell'=true)
 (hv:∀(i:Nat) v,cs[i]? =some v->yF w (xT X β) h β v (c.getD i undef)):
  ∃β',xX X w h β (w.alloc (.cells c el)) (over [(k,.box cs)] h) β'/\yF (w.alloc (.cells c el)) (xT X β') (over [(k,.box cs)] h) β' (.ptr k 0 0) (.pointer (some ⟨w.heap.size,0,none⟩)):=
 ⟨_,xX.new H hk (.box cs) 0 c el λE=>⟨_,c,el,yJ _ _ _,heap_alloc_new w _,hl,h1,λi v hx=>(hv i v hx).evo E⟩,
  .pbox k 0 cs w.heap.size 0 (qO _ _ _) (by rw[yJ];simp)⟩
def kP (c:Array Value):Prop:=∀v,v∈c.toList->v.oneCell'=true
theorem kP.get {c:Array Value} (h:kP c):∀i,i<c.size->(c.getD i undef).oneCell'=true:=λi hi=>by
 have e:c.getD i undef=c[i]:=by simp[Array.getD,hi]
 rw[e];exact h _ yE
theorem kP.of {c:Array Value} (h:∀i,i<c.size->(c.getD i undef).oneCell'=true):kP c:=λv hv=>by
 obtain⟨i,hi,rfl⟩:=zCj hv;have hi':i<c.size:=by simpa using hi
 have:=h i hi';simpa [Array.getD,hi']using this
theorem kP.app {a b:Array Value} (A:kP a) (hb:kP b):kP (a++b):=λv hv=>by
 rw[Array.toList_append,zAy]at hv;exact hv.elim (A v) (hb v)
theorem kP.arr {l:List Value} (h:∀v∈l,v.oneCell'=true):kP l.toArray:=λv hv=>h v EW
theorem DF (h:i<z.size):z[i]! ∈z.toList:=by grind
theorem kP.zero (h:∀v,v∈z.toList->v.oneCell'=true) (n:Nat):kP (Builtin.zeroCells z n):=λv hv=>by
 simp only[Builtin.zeroCells,zEj,Array.toList_range,zBm,zAw]at hv;obtain⟨i,hi,rfl⟩:=hv
 have B:0<z.size:=by
  rcases Nat.eq_zero_or_pos z.size with A|A
  .rw[A,Nat.mul_zero]at hi;omega
  .exact A
 exact h _ (DF (zFn _ B))
def DG {c:Array Value} (G:c.size=n*sz) (E:1<=sz) (C:∀i j,i<n->j<sz->c[i*sz+j]? =some (f i j)) (h1:∀i j,i<n->j<sz->(f i j).oneCell'=true):∀i,i<c.size->(c.getD i undef).oneCell'=true:=λi hi=>by
 have A:i % sz<sz:=zFn _ (by omega);have hd:i/sz<n:=by rw[Nat.div_lt_iff_lt_mul (by omega)];omega
 have e:i/sz*sz+i % sz=i:=by rw[zEe];exact Nat.div_add_mod i sz
 have h2:=C (i/sz) (i % sz) hd A;rw[e]at h2;have B:c.getD i undef=f (i/sz) (i % sz):=by simp[zA4,h2]
 rw[B];exact h1 _ _ hd A
theorem kP.made (h:∀v,v∈z.toList->v.oneCell'=true) (A:0<z.size) (n:Nat):kP (madeCells z n):=λv hv=>by
 simp only[madeCells,zEj,Array.toList_range,zBm,zAw]at hv;obtain⟨i,hi,rfl⟩:=hv;exact h _ (DF (zFn _ A))
theorem xX.newArr (H:jW X h β w) {k:Nat} (hk:h k=none) (c:Array Value) (el sz:Nat) (xs:List AV) (cap:Nat) (f:Nat->Nat->Value) (I:1<=sz) (G:ln xs<=cD)
 (A:ln xs<=cap) (hc:cap*sz=c.size) (B:∀i,i<c.size->(c.getD i undef).oneCell'=true) (M:∀(i:Nat) (x:AV),xs[i]? =some x->ln x.cells=sz) (C:∀i j,i<ln xs->j<sz->c[i*sz+j]? =some (f i j)) (h1:∀i j,i<ln xs->j<sz->(f i j).oneCell'=true)
 (hv:∀(i:Nat) (x:AV) (j:Nat) v,xs[i]? =some x->x.cells[j]? =some v->xF w (xT X β) v (f i j)):
  ∃β',xX X w h β (w.alloc (.cells c el)) (over [(k,.arr sz xs false)] h) β'/\yF (w.alloc (.cells c el)) (xT X β') (over [(k,.arr sz xs false)] h) β' (.ref k 0 (ln xs)) (.slice (some ⟨w.heap.size,0,none⟩) (ln xs) cap):=by
 refine⟨_,xX.new H hk (.arr sz xs false) (ln xs) c el λE=>⟨I,G,λ_=>by rw[yJ];simp,M,λb n r L=>?_,f,.ofF λi x j v hx O=>(hv i x j v hx O).evo E.size E.fz,h1,λb n hb=>?_⟩,?_⟩
 .rw[yJ]at L
  grind
 .rw[yJ]at hb;simp at hb;obtain⟨rfl,rfl⟩:=hb;exact⟨c,el,heap_alloc_new w _,zBf (zA1 _ A) (zCa hc),C,B⟩
 .have:=yF.ref (w:=w.alloc (.cells c el)) (D:=xT X (cT β k [(w.heap.size,ln xs)])) (h:=over [(k,.arr sz xs false)] h) (β:=cT β k [(w.heap.size,ln xs)]) k 0 (ln xs) sz xs false w.heap.size (ln xs) cap (qO _ _ _)
   (by rw[yJ];simp) (by omega) A (by
    have:wW (w.alloc (.cells c el)) w.heap.size=c.size:=by
     unfold wW World.shape?;rw[heap_alloc_new];rfl
    rw[this];simpa using hc)
  simpa using this
theorem xX.newArrN (H:jW X h β w) {k:Nat} (hk:h k=none) (c:Array Value) (el sz:Nat) (xs:List AV) (cap:Nat) (f:Nat->Nat->Value) (I:1<=sz) (G:ln xs<=cD)
 (A:ln xs<=cap) (hc:cap*sz=c.size) (B:∀i,i<c.size->(c.getD i undef).oneCell'=true) (M:∀(i:Nat) (x:AV),xs[i]? =some x->ln x.cells=sz) (C:∀i j,i<ln xs->j<sz->c[i*sz+j]? =some (f i j)) (h1:∀i j,i<ln xs->j<sz->(f i j).oneCell'=true)
 (hv:∀(i:Nat) (x:AV) (j:Nat) v,xs[i]? =some x->x.cells[j]? =some v->yF w (xT X β) h β v (f i j)):
  ∃β',xX X w h β (w.alloc (.cells c el)) (over [(k,.arr sz xs ⟨false,true⟩)] h) β'/\yF (w.alloc (.cells c el)) (xT X β') (over [(k,.arr sz xs ⟨false,true⟩)] h) β' (.ref k 0 (ln xs)) (.slice (some ⟨w.heap.size,0,none⟩) (ln xs) cap):=by
 refine⟨_,xX.new H hk (.arr sz xs ⟨false,true⟩) (ln xs) c el λE=>⟨I,G,λ_=>by rw[yJ];simp,M,λb n r L=>?_,f,λi x j v hx O=>⟨(hv i x j v hx O).evo E,λh=>by cases h⟩,h1,λb n hb=>?_⟩,?_⟩
 .rw[yJ]at L
  grind
 .rw[yJ]at hb;simp at hb;obtain⟨rfl,rfl⟩:=hb;exact⟨c,el,heap_alloc_new w _,zBf (zA1 _ A) (zCa hc),C,B⟩
 .have:=yF.ref (w:=w.alloc (.cells c el)) (D:=xT X (cT β k [(w.heap.size,ln xs)])) (h:=over [(k,.arr sz xs ⟨false,true⟩)] h) (β:=cT β k [(w.heap.size,ln xs)]) k 0 (ln xs) sz xs ⟨false,true⟩ w.heap.size (ln xs) cap (qO _ _ _)
   (by rw[yJ];simp) (by omega) A (by
    have:wW (w.alloc (.cells c el)) w.heap.size=c.size:=by
     unfold wW World.shape?;rw[heap_alloc_new];rfl
    rw[this];simpa using hc)
  simpa using this
theorem xX.newFz (H:jW X h β w) (c:Array Value) (el:Nat):xX X w h β (w.alloc (.cells c el)) h β:=by
 have A:∀b,b<w.heap.size->(w.alloc (.cells c el)).heap[b]? =w.heap[b]? :=λb hb=>heap_alloc_old w _ b hb
 have B:∀k b n,(b,n)∈β k->wW (w.alloc (.cells c el)) b=wW w b:=λk b n C=>by
  unfold wW World.shape?;rw[A b (H.lt b (.inr ⟨k,n,C⟩))]
 have E:DA w (xT X β) h β (w.alloc (.cells c el)) (xT X β) h β:=⟨by simp,λb hb hd=>⟨A b hb,hd⟩,B,kY h β⟩;refine⟨by simp,λb hb _=>A b hb,λk _ n C=> .inl ⟨k,n,C⟩,B,kY h β,⟨λk e G=>(H.ent k e G).evo E Z λb n C=>A b (H.lt b (.inr ⟨k,n,C⟩)),H.off,H.disj,H.free,λb hd=>?_⟩,rfl,rfl,rfl⟩;exact zBg (H.lt b hd) yE
theorem xF.newArr (H:jW X h β w) (c:Array Value) (el sz:Nat) (xs:List AV) (cap:Nat) (f:Nat->Nat->Value) (C:1<=sz) (B:ln xs<=cD)
 (A:ln xs<=cap) (G:∀(i:Nat) (x:AV),xs[i]? =some x->ln x.cells=sz) (L:∀i j,i<ln xs->j<sz->c[i*sz+j]? =some (f i j)) (h1:∀i j,i<ln xs->j<sz->(f i j).oneCell'=true)
 (hv:∀(i:Nat) (x:AV) (j:Nat) v,xs[i]? =some x->x.cells[j]? =some v->xF w (xT X β) v (f i j)):
  xF (w.alloc (.cells c el)) (xT X β) (.sl true xs) (.slice (some ⟨w.heap.size,0,none⟩) (ln xs) cap):=by
 have E:=(xX.newFz H c el).evo;by_cases hx:xs=[]
 .subst hx;exact .nil1 _ _
 .refine .sl true xs w.heap.size 0 sz cap f hx ⟨by simp,λhd=>?_,C,B,G,λi j hi hj=>?_,h1⟩ A λi x j v hx I=>(hv i x j v hx I).evo E.size E.fz
  .have:=H.lt _ hd;omega
  all_goals simp_all [yM,uH,cD,xT]
theorem xF.wkF {xs:List AV} (h:xF w D (.sl nn xs) c):xF w D (.sl false xs) c:=by
 cases h with
 |nil a cap=>exact .nil a cap
 |nil1 a cap=>exact .nil _ cap
 |sl nn xs b o sz cap f hx A hc hh=>exact .sl false xs b o sz cap f hx A hc hh
section
def AV.one:AV->Bool
 | .s v=>v.oneCell'
 | .sl _ _| .slc _ _| .ref _ _ _| .ptr _ _ _| .fp _ _ _| .fn _ _| .fm _ _=>true
 |_=>false
def AV.ok:AV->Bool
 | .agg _=>true
 |v=>v.one
mutual
def AV.nokey:AV->Bool
 | .bot| .s _| .sl _ _| .slc _ _| .fp _ _ _| .fm _ _=>true
 | .agg cs=>wM cs
 |_=>false
def wM:List AV->Bool
 | []=>true
 |v::r=>v.nokey&&wM r
end
theorem kZ:∀{cs:List AV} {i:Nat} {v:AV},wM cs=true->cs[i]? =some v->v.nokey=true
 | [],_,_,_,h=>by simp at h
 |x::r,0,v,hk,h=>by simp at h;subst h;simp[wM]at hk;exact hk.1
 |x::r,i+1,v,hk,h=>by simp[wM]at hk;exact kZ hk.2 NJ
def UI :List α->Nat->List α->List α
 |cs,_,[]=>cs
 |cs,o,v::A=>UI (cs.set o v) (o+1) A
theorem cL :∀(A cs:List α) (o:Nat),(UI cs o A).length=ln cs
 | [],_,_=>rfl
 |v::A,cs,o=>by rw[UI,cL A,zBn]
theorem YO :∀(A cs:List α) (o j:Nat),o+ln A<=ln cs->(UI cs o A)[j]? =if o<=j/\j<o+ln A then A[j-o]? else cs[j]?
 | [],cs,o,j,_=>by rw[UI,hW yE]
 | v::A,cs,o,j,h=>by
  simp at h;rw[UI,YO A _ _ _ qM];by_cases h1:o+1<=j/\j<o+1+ln A
  .rw[Os h1,Os qM,show j-o=(j-(o+1))+1 by omega];simp
  .rw[hW h1];by_cases h2:j=o
   .subst h2;rw[Os yE,zBy (by omega),zCz];rfl
   .rw[hW qM,zEo (by omega)]
section
variable {w:World} {D:Nat->Prop} {h:yM} {β:uH}
theorem fB {c:Array Value} {v:Value} (h:c[i]? =some v):c.getD i undef=v:=by simp[zA4,h]
theorem jA (c:Array Value) (i:Nat) (h:i<c.size):c[i]? =some (c.getD i undef):=by grind [fB]
theorem xF.one_of {v:AV} (hv:xF w D v c) (h1:v.one=true):c.oneCell'=true:=by
 cases hv<;>first|rfl|(simp[AV.one]at h1;done)|simpa [AV.one]using h1
theorem yF.one_of {v:AV} (hv:yF w D h β v c) (h1:v.one=true):c.oneCell'=true:=by
 cases hv with
 |fz _ _ A=>exact A.one_of h1
 |dref _ _ _ _ _ h2=>exact h2
 |dptr _ _ _ _ _ h2=>exact h2
 |agg _ _ _ _ _=>simp[AV.one]at h1
 |tup _ _ _ _=>simp[AV.one]at h1
 |_=>rfl
theorem yF.cells {v:AV} (hv:yF w D h β v c) (h1:v.ok=true):
  c.cells.size=ln v.cells/\(∀i,i<c.cells.size->(c.cells.getD i undef).oneCell'=true)/\∀(i:Nat) u,v.cells[i]? =some u->yF w D h β u (c.cells.getD i undef):=by
 by_cases B:v.isAgg=true
 .cases v<;>simp[AV.isAgg]at B
  rename_i cs
  cases hv with
  |fz _ _ E=>
   cases E with
   |agg _ c hl h2 hh=>exact⟨hl,h2,λi u A=> .fz _ _ (hh i u A)⟩
  |agg _ c hl h2 hh=>exact⟨hl,h2,hh⟩
 .have G:v.one=true:=by cases v<;>first|exact h1|(simp[AV.isAgg]at B)
  have hc:=hv.one_of G
  have e1:c.cells= #[c]:=by cases c<;>first|rfl|(simp[Value.oneCell']at hc)
  have C:v.cells=[v]:=by cases v<;>first|rfl|(simp[AV.isAgg]at B)
  rw[e1,C];refine⟨rfl,λi hi=>?_,λi u A=>?_⟩
  .simp_all
  .cases i with
   |zero=>simp at A;subst A;exact hv
   |succ i=>simp at A
theorem yF.toF:∀{v:AV} {c:Value},yF w D h β v c->v.nokey=true->xF w D v c:=by
 intro v c hv
 induction hv with
 |fz _ _ A=>exact λ_=>A
 |agg cs c hl h1 _ B=>exact λhk=> .agg cs c hl h1 λi v hi=>B i v hi (kZ (by simpa [AV.nokey]using hk) hi)
 |_=>intro hk;simp[AV.nokey]at hk
def O3 (w:World) (D:Nat->Prop) (h:yM) (β:uH) (A:List AV) (b o:Nat):Prop:=
 ∀(j:Nat) u,A[j]? =some u->∃c,w.cell? ⟨b,o+j,none⟩=some c/\c.oneCell'=true/\yF w D h β u c
def uI {c:Array Value} {A:Nat×Nat} (hb:w.heap[b]? =some (.cells c el A)) (j:Nat):w.cell? ⟨b,j,none⟩=c[j]? :=by simp[World.cell?,hb]
def PQ (H:jW X h β w) {cs:List AV} (hk:h k=some (.box cs)) (hv:yF w D h β (.ptr k i off) c):
  ∃b,c= .pointer (some ⟨b,off,none⟩)/\i=0/\O3 w (xT X β) h β cs b 0:=by
 cases hv with
 |fz _ _ I=>cases I
 |dptr _ _ _ _ hd _=>rw[hk]at hd;cases hd
 |parr _ _ _ _ _ _ _ _ hd _ _ _=>rw[hk]at hd;cases hd
 |pbox _ _ B b n hk' hb=>
  obtain⟨L,c,el,h1,h2,C,E,G⟩:=H.ent k _ hk;rw[h1]at hb;simp at hb;obtain⟨rfl,rfl⟩:=hb;refine⟨b,rfl,rfl,λj u A=>?_⟩;have hj:j<c.size:=by rw[C];exact(zAx.1 A).1
  exact⟨c.getD j undef,by rw[uI h2,zBu];exact jA c j hj,E j hj,G j u A⟩
def Wd (H:jW X h β w) {xs:List AV} {st:Fl} (hk:h k=some (.arr sz xs st)) {x:AV} (hx:xs[i]? =some x) (hv:yF w D h β (.ptr k i off) c):
  ∃b n,c= .pointer (some ⟨b,i*sz+off,none⟩)/\(b,n)∈β k/\off<sz/\x.cells.length=sz/\O3 w (xT X β) h β x.cells b (i*sz):=by
 cases hv with
 |fz _ _ M=>cases M
 |dptr _ _ _ _ hd _=>rw[hk]at hd;cases hd
 |pbox _ _ _ _ _ hd _=>rw[hk]at hd;cases hd
 |parr _ _ _ S U st' b n hk' hb hi O=>
  rw[hk]at hk';cases hk';obtain⟨_,_,_,R,_,f,E,G,I⟩:=H.ent k _ hk;obtain⟨c,el,L,_,B,_⟩:=I b n hb;have A:=R i x hx;refine⟨b,n,rfl,hb,O,A,λj u C=>?_⟩;have hj:j<sz:=by rw[<-A];exact(zAx.1 C).1
  exact⟨f i j,by rw[uI L];exact B i j hi hj,G i j (zAx.1 hx).1 hj,E.toV i x j u hx C⟩
def Lj (H:jW X h β w) {xs:List AV} {st:Fl} (hk:h k=some (.arr sz xs st)) {x:AV} (hx:xs[i]? =some x) (hv:yF w D h β (.ptr k i off) c):
  ∃b n,c= .pointer (some ⟨b,i*sz+off,none⟩)/\(b,n)∈β k/\off<sz/\x.cells.length=sz/\O3 w (xT X β) h β x.cells b (i*sz)/\i<n:=by
 cases hv with
 |fz _ _ M=>cases M
 |dptr _ _ _ _ hd _=>rw[hk]at hd;cases hd
 |pbox _ _ _ _ _ hd _=>rw[hk]at hd;cases hd
 |parr _ _ _ S U st' b n hk' hb hi O=>
  rw[hk]at hk';cases hk';obtain⟨_,_,_,R,_,f,E,G,I⟩:=H.ent k _ hk;obtain⟨c,el,L,_,B,_⟩:=I b n hb;have A:=R i x hx;refine⟨b,n,rfl,hb,O,A,λj u C=>?_,hi⟩;have hj:j<sz:=by rw[<-A];exact(zAx.1 C).1
  exact⟨f i j,by rw[uI L];exact B i j hi hj,G i j (zAx.1 hx).1 hj,E.toV i x j u hx C⟩
def jy {xs:List AV} {x:AV} (hx:xs[i]? =some x) (hv:yF w D h β (.fp xs i off) c):
  ∃b o,c= .pointer (some ⟨b,o+off,none⟩)/\off<ln x.cells/\O3 w D h β x.cells b o:=by
 cases hv with
 | fz _ _ E=>
  cases E with
  |fp _ b o sz _ _ f A hi G hh=>
   have B:=A.wide i x hx;refine⟨b,o+i*sz,rfl,by omega,λj u C=>?_⟩;have hj:j<sz:=by rw[<-B];exact(zAx.1 C).1
   exact⟨f i j,A.cell i j hi hj,A.one i j hi hj,.fz _ _ (hh i x j u hx C)⟩
end
def AS (B:Bool) (n:Nat) (A:List AV) (off:Nat):Option AV:=
 bif B then(bif Nat.ble (off+n) (ln A) then some (.agg ((A.drop off).take n))else none)else A[off]?
theorem HM {TT:List TI} (C:qI P TT) (hT:TT[T]? =some ti) {A:List AV} (M:O3 w D h β A b o) {v:AV}
 (hv:AS ti.d.agg ti.size A off=some v):∃c,(loadVar T ⟨b,o+off,none⟩).run P w= .ok c w/\yF w D h β v c:=by
 have E:=IY (C _ _ hT) w;have S:=jR (C _ _ hT) w;unfold AS at hv
 have G:∀j,(⟨b,o+off,none⟩:Addr).add j=⟨b,o+(off+j),none⟩:=λj=>by unfold Addr.add;split<;>simp_all<;>omega
 cases hb:ti.d.agg with
 |false=>
  simp only[hb,zB9]at hv;obtain⟨c,h1,_,L⟩:=M off v hv;exact⟨c,by simp[loadVar,E,hb,h1],L⟩
 | true=>
  simp only[hb,zBk]at hv
  cases B:Nat.ble (off+ti.size) (ln A) with
  |false=>simp[B]at hv
  | true=>
   have I:=zAq B;simp only[B,zBk,zBw]at hv;subst hv
   have hc:∀j,∃c,j<ti.size->∃u,A[off+j]? =some u/\w.cell? ((⟨b,o+off,none⟩:Addr).add j)=some c/\c.oneCell'=true/\yF w D h β u c:=λj=>by
    by_cases hj:j<ti.size
    .obtain⟨u,U⟩:∃u,A[off+j]? =some u:=⟨A[off+j],by simp⟩
     simp_all [qI,hT,yM,uH,O3,AS]
    .exact⟨undef,λh=>absurd h hj⟩
   obtain⟨f,R⟩:∃f:Nat->Value,∀j,j<ti.size->∃u,A[off+j]? =some u/\w.cell? ((⟨b,o+off,none⟩:Addr).add j)=some (f j)/\(f j).oneCell'=true/\yF w D h β u (f j):=
    ⟨λj=>(hc j).choose,λj hj=>(hc j).choose_spec hj⟩
   have hl:=run_loadCells (P:=P) w ⟨b,o+off,none⟩ ti.size f λj hj=>(R j hj).choose_spec.2.1
   have O:∀i,i<ti.size->(((pi ti.size).map f).toArray).getD i undef=f i:=λi hi=>fB (by simp[hi])
   refine⟨.agg ((pi ti.size).map f).toArray,by simp[loadVar,E,hb,S,hl],.agg _ _ qM (λi hi=>?_) λi u U=>?_⟩
   all_goals grind
section ops
variable {P:Program} {TT:List TI} {st:St} (hP:qI P TT)
theorem eK {v:AV} (k:Nat) (hx:yW (zL st.tm) x=v) (h1:v.ok=true):wZ P st (.box T x) (.ptr k 0 0) [(k,.box v.cells)] [] [k]:=by
 refine⟨?_⟩;intro X V h L _ M o a w β A B C;obtain⟨d0,o0,U,S,E,I⟩:=o;dsimp only at A;subst A;obtain⟨hl,A,hv⟩:=(dE C L (x:=x) uL hx).cells h1;obtain⟨β',G,O⟩:=xX.newBox B (M k yE) (a.eval x).cells T v.cells hl A hv
 have R:(execOp a.eval ⟨d0,.box T x,U,S,E,I⟩).run P w= .ok (.value (.pointer (some ⟨w.heap.size,0,none⟩))) (w.alloc (.cells (a.eval x).cells T)):=by
  simp[execOp,Instr.box,newVar,newRow]
 rw[R];exact⟨β',G,O⟩
include hP in
def gU (k:Nat) (hT:TT[T]? =some ti) (h1:ti.zero.all (·.oneCell')=true):wZ P st (.alloc T) (.ptr k 0 0) [(k,.box (ti.zero.map .s))] [] [k]:=by
 refine⟨?_⟩;intro X tm h Y _ M o a w β B E W;obtain⟨d0,o0,V,U,I,L⟩:=o;dsimp only at B;subst B;obtain⟨z,S,A⟩:=Pj (hP _ _ hT) w
 obtain⟨β',G,O⟩:=xX.newBox E (M k yE) z.cells T (ti.zero.map .s) (by simp[<-A]) (λi hi=>by
   have:=zAm.1 h1 (z.cells.getD i undef) (by rw[<-A];exact zB5 (by simpa using jA _ i hi))
   exact this) (λi v hv=>by
   simp only[zAh,zAo]at hv;obtain⟨u,C,rfl⟩:=hv;rw[<-A]at C;rw[fB (by simpa using C)]
   exact .fz _ _ (.s _))
 have R:(execOp a.eval ⟨d0,.alloc T,V,U,I,L⟩).run P w= .ok (.value (.pointer (some ⟨w.heap.size,0,none⟩))) (w.alloc (.cells z.cells T)):=by
  simp[execOp,Instr.alloc,S,newVar,newRow]
 rw[R];exact⟨β',G,O⟩
include hP in
def HN {cs:List AV} {v:AV} (hx:yW (zL st.tm) x= .ptr k 0 off) (hk:zD st.h k=some (.box cs)) (hT:TT[T]? =some ti)
 (hv:AS ti.d.agg ti.size cs off=some v):wZ P st (.load T x) v [] [k] []:=
 yZ λo X S h w β a A I L B C=>by
  obtain⟨d0,o0,U,R,M,O⟩:=o;dsimp only at A;subst A;have h1:=dE C I (x:=x) uL hx;have hk':=(L k yE).trans hk;obtain⟨b,hc,_,G⟩:=PQ B hk' h1;obtain⟨c,h2,E⟩:=HM hP hT G hv;rw[zBu]at h2;exact⟨c,by simp[execOp,Instr.loadAt,hc,Instr.sureAddr,h2],E⟩
include hP in
def eO {xs:List AV} {y v:AV} (hx:yW (zL st.tm) x= .ptr k i off) (hk:zD st.h k=some (.arr sz xs sl)) (M:xs[i]? =some y) (hT:TT[T]? =some ti)
 (hv:AS ti.d.agg ti.size y.cells off=some v):wZ P st (.load T x) v [] [k] []:=
 yZ λo X U h w β a A I L B C=>by
  obtain⟨d0,o0,V,S,O,R⟩:=o;dsimp only at A;subst A;have h1:=dE C I (x:=x) uL hx;have hk':=(L k yE).trans hk;obtain⟨b,n,hc,_,_,_,G⟩:=Wd B hk' M h1;obtain⟨c,h2,E⟩:=HM hP hT G hv;exact⟨c,by simp[execOp,Instr.loadAt,hc,Instr.sureAddr,h2],E⟩
include hP in
def ZI {xs:List AV} {y v:AV} (hx:yW (zL st.tm) x= .fp xs i off) (I:xs[i]? =some y) (hT:TT[T]? =some ti)
 (hv:AS ti.d.agg ti.size y.cells off=some v):wZ P st (.load T x) v [] [] []:=
 yZ λo X U h w β a A G R L B=>by
  obtain⟨d0,o0,V,S,M,O⟩:=o;dsimp only at A;subst A;have h1:=dE B G (x:=x) uL hx;obtain⟨b,o,hc,_,E⟩:=jy I h1;obtain⟨c,h2,C⟩:=HM hP hT E hv;exact⟨c,by simp[execOp,Instr.loadAt,hc,Instr.sureAddr,h2],C⟩
end ops
theorem Kj {TT:List TI} (E:qI P TT) (hT:TT[T]? =some ti) {c:Array Value} (hb:w.heap[b]? =some (.cells c el (0,0))) {x:Value} (C:x.cells.size=ti.size)
 (I:off+ti.size<=c.size) (h1:∀i,i<x.cells.size->(x.cells.getD i undef).oneCell'=true):
  ∃A:Array Value,(storeVar T ⟨b,off,none⟩ x).run P w= .ok () (w.setRow b A)/\A.size=c.size/\∀j,A.getD j undef=if off<=j/\j<off+ti.size then x.cells.getD (j-off) undef else c.getD j undef:=by
 have G:=jR (E _ _ hT) w
 have B:=run_storeCells_at P b off el x.cells.toList 0 c w hb qM (λv hv=>by
  obtain⟨i,hi,rfl⟩:=zCj hv;have:=h1 i NL
  simpa [zA4,show i<x.cells.size by simpa using hi]using this)
 refine⟨_,by simp only[storeVar,Sem.run_bind,G,Result.andThen_ok,C,zD0,zEh,zFg,B];rfl,?_,λj=>?_⟩
 .simp;omega
 .simp only[zCy,zC8,C,zA4,zC3];by_cases h2:off<=j/\j<off+ti.size
  .grind
  .rw[hW h2]
   grind
def qX {c A:Array Value} {B:Nat×Nat} (hb:w.heap[b]? =some (.cells c el B)) (C:A.size=c.size) (j:Nat):wW (w.setRow b A) j=wW w j:=by
 unfold wW World.shape?;by_cases h:j=b
 .subst h;rw[setRow_heap w _ _ _ _ _ hb,hb];simp[C]
 .rw[setRow_other w b j A h]
section ops
variable {P:Program} {TT:List TI} {st:St} (hP:qI P TT)
include hP in
theorem LT {p:Operand} {k:Nat} {cs:List AV} {v:AV} (hp:yW (zL st.tm) p= .ptr k 0 off) (hx:yW (zL st.tm) x=v) (hk:zD st.h k=some (.box cs)) (hT:TT[T]? =some ti)
 (h1:v.ok=true) (h2:Nat.beq (ln v.cells) ti.size=true) (Y:Nat.ble (off+ti.size) (ln cs)=true):wZ P st (.store T p x) .bot [(k,.box (UI cs off v.cells))] [k] []:=by
 refine⟨?_⟩;intro X tm h hg U _ o a w β ho I W;obtain⟨d0,o0,y0,p0,f0,g0⟩:=o;dsimp only at ho;subst ho;have hk':=(U k yE).trans hk;have h2:=zA3 h2;have Y:=zAq Y;have B:=dE W hg (x:=p) uL hp;obtain⟨hl,S,hv⟩:=(dE W hg (x:=x) uL hx).cells h1;obtain⟨b,c,el,e1,M,e3,e4,e5⟩:=I.ent k _ hk';obtain⟨G,hc,_,_⟩:=PQ I hk' B
 obtain rfl:G=b:=by
  generalize a.eval p=cp at*
  cases B with
  |fz _ _ hf=>cases hf
  |dptr _ _ _ _ hd _=>rw[hk']at hd;cases hd
  |parr _ _ _ _ _ _ _ _ hd _ _ _=>rw[hk']at hd;cases hd
  |pbox _ _ ap ag n ac hb=>
   grind
 obtain⟨L,C,V,O⟩:=Kj hP hT M (off:=off) (x:=a.eval x) (by omega) (by omega) S
 have U:(execOp a.eval ⟨d0,.store T p x,y0,p0,f0,g0⟩).run P w= .ok .skip (w.setRow G L):=by
  simp[execOp,Instr.storeAt,hc,Instr.sureAddr,C]
 rw[U]
 refine⟨cT β k (β k),xX.step I k _ _ yE (λj hj hn=>setRow_other w G j L (λe=>hn 0 (by rw[e1,e];simp))) Z Z Z (λb n R=> .inl ⟨n,R⟩) (λb n _=>qX M V b)
  (λe he=>by rw[hk']at he;cases he;exact .inr ⟨⟨_,rfl⟩,λ_ _ R=>R⟩) λE=>⟨G,L,el,by rw[yJ];exact e1,setRow_heap w _ _ _ _ _ M,by rw[cL];omega,λi hi=>?_,λi u A=>?_⟩,.fz _ _ (.bot _)⟩
 .grind
 .rw[YO _ _ _ _ (by omega)]at A;rw[O];rw[h2]at A;split
  .rename_i hi;rw[Os hi]at A;exact(hv _ u A).evo E
  .rename_i hi;rw[hW hi]at A;exact(e5 i u A).evo E
def HO (x:AV) (off:Nat) (cs:List AV):AV:=match x with
 | .agg A=> .agg (UI A off cs)
 |_=>match cs with
  | [v]=>v
  |_=> .bot
def Qa {x:AV} {cs:List AV} (h:off+ln cs<=ln x.cells) (B:1<=ln cs) (A:cs.all (λv=>!v.isAgg)=true):(HO x off cs).cells=UI x.cells off cs:=by
  cases x<;>first
    |rfl
    | (simp only[AV.cells,zAp,zBq]at h
       match cs,B,h,A with
       | [v],_,h,A=>
         simp at A h;subst h
         cases v<;>first|rfl|(simp[AV.isAgg]at A))
include hP in
theorem XP {p:Operand} {k:Nat} {xs:List AV} {y v:AV} (hp:yW (zL st.tm) p= .ptr k i off) (hx:yW (zL st.tm) x=v) (hk:zD st.h k=some (.arr sz xs ⟨false,nest⟩)) (hy:xs[i]? =some y) (hT:TT[T]? =some ti)
 (h1:v.ok=true) (h2:Nat.beq (ln v.cells) ti.size=true) (h3:Nat.ble (off+ti.size) (ln y.cells)=true) (h4:(nest||v.nokey)=true) (h5:Nat.ble 1 ti.size=true) (h6:v.cells.all (λv=>!v.isAgg)=true):
  wZ P st (.store T p x) .bot [(k,.arr sz (xs.set i (HO y off v.cells)) ⟨false,nest⟩)] [k] []:=by
 refine⟨?_⟩;intro X tm h hg hr _ o a w β ho HH Ht;obtain⟨d0,o0,y0,p0,f0,g0⟩:=o;dsimp only at ho;subst ho;have hk':=(hr k yE).trans hk;have h2:=zA3 h2;have h3:=zAq h3;have h5:=zAq h5;have a2:=dE Ht hg (x:=p) uL hp;have hxv:=dE Ht hg (x:=x) uL hx;obtain⟨hl,Y,hv⟩:=hxv.cells h1
 have a4:nest=false->∀(j:Nat) u,v.cells[j]? =some u->xF w (xT X β) u ((a.eval x).cells.getD j undef):=λV j u G=>(hv j u G).toF (by
  rw[V,zCh]at h4
  cases v<;>first
   |(simp[AV.cells]at G;cases j<;>simp at G;subst G;exact h4)
   |(exact kZ (by simpa [AV.nokey,AV.cells]using h4) G))
 obtain⟨b,n,hc,L,a9,a5,_,a8⟩:=Lj HH hk' hy a2;obtain⟨g1,g2,g3,g4,g5,f,g6,g7,g8⟩:=HH.ent k _ hk';have hi:i<ln xs:=(zAx.1 hy).1
 obtain⟨rr,hbk,a1,ac⟩:∃rr,β k=(b,n)::rr/\n=ln xs/\∀R n',(R,n')∈rr->n'=0:=by
  cases hbk:β k with
  |nil=>rw[hbk]at L;simp at L
  |cons q r=>
   obtain⟨b0,n0⟩:=q;obtain⟨e1,U,_⟩:=g5 b0 n0 r hbk;have U:=U Z;rw[hbk]at L;simp at L
   rcases L with⟨rfl,rfl⟩|L
   .exact⟨r,rfl,e1,U⟩
   .have:=U b n L;omega
 subst a1;obtain⟨c,el,U,e3,e4,e5⟩:=g8 b _ L
 have a7:i*sz+sz<=ln xs*sz:=by
  have:=zA1 sz (show i+1<=ln xs by omega)
  rwa [zBl,zCl]at this
 obtain⟨S,av,a3,ag⟩:=Kj hP hT U (off:=i*sz+off) (x:=a.eval x) (by omega) (by omega) Y
 have hr:(execOp a.eval ⟨d0,.store T p x,y0,p0,f0,g0⟩).run P w= .ok .skip (w.setRow b S):=by
  simp[execOp,Instr.storeAt,hc,Instr.sureAddr,av]
 rw[hr];have au:=Qa (x:=y) (off:=off) (cs:=v.cells) (by omega) (by omega) h6;have a6:(xs.set i (HO y off v.cells)).length=ln xs:=by simp
 have W:∀(A:Nat) (O:AV),(xs.set i (HO y off v.cells))[A]? =some O->(A=i/\O=HO y off v.cells)\/(A≠i/\xs[A]? =some O):=by
  intro A O C;by_cases I:A=i
  .subst I;rw[zBy hi]at C;exact .inl ⟨rfl,(zD2 C).symm⟩
  .rw[zEo (λe=>I e.symm)]at C;exact .inr ⟨I,C⟩
 let f':Nat->Nat->Value:=λA j=>if A=i/\off<=j/\j<off+ti.size then(a.eval x).cells.getD (j-off) undef else f A j
 refine⟨cT β k (β k),xX.step HH k _ _ yE (λj hj V=>setRow_other w b j S (λe=>V (ln xs) Yd)) Z Z Z (λb n L=> .inl ⟨n,L⟩) (λb n _=>qX U a3 b)
  (λe he=>by rw[hk']at he;cases he;exact .inr ⟨⟨_,_,rfl,by simp⟩,λ_ n L=>⟨n,zAe _,L⟩⟩) λE=>⟨g1,by simpa using g2,λ_=>by rw[yJ,hbk];simp,λA O C=>?_,λR n' r B=>?_,f',λA O j u C G=>?_,λA j hi' hj=>?_,λR n' B=>?_⟩,.fz _ _ (.bot _)⟩
 .rcases W A O C with⟨_,rfl⟩|⟨_,h⟩
  .rw[au,cL];exact a5
  .exact g4 A O h
 .rw[yJ,hbk]at B;simp at B;obtain⟨⟨rfl,rfl⟩,rfl⟩:=B;refine⟨by simp,λ_=>ac,λR n' L=>by have:=ac R n' L;simp;omega⟩
 .rcases W A O C with⟨rfl,rfl⟩|⟨I,h⟩
  .rw[au,YO _ _ _ _ (by omega)]at G;simp only[f',true_and];rw[h2]at G;split
   .rename_i hj;rw[Os hj]at G;exact⟨(hv _ u G).evo E,λV=>(a4 V _ u G).evo E.size E.fz⟩
   .rename_i hj;rw[hW hj]at G;exact⟨(g6 A y j u hy G).1.evo E,λV=>((g6 A y j u hy G).2 V).evo E.size E.fz⟩
  .simp only[f',I,false_and,zFg];exact⟨(g6 A O j u h G).1.evo E,λV=>((g6 A O j u h G).2 V).evo E.size E.fz⟩
 .simp only[f'];split
  .exact Y _ (by omega)
  .exact g7 A j (by simpa using hi') hj
 .have M:∀q,q<S.size->(S.getD q undef).oneCell'=true:=λq hq=>by
   rw[ag];split
   .exact Y _ (by omega)
   .exact e5 q (by omega)
  rw[yJ,hbk]at B;simp at B
  rcases B with⟨rfl,rfl⟩|B
  case inr=>
   obtain rfl:=ac R n' B;by_cases ap:R=b
   .subst ap;exact⟨S,el,setRow_heap w _ _ _ _ _ U,by omega,λA j hi' _=>by omega,M⟩
   .obtain⟨c2,ax,q1,q2,_,q4⟩:=g8 R 0 (by rw[hbk];simp[B]);exact⟨c2,ax,(setRow_other w b R S ap).trans q1,q2,λA j hi' _=>by omega,q4⟩
  refine⟨S,el,setRow_heap w _ _ _ _ _ U,by omega,λA j hi' hj=>?_,M⟩
  have az:A*sz+j<S.size:=by
   have:=zA1 sz (show A+1<=ln xs by omega);rw[zBl,zCl]at this;omega
  rw[jA S _ az,ag]
  congr 1
  have ar:(i*sz+off<=A*sz+j/\A*sz+j<i*sz+off+ti.size)↔(A=i/\off<=j/\j<off+ti.size):=by
   constructor
   .rintro⟨q1,q2⟩
    have I:A=i:=by
     rcases Nat.lt_trichotomy A i with h|h|h
     .have:=zA1 sz (show A+1<=i by omega);rw[zBl,zCl]at this;omega
     .exact h
     .have:=zA1 sz (show i+1<=A by omega);rw[zBl,zCl]at this;omega
    subst I;exact⟨rfl,by omega,by omega⟩
   .rintro⟨rfl,q1,q2⟩;omega
  simp only[f',ar];split
  .rename_i hq;obtain⟨rfl,q1,q2⟩:=hq
   congr 1
   omega
  .exact fB (e4 A j hi' hj)
end ops
end
section
section ops
variable {P:Program} {TT:List TI} {st:St} (hP:qI P TT)
theorem DH {P:Program} {TT:List TI} (hP:qI P TT) {f o:Nat} (hT:TT[T]? =some ti) (hd:ti.d= .str fs) (E:fs[f]? =some (o,ft)) (w:World):
  ∃(A:Array Field) (B:Field),(underlying T).run P w= .ok (.struct A) w/\A[f]? =some B/\B.offset=o/\B.type=ft:=by
 obtain⟨u,I,C⟩:=vX (hP _ _ hT) w;obtain⟨A,rfl,G⟩:=Ua (C.trans hd)
 grind
theorem ZJ {P:Program} {TT:List TI} (hP:qI P TT) {f o:Nat} (hT:TT[T]? =some ti) (hd:ti.d= .str fs) (M:fs[f]? =some (o,ft)) (C:TT[ft]? =some tf) (G:Nat.ble 1 tf.size=true) (w:World) (b q:Nat):
  (Instr.fieldAt T (.pointer (some ⟨b,q,none⟩)) f).run P w= .ok (.pointer (some ⟨b,q+o,none⟩)) w:=by
 obtain⟨B,R,h1,h2,I,L⟩:=DH hP hT hd M w;have O:=jR (hP _ _ C) w;have G:=zAq G;have E:¬tf.size=0:=by omega
 have A:(⟨b,q,none⟩:Addr).add o=⟨b,q+o,none⟩:=by unfold Addr.add;split<;>simp_all
 simp[Instr.fieldAt,h1,h2,Instr.sureAddr,fieldPlace,I,L,O,E,A]
theorem aB (b q n:Nat):(⟨b,q,none⟩:Addr).add n=⟨b,q+n,none⟩:=by unfold Addr.add;split<;>simp_all
include hP in
def UJ {f o:Nat} {cs:List AV} (hx:yW (zL st.tm) x= .ptr k 0 off) (hk:zD st.h k=some (.box cs)) (hT:TT[T]? =some ti) (hd:ti.d= .str fs) (C:fs[f]? =some (o,ft))
 (G:TT[ft]? =some tf) (S:Nat.ble 1 tf.size=true):wZ P st (.fieldAddr T x f) (.ptr k 0 (off+o)) [] [k] []:=
 yZ λU X tm h w β a I O R V L=>by
  obtain⟨d0,o0,y0,p0,Y,g0⟩:=U;dsimp only at I;subst I;have h1:=dE L O (x:=x) uL hx;have hk':=(R k yE).trans hk;have E:=λb=>ZJ hP hT hd C G S w b off
  generalize M:a.eval x=W at h1
  cases h1 with
  |fz _ _ C=>cases C
  |dptr _ _ _ _ hd _=>rw[hk']at hd;cases hd
  |parr _ _ _ _ _ _ _ _ hd _ _ _=>rw[hk']at hd;cases hd
  |pbox _ _ B b n A hb=>exact⟨_,by simp[execOp,M,E],.pbox k _ B b n A hb⟩
include hP in
def UK {f o:Nat} {xs:List AV} (hx:yW (zL st.tm) x= .ptr k i off) (hk:zD st.h k=some (.arr sz xs sl)) (hT:TT[T]? =some ti) (hd:ti.d= .str fs) (C:fs[f]? =some (o,ft))
 (G:TT[ft]? =some tf) (S:Nat.ble 1 tf.size=true) (B:Nat.blt (off+o) sz=true):wZ P st (.fieldAddr T x f) (.ptr k i (off+o)) [] [k] []:=
 yZ λU X tm h w β a I O R Y L=>by
  obtain⟨d0,o0,y0,p0,f0,g0⟩:=U;dsimp only at I;subst I;have h1:=dE L O (x:=x) uL hx;have hk':=(R k yE).trans hk;have E:=λb q=>ZJ hP hT hd C G S w b q
  have B:off+o<sz:=zAq B;generalize M:a.eval x=cx at h1
  cases h1 with
  |fz _ _ C=>cases C
  |dptr _ _ _ _ hd _=>rw[hk']at hd;cases hd
  |pbox _ _ _ _ _ hd _=>rw[hk']at hd;cases hd
  |parr _ _ _ V W st' b n A hb hi I=>
   have h2:=A;rw[hk']at h2;cases h2;exact⟨_,by simp[execOp,M,E];rfl,by rw[zE7];exact .parr k i (off+o) sz xs sl b n A hb hi B⟩
include hP in
def SA {f o:Nat} {xs:List AV} {y:AV} (hx:yW (zL st.tm) x= .fp xs i off) (S:xs[i]? =some y) (hT:TT[T]? =some ti) (hd:ti.d= .str fs) (B:fs[f]? =some (o,ft))
 (E:TT[ft]? =some tf) (U:Nat.ble 1 tf.size=true) (A:Nat.blt (off+o) (ln y.cells)=true):wZ P st (.fieldAddr T x f) (.fp xs i (off+o)) [] [] []:=
 yZ λV X tm h w β a G O hr W L=>by
  obtain⟨d0,o0,y0,p0,f0,g0⟩:=V;dsimp only at G;subst G;have h1:=dE L O (x:=x) uL hx;have C:=λb q=>ZJ hP hT hd B E U w b q
  have A:off+o<ln y.cells:=zAq A;generalize M:a.eval x=Y at h1
  cases h1 with
  | fz _ _ B=>
   cases B with
   |fp _ b q sz _ _ f I hi G hh=>
    have R:=I.wide i y S;exact⟨_,by simp[execOp,M,C];rfl,.fz _ _ (by rw[zE7];exact .fp xs b q sz i (off+o) f I hi (by omega) hh)⟩
include hP in
def QB (hT:TT[T]? =some ti) (hd:ti.d= .slice e) (C:TT[e]? =some te) (w:World) (b q len cap:Nat) (k:IntKind) (i:Int) (B:0<=i) (hi:i<len):
  (Instr.indexAt T (.slice (some ⟨b,q,none⟩) len cap) (.int k i)).run P w= .ok (.pointer (some ⟨b,q+i.toNat*te.size,none⟩)) w:=by
 obtain⟨u,G,A⟩:=vX (hP _ _ hT) w;obtain rfl:=kO (A.trans hd);have E:=jR (hP _ _ C) w;simp[Instr.indexAt,asIntOf,G,B,hi,E,aB]
include hP in
def SD {xs:List AV} {y:AV} {k:IntKind} {i:Int} (hx:yW (zL st.tm) x= .sl nn xs) (hi:yW (zL st.tm) ix= .s (.int k i)) (hT:TT[T]? =some ti) (hd:ti.d= .slice e) (U:TT[e]? =some te)
 (S:0<=i) (O:xs[i.toNat]? =some y) (C:Nat.beq (ln y.cells) te.size=true) (R:Nat.ble 1 te.size=true):wZ P st (.indexAddr T x ix) (.fp xs i.toNat 0) [] [] []:=
 yZ λY X tm h w β a M L hr HH G=>by
  obtain⟨d0,o0,y0,p0,f0,g0⟩:=Y;dsimp only at M;subst M;have h1:=dE G L (x:=x) uL hx;have h2:=vP G L (x:=ix) uL hi;have C:=zA3 C;have R:=zAq R;have A:i.toNat<ln xs:=(zAx.1 O).1;generalize B:a.eval x=cx at h1
  cases h1 with
  | fz _ _ V=>
   cases V with
   |nil a cap=>simp at A
   |nil1 a cap=>simp at A
   |sl _ _ b o sz cap f W I hc hh=>
    have E:=I.wide _ y O;refine⟨_,by simp only[execOp,B,h2,Sem.run_bind,QB hP hT hd U w b o (ln xs) cap k i S (by omega),Result.andThen_ok,Sem.run_pure];rfl,.fz _ _ ?_⟩;have:=xF.fp xs b o sz i.toNat 0 f I A (by omega) hh
    rwa [zCy,<-E,C]at this
include hP in
def UL {A:Nat} {xs:List AV} {k:IntKind} {i:Int} (hx:yW (zL st.tm) x= .ref A off len) (hi:yW (zL st.tm) ix= .s (.int k i)) (hk:zD st.h A=some (.arr sz xs sl)) (hT:TT[T]? =some ti) (hd:ti.d= .slice e) (S:TT[e]? =some te)
 (R:0<=i) (hl:i<len) (E:Nat.beq sz te.size=true):wZ P st (.indexAddr T x ix) (.ptr A (off+i.toNat) 0) [] [A] []:=
 yZ λY X tm h w β a M L V O G=>by
  obtain⟨d0,o0,y0,p0,f0,g0⟩:=Y;dsimp only at M;subst M;have h1:=dE G L (x:=x) uL hx;have h2:=vP G L (x:=ix) uL hi;have hk':=(V A yE).trans hk;have E:=zA3 E;have hp:=(O.ent A _ hk').1;generalize C:a.eval x=cx at h1
  cases h1 with
  |fz _ _ U=>cases U
  |dref _ _ _ _ hd _=>rw[hk']at hd;cases hd
  |ref0 _ _ _ _ _ _ _ _=>simp at hl;omega
  |ref _ _ _ ac ag st' b n cap B hb hn hc W=>
   have I:=B;rw[hk']at I;cases I;refine⟨_,by simp only[execOp,C,h2,Sem.run_bind,QB hP hT hd S w b _ len cap k i R hl,Result.andThen_ok,Sem.run_pure];rfl,?_⟩;have:=yF.parr (w:=w) (D:=xT X β) A (off+i.toNat) 0 sz xs sl b n B hb (by omega) (by omega);rw[zBl,zCy]at this;rw[<-E];exact this
include hP in
def UM {A:Nat} {cs:List AV} {k:IntKind} {i:Int} (hx:yW (zL st.tm) x= .ptr A 0 off) (hi:yW (zL st.tm) ix= .s (.int k i)) (hk:zD st.h A=some (.box cs)) (hT:TT[T]? =some ti) (hd:ti.d= .arr n e) (R:TT[e]? =some te)
 (O:0<=i) (hl:i<n):wZ P st (.indexAddr T x ix) (.ptr A 0 (off+i.toNat*te.size)) [] [A] []:=
 yZ λY X tm h w β a M L U HH I=>by
  obtain⟨d0,o0,y0,p0,f0,g0⟩:=Y;dsimp only at M;subst M;have h1:=dE I L (x:=x) uL hx;have h2:=vP I L (x:=ix) uL hi;have hk':=(U A yE).trans hk;obtain⟨u,W,E⟩:=vX (hP _ _ hT) w;obtain rfl:=Oj (E.trans hd);have V:=jR (hP _ _ R) w;generalize G:a.eval x=cx at h1
  cases h1 with
  |fz _ _ S=>cases S
  |dptr _ _ _ _ hd _=>rw[hk']at hd;cases hd
  |parr _ _ _ _ _ _ _ _ hd _ _ _=>rw[hk']at hd;cases hd
  |pbox _ _ C b q B hb=>
   exact⟨.pointer (some ⟨b,off+i.toNat*te.size,none⟩),by simp[execOp,Instr.indexAt,asIntOf,W,Instr.sureAddr,O,hl,V,aB,G,h2],.pbox A _ C b q B hb⟩
theorem Jj {P:Program} {TT:List TI} (hP:qI P TT) (hT:TT[T]? =some ti) {cs:List AV} (hv:yF w D h β (.agg cs) c) {v:AV} (hl:AS ti.d.agg ti.size cs off=some v):
  ∃(A:Array Value) (u:Value),c= .agg A/\(part T A off).run P w= .ok u w/\yF w D h β v u:=by
 obtain⟨h1,h2,E⟩:=hv.cells Z;have G:=IY (hP _ _ hT) w;have O:=jR (hP _ _ hT) w
 obtain⟨A,rfl⟩:∃A,c= .agg A:=by
  cases hv with
  |fz _ _ M=>cases M with|agg _ c=>exact⟨c,rfl⟩
  |agg _ c=>exact⟨c,rfl⟩
 simp only[Value.cells,AV.cells]at h1 h2 E;unfold AS at hl
 cases hb:ti.d.agg with
 |false=>
  simp only[hb,zB9]at hl;have C:off<A.size:=by rw[h1];exact(zAx.1 hl).1
  exact⟨A,A.getD off undef,rfl,by simp only[part,Sem.run_bind,G,hb,Result.andThen_ok,jA A off C,zEz,zFg,Sem.run_pure],E _ _ hl⟩
 | true=>
  simp only[hb,zBk]at hl
  cases B:Nat.ble (off+ti.size) (ln cs) with
  |false=>simp[B]at hl
  | true=>
   have I:=zAq B;simp only[B,zBk,zBw]at hl;subst hl
   have L:∀i,i<ti.size->(A.extract off (off+ti.size)).getD i undef=A.getD (off+i) undef:=λi hi=>by
    apply fB;rw[Array.getElem?_extract];rw[Os (by omega)];exact jA A _ (by omega)
   refine⟨A,.agg (A.extract off (off+ti.size)),rfl,by simp only[part,Sem.run_bind,G,hb,Result.andThen_ok,zEk,O,Sem.run_pure],.agg _ _ qM (λi hi=>?_) λi u R=>?_⟩
   all_goals grind
def Hf (hP:qI P TT) {f o:Nat} {cs:List AV} {v:AV} (hx:yW (zL st.tm) x= .agg cs) (hT:TT[T]? =some ti) (hd:ti.d= .str fs) (M:fs[f]? =some (o,ft))
 (B:TT[ft]? =some tf) (hv:AS tf.d.agg tf.size cs o=some v):wZ P st (.field T x f) v [] [] []:=
 yZ λS X tm h w β a C O E U G=>by
  obtain⟨d0,o0,y0,p0,W,g0⟩:=S;dsimp only at C;subst C;have h1:=dE G O (x:=x) uL hx;obtain⟨A,Y,e1,I,e3,L⟩:=DH hP hT hd M w;obtain⟨V,u,hc,E,R⟩:=Jj hP B h1 hv;exact⟨u,by simp[execOp,hc,Instr.field,e1,I,asAgg,e3,L,E],R⟩
def SH {cs:List AV} (hx:yW (zL st.tm) x= .ptr k 0 off) (hk:zD st.h k=some (.box cs)):wZ P st (.nilCheck x) (.ptr k 0 off) [] [k] []:=
 yZ λI X R h w β a A E G B C=>by
  obtain⟨d0,o0,S,O,L,M⟩:=I;dsimp only at A;subst A;have h1:=dE C E (x:=x) uL hx;have hk':=(G k yE).trans hk;obtain⟨b,hc,_,_⟩:=PQ B hk' h1;rw[hc]at h1;exact⟨_,by simp[execOp,hc],h1⟩
def jB {xs:List AV} {y:AV} (hx:yW (zL st.tm) x= .ptr k i off) (hk:zD st.h k=some (.arr sz xs sl)) (I:xs[i]? =some y):wZ P st (.nilCheck x) (.ptr k i off) [] [k] []:=
 yZ λL X S h w β a A E G B C=>by
  obtain⟨d0,o0,U,R,M,O⟩:=L;dsimp only at A;subst A;have h1:=dE C E (x:=x) uL hx;have hk':=(G k yE).trans hk;obtain⟨b,n,hc,_,_,_,_⟩:=Wd B hk' I h1;rw[hc]at h1;exact⟨_,by simp[execOp,hc],h1⟩
def Pa (hP:qI P TT) {xs:List AV} (hx:yW (zL st.tm) x= .sl nn xs) (hT:TT[T]? =some ti) (hd:ti.d= .slice e):
  wZ P st (.call ⟨.builtin .len, #[x], #[T]⟩) (.s (.int .i64 (ln xs))) [] [] []:=
 yZ λL X W h w β a B G U M C=>by
  obtain⟨d0,o0,Y,V,R,S⟩:=L;dsimp only at B;subst B;have h1:=dE C G (x:=x) gR hx;obtain⟨u,I,A⟩:=vX (hP _ _ hT) w;obtain rfl:=kO (A.trans hd)
  obtain⟨b,cap,hc⟩:∃b cap,a.eval x= .slice b (ln xs) cap:=by
   generalize a.eval x=O at h1
   cases h1 with
   |fz _ _ E=>cases E<;>exact⟨_,_,rfl⟩
  exact⟨_,by simp[execOp,resolve,invoke,builtin,Builtin.len_,hc,I,goInt],.fz _ _ (.s _)⟩
def DI (hP:qI P TT) {xs:List AV} (hx:yW (zL st.tm) x= .ref k off len) (hk:zD st.h k=some (.arr sz xs sl)) (hT:TT[T]? =some ti) (hd:ti.d= .slice e):
  wZ P st (.call ⟨.builtin .len, #[x], #[T]⟩) (.s (.int .i64 len)) [] [k] []:=
 yZ λM X W h w β a B G I O C=>by
  obtain⟨d0,o0,Y,V,S,U⟩:=M;dsimp only at B;subst B;have h1:=dE C G (x:=x) gR hx;have hk':=(I k yE).trans hk;obtain⟨u,L,A⟩:=vX (hP _ _ hT) w;obtain rfl:=kO (A.trans hd)
  obtain⟨b,cap,hc⟩:∃b cap,a.eval x= .slice b len cap:=by
   generalize a.eval x=R at h1
   cases h1 with
   |fz _ _ E=>cases E
   |dref _ _ _ _ hd _=>rw[hk']at hd;cases hd
   |ref0 _ _ _ _ _ _ _ _=>exact⟨_,_,rfl⟩
   |ref _ _ _ _ _ _ _ _ _ _ _ _ _ _=>exact⟨_,_,rfl⟩
  exact⟨_,by simp[execOp,resolve,invoke,builtin,Builtin.len_,hc,L,goInt],.fz _ _ (.s _)⟩
def DJ (hP:qI P TT) {b:Option Addr} {cap:Nat} (hx:yW (zL st.tm) x= .s (.slice b n cap)) (hT:TT[T]? =some ti) (hd:ti.d= .slice e):
  wZ P st (.call ⟨.builtin .len, #[x], #[T]⟩) (.s (.int .i64 n)) [] [] []:=
 yZ λI X U h w β a B E R L C=>by
  obtain⟨d0,o0,V,S,M,O⟩:=I;dsimp only at B;subst B;have hc:=vP C E (x:=x) gR hx;obtain⟨u,G,A⟩:=vX (hP _ _ hT) w;obtain rfl:=kO (A.trans hd);exact⟨_,by simp[execOp,resolve,invoke,builtin,Builtin.len_,hc,G,goInt],.fz _ _ (.s _)⟩
def Bd (st:St) (o:Option Operand) (A n:Nat):Prop:=match o with
 |none=>n=A
 |some x=>∃k i,yW (zL st.tm) x= .s (.int k i)/\i=(n:Int)
def WI {P:Program} {st:St} {op:Op} {I:Nat->AV} (H:∀t,yF w D h β (I t) (a.eval (.tmp t))) (G:∀t,t∈fV op->I t=zL st.tm t) 
 (h1:∀x,lo=some x->x∈op.operands) (h2:∀x,hi=some x->x∈op.operands) {cap l:Nat} (hl:Bd st lo 0 l) (A:Bd st hi len r) (B:l<=r) (C:r<=cap) (b:Bool):
  (Instr.sliceBounds b len cap (lo.map a.eval) (hi.map a.eval) none).run P w= .ok (l,r,cap) w:=by
 unfold Instr.sliceBounds
 cases lo with
 | none=>
  simp only[Bd]at hl;subst hl
  cases hi with
  |none=>simp only[Bd]at A;subst A;simp
  |some y=>
   obtain⟨k,i,e1,rfl⟩:=A;have E:=vP H G (h2 y Z) e1;simp[Instr.sliceBound,E,asIntOf,C]
 | some x=>
  obtain⟨k,i,e1,rfl⟩:=hl;have E:=vP H G (h1 x Z) e1
  cases hi with
  |none=>simp only[Bd]at A;subst A;simp[Instr.sliceBound,E,asIntOf,B]
  |some y=>
   obtain⟨O,M,e3,rfl⟩:=A;have L:=vP H G (h2 y Z) e3;simp[Instr.sliceBound,E,L,asIntOf,B,C]
theorem aC (hP:qI P TT) {xs:List AV} (hx:yW (zL st.tm) x= .sl nn xs) (hT:TT[T]? =some ti) (hd:ti.d= .slice e) (he:TT[e]? =some te)
 (hl:Bd st lo 0 l) (hr:Bd st hi (ln xs) r) (W:l<=r) (E:r<=ln xs) (Y:∀y,xs[0]? =some y->ln y.cells=te.size):wZ P st (.slice T x lo hi none) (.sl nn ((xs.drop l).take (r-l))) [] [] []:=
 yZ λoo X tm h w β a ho hg _ HH Ht=>by
  obtain⟨d0,o0,y0,p0,f0,g0⟩:=oo;dsimp only at ho;subst ho;have h1:=dE Ht hg (x:=x) uL hx;obtain⟨u,hu,V⟩:=vX (hP _ _ hT) w;obtain rfl:=kO (V.trans hd);have hs:=jR (hP _ _ he) w
  obtain⟨b,cap,hc,I⟩:∃b cap,a.eval x= .slice b (ln xs) cap/\xs.length<=cap:=by
   generalize a.eval x=cx at h1
   cases h1 with
   |fz _ _ L=>
    cases L with
    |nil a cap=>exact⟨_,_,rfl,by simp⟩
    |nil1 a cap=>exact⟨_,_,rfl,by simp⟩
    |sl _ _ b o sz cap f M C hc hh=>exact⟨_,_,rfl,hc⟩
  have hb:=WI (P:=P) Ht hg (lo:=lo) (hi:=hi) (λy B=>by subst B;simp[Op.operands]) (λy B=>by subst B;simp[Op.operands]) hl hr W (zBf E I) true
  have S:(execOp a.eval ⟨d0,.slice T x lo hi none,y0,p0,f0,g0⟩).run P w= .ok (.value (.slice (if cap=l then b else b.map (·.add (l*te.size))) (r-l) (cap-l))) w:=by
   simp only[execOp,Instr.sliceAt,Instr.slice,Sem.run_bind,hu,Result.andThen_ok,hc,zEs,hb,hs,Sem.run_pure]
  refine⟨_,S,.fz _ _ ?_⟩;rw[hc]at h1;have A:((xs.drop l).take (r-l)).length=r-l:=by simp;omega
  by_cases hz:r-l=0
  .have R:(xs.drop l).take (r-l)=[]:=zA5 (by omega);rw[R,hz]
   cases nn with
   |false=>exact .nil _ _
   | true=>
    cases h1 with
    |fz _ _ L=>
     cases L with
     |nil1 a cap=>split<;>exact .nil1 _ _
     |sl _ _ b o sz cap f M C hc hh=>split<;>exact .nil1 _ _
  .cases h1 with
   | fz _ _ L=>
    cases L with
    |nil a cap=>simp at E;omega
    |nil1 a cap=>simp at E;omega
    | sl _ _ b o sz cap f M C hc hh=>
     have O:¬cap=l:=by omega
     have U:te.size=sz:=by
      obtain⟨y,B⟩:∃y,xs[0]? =some y:=⟨xs[0]'(by omega),by simp⟩;rw[<-Y y B,C.wide 0 y B]
     have G:∀(i:Nat) y,((xs.drop l).take (r-l))[i]? =some y->xs[l+i]? =some y:=λi y B=>by
      rw[zB0]at B;split at B
      .rwa [zCe]at B
      .cases B
     rw[hW O,zB8,aB,U]
     have:=xF.sl (w:=w) (D:=xT X β) nn ((xs.drop l).take (r-l)) b (o+l*sz) sz (cap-l) (λi j=>f (l+i) j) (λh0=>hz (by rw[<-A,h0];rfl))
      ⟨C.lt,C.nd,C.pos,by rw[A];exact zBf (Nat.sub_le _ _) (zBf E C.max),λi y B=>C.wide _ y (G i y B),λi j hi hj=>by
       rw[A]at hi;have:=C.cell (l+i) j (by omega) hj
       rwa [zBl,<-zE7]at this,λi j hi hj=>C.one _ _ (by rw[A]at hi;omega) hj⟩ (by omega) (λi y j v B hv=>hh _ y j v (G i y B) hv)
     rwa [A]at this
def cU (hP:qI P TT) {xs:List AV} (hx:yW (zL st.tm) x= .ref k off len) (hk:zD st.h k=some (.arr sz xs sl)) (hT:TT[T]? =some ti) (hd:ti.d= .slice e) (he:TT[e]? =some te)
 (hl:Bd st lo 0 l) (hr:Bd st hi len r) (R:l<=r) (V:r<=len) (C:Nat.beq sz te.size=true):wZ P st (.slice T x lo hi none) (.ref k (off+l) (r-l)) [] [k] []:=
 yZ λoo X tm h w β a ho hg U HH Ht=>by
  obtain⟨d0,o0,y0,p0,f0,g0⟩:=oo;dsimp only at ho;subst ho;have h1:=dE Ht hg (x:=x) uL hx;have hk':=(U k yE).trans hk;have C:=zA3 C;obtain⟨u,hu,O⟩:=vX (hP _ _ hT) w;obtain rfl:=kO (O.trans hd);have hs:=jR (hP _ _ he) w;have hE:=HH.ent k _ hk';generalize M:a.eval x=cx at h1
  have B:∀b cap,cx= .slice b len cap->len<=cap->(execOp a.eval ⟨d0,.slice T x lo hi none,y0,p0,f0,g0⟩).run P w= .ok (.value (.slice (if cap=l then b else b.map (·.add (l*te.size))) (r-l) (cap-l))) w:=by
   intro b cap hc E;have hb:=WI (P:=P) Ht hg (lo:=lo) (hi:=hi) (λy Y=>by subst Y;simp[Op.operands]) (λy Y=>by subst Y;simp[Op.operands]) hl hr R (zBf V E) true;simp only[execOp,Instr.sliceAt,Instr.slice,Sem.run_bind,hu,Result.andThen_ok,M,hc,zEs,hb,hs,Sem.run_pure]
  cases h1 with
  |fz _ _ hf=>cases hf
  |dref _ _ _ _ hd _=>rw[hk']at hd;cases hd
  |ref0 _ _ I L st' b A hn=>
   have S:=B b 0 Z (zAe _);obtain rfl:r=0:=by omega
   obtain rfl:l=0:=by omega
   exact⟨_,S,.ref0 k off I L st' _ A hn⟩
  | ref _ _ _ I L st' b n cap A hb hn hc W=>
   have S:=B _ cap Z hc;have h3:=A;rw[hk']at h3;cases h3;refine⟨_,S,?_⟩;obtain⟨_,_,_,_,g5,_⟩:=hE
   have ac:n<=ln xs:=by
    cases hbk:β k with
    |nil=>rw[hbk]at hb;simp at hb
    |cons q rr=>
     obtain⟨b0,n0⟩:=q;obtain⟨e1,_,e3⟩:=g5 b0 n0 rr hbk;rw[hbk]at hb;simp at hb
     rcases hb with⟨_,rfl⟩|hb
     .omega
     .exact zEq (e3 b n hb)
   by_cases G:cap=l
   .obtain rfl:r=l:=by omega
    rw[Os G,show r-r=0 by omega,show cap-r=0 by omega];exact .ref0 k _ sz xs sl _ A (by omega)
   .rw[hW G,zB8,aB,<-C,<-zBl];exact .ref k (off+l) (r-l) sz xs sl b n (cap-l) A hb (by omega) (by omega) (by rw[show off+l+(cap-l)=off+cap by omega];exact W)
end ops
end
section
def UN (ne:Bool) (h:yM):AV->Option (List AV)
 | .sl _ ys=>some ys
 | .s v=>match v with
  | .slice none 0 0=>some []
  |_=>none
 | .ref k off len=>match h k with
  |some (.arr _ xs fl)=>bif fl.nest&& !ne then none else some ((xs.drop off).take len)
  |_=>none
 |_=>none
abbrev Oa (h:yM):AV->Option (List AV):=UN false h
def LI:AV->List Nat
 | .ref k _ _=>[k]
 |_=>[]
structure C4 (w:World) (D:Nat->Prop) (h:yM) (β:uH) (ne:Bool) (ys:List AV) (sz:Nat) (b o:Nat) (f:Nat->Nat->Value):Prop where
 wide:∀(i:Nat) (y:AV),ys[i]? =some y->y.cells.length=sz
 cell:∀i j,i<ys.length->j<sz->w.cell? ⟨b,o+i*sz+j,none⟩=some (f i j)
 one:∀i j,i<ys.length->j<sz->(f i j).oneCell'=true
 rep:gA w D h β ne ys f
theorem aD (H:jW X h β w) {x:AV} (hv:yF w (xT X β) h β x c) {ys:List AV} (C:UN ne h x=some ys) (M:∀y,ys[0]? =some y->ln y.cells=sz):
  ∃a cap,c= .slice a (ln ys) cap/\ys.length<=cap/\ys.length<=cD/\(ys≠[]->∃b o f,a=some ⟨b,o,none⟩/\C4 w (xT X β) h β ne ys sz b o f):=by
 cases hv with
 | fz _ _ hf=>
  cases hf with
  |s v=>
   simp only[UN]at C
   grind
  |nil a cap=>cases C;exact⟨a,cap,rfl,by simp,by simp,λh=>absurd Z h⟩
  |nil1 a cap=>cases C;exact⟨some a,cap,rfl,by simp,by simp,λh=>absurd Z h⟩
  | sl nn xs b o A cap f G I hc hh=>
   cases C
   have V:A=sz:=by
    obtain⟨y,B⟩:∃y,ys[0]? =some y:=by cases ys with|nil=>exact absurd Z G|cons y _=>exact⟨y,rfl⟩
    rw[<-M y B,I.wide 0 y B]
   subst V;exact⟨_,cap,rfl,hc,I.max,λ_=>⟨b,o,f,rfl,I.wide,I.cell,I.one,.ofF hh⟩⟩
  |_=>cases C
 | ref k off len A xs st b n cap hk hb O hc V=>
  simp only[UN,hk]at C
  obtain⟨L,C⟩:(ne=false->st.nest=false)/\some ((xs.drop off).take len)=some ys:=by
   grind
  obtain rfl:=zD2 C;obtain⟨g1,g2,g3,S,g5,f,U,W,Y⟩:=H.ent k _ hk
  have ag:n<=ln xs:=by
   cases hbk:β k with
   |nil=>rw[hbk]at hb;simp at hb
   |cons q rr=>
    grind
  have hl:((xs.drop off).take len).length=len:=by simp;omega
  have E:∀(i:Nat) y,((xs.drop off).take len)[i]? =some y->xs[off+i]? =some y:=λi y B=>by
   rw[zB0]at B;split at B
   .rwa [zCe]at B
   .cases B
  refine⟨_,cap,by rw[hl],by rw[hl];exact hc,by omega,λG=>?_⟩
  have R:A=sz:=by
   obtain⟨y,B⟩:∃y,((xs.drop off).take len)[0]? =some y:=by
    cases h0:(xs.drop off).take len with|nil=>exact absurd h0 G|cons y _=>exact⟨y,rfl⟩
   rw[<-M y B,S _ y (E 0 y B)]
  subst R;obtain⟨c,el,e1,e2,e3,_⟩:=Y b n hb;refine⟨b,off*A,λi j=>f (off+i) j,rfl,λi y B=>S _ y (E i y B),λi j hi hj=>?_,λi j hi hj=>W _ _ rd hj,λi y j v B hv=>⟨U.toV _ y j v (E i y B) hv,λO=>U.toF (L O) _ y j v (E i y B) hv⟩⟩;rw[hl]at hi;rw[uI e1,show off*A+i*A+j=(off+i)*A+j by rw[zBl]];exact e3 _ _ (by omega) hj
 | ref0 k off A xs st a hk O=>
  simp only[UN,hk,zDe]at C
  obtain rfl: []=ys:=by
   cases ac:st.nest<;>cases ne<;>simp_all
  exact⟨a,0,rfl,by simp,by simp,λh=>absurd Z h⟩
 |dref _ _ _ _ hk _=>simp[UN,hk]at C
 |_=>simp[UN]at C
def flat (f:Nat->Nat->Value) (n sz:Nat):List Value:=(pi (n*sz)).map λq=>f (q/sz) (q % sz)
def yD (f:Nat->Nat->Value) (n sz:Nat):(flat f n sz).length=n*sz:=by simp[flat]
def HP (f:Nat->Nat->Value) {q:Nat} (h:q<n*sz):(flat f n sz)[q]? =some (f (q/sz) (q % sz)):=by simp[flat,h]
theorem gJ (f:Nat->Nat->Value) (hi:i<n) (hj:j<sz):(flat f n sz)[i*sz+j]? =some (f i j):=by
 have h1:i*sz+j<n*sz:=by
  have:=zA1 sz (show i+1<=n by omega)
  grind
 rw[HP f h1];have h2:(i*sz+j)/sz=i:=Nat.div_eq_of_lt_le (by omega) (by rw[zBl,zCl];omega)
 grind [flat,Nat.mul_comm,Nat.mul_add_mod,Nat.mod_eq_of_lt]
theorem C4.flat {ys:List AV} (C:C4 w D h β ne ys sz b o f) (G:1<=sz):
  (∀j u,(Av.flat f (ln ys) sz)[j]? =some u->w.cell? ((⟨b,o,none⟩:Addr).add j)=some u)/\∀u∈Av.flat f (ln ys) sz,u.oneCell'=true:=by
 have B:∀j,j<ln ys*sz->j/sz<ln ys/\j % sz<sz/\j/sz*sz+j % sz=j:=λj hj=>
  ⟨(Nat.div_lt_iff_lt_mul (by omega)).2 hj,zFn _ (by omega),by rw[zEe];exact Nat.div_add_mod j sz⟩
 refine⟨λj u A=>?_,λu A=>?_⟩
 .have hj:j<ln ys*sz:=by rw[<-yD f (ln ys) sz];exact(zAx.1 A).1
  rw[HP f hj]at A;cases A;obtain⟨h1,h2,E⟩:=B j hj;have:=C.cell _ _ h1 h2;rw[aB]
  grind
 .obtain⟨j,A⟩:=zDg A;have hj:j<ln ys*sz:=by rw[<-yD f (ln ys) sz];exact(zAx.1 A).1
  rw[HP f hj]at A;cases A;obtain⟨h1,h2,_⟩:=B j hj;exact C.one _ _ h1 h2
section runs
variable {P:Program} {TT:List TI} (hP:qI P TT) {T e:Nat} {ti te:TI} (hT:TT[T]? =some ti) (hd:ti.d= .slice e) (he:TT[e]? =some te) (w:World)
include hP hT hd he
theorem vU:∃(i:TypeInfo) (z:Value),P.underlying T=some (.slice e)/\P.info? e=some i/\i.zero=some z/\i.size=te.size/\i.bytes=te.bytes/\z.cells.toList=te.zero:=by
 obtain⟨_,u,_,_,E,_,A,_⟩:=vO (hP _ _ hT);obtain rfl:=kO (A.symm.trans hd);obtain⟨i,_,z,hi,_,G,_,C,hb,B⟩:=vO (hP _ _ he)
 grind
def jY (ty:Nat) (b B:Option Addr) (n cap A:Nat) (hc:n<=cap):(Builtin.append_ #[T,T] ty #[.slice b n cap,.slice B 0 A]).run P w= .ok (.slice b n cap) w:=by
 obtain⟨i,z,C,hi,E,_⟩:=vU hP hT hd he
 have h1:(Builtin.firstCells i.size 0 (.slice B 0 A)).run P w= .ok #[] w:=by
  cases B with
  |none=>rfl
  |some a=>simp only[Builtin.firstCells,loadCells,zDh,loadCellsFrom];rfl
 cases b with
 |none=>simp[Builtin.append_,run_underlying C,sizeOf,typeInfo,hi,Builtin.lenOf,hc,h1]
 |some a=>simp[Builtin.append_,run_underlying C,sizeOf,typeInfo,hi,Builtin.lenOf,hc,h1,storeCells]
def cV (ty:Nat) (g o n cap:Nat) (B:Array Value) (el:Nat) (M:w.heap[g]? =some (.cells B el (0,0))) (a:Addr) (m c:Nat) (A:List Value) (hl:ln A=m*te.size)
  (E:∀j u,A[j]? =some u->w.cell? (a.add j)=some u) (h1:∀u∈A,u.oneCell'=true) (G:n+m<=cap) (C:o+n*te.size+ln A<=B.size):
  (Builtin.append_ #[T,T] ty #[.slice (some ⟨g,o,none⟩) n cap,.slice (some a) m c]).run P w=
   .ok (.slice (some ⟨g,o,none⟩) (n+m) cap) (w.setRow g (B.toList.take (o+n*te.size)++A++B.toList.drop (o+n*te.size+ln A)).toArray):=by
 obtain⟨i,z,R,hi,S,O,_⟩:=vU hP hT hd he;rw[<-O]at hl C⊢;have L:=run_firstCells_some (P:=P) w i.size m a m c A hl E;have I:=run_storeCells_at P g (o+n*i.size) el A 0 B w M (by simpa using C) h1;simp only[zCy]at I;simp[Builtin.append_,run_underlying R,sizeOf,typeInfo,hi,Builtin.lenOf,G,L,aB,I]
end runs
section ops
variable {P:Program} {TT:List TI} {st:St}
def dF {x:AV} (H:∀k,k∈LI x->h k=h' k):UN ne h x=UN ne h' x:=by
 cases x with
 |ref k off len=>simp only[UN];rw[H k (by simp[LI])]
 |_=>rfl
theorem ZK (hP:qI P TT) {xv:AV} {ys:List AV} (I:Nat) (hs:yW (zL st.tm) s= .s (.slice none 0 0)) (hx:yW (zL st.tm) x=xv) (hT:TT[T]? =some ti) (hd:ti.d= .slice e) (M:TT[e]? =some te)
 (av:Oa (zD st.h) xv=some ys) (au:∀y,ys[0]? =some y->ln y.cells=te.size) (S:Nat.ble 1 te.size=true) (hb:Nat.ble te.bytes 65536=true) (hz:Nat.beq (ln te.zero) te.size=true) (ax:te.zero.all (·.oneCell')=true) (hn:ln ys<=1073741824):
  wZ P st (.call ⟨.builtin .append, #[s,x], #[T,T]⟩) (.ref I 0 (ln ys)) [(I,.arr te.size ys false)] (LI xv) [I]:=by
 refine⟨?_⟩;intro X tm h hg hr ar o a w β ho L Ht;obtain⟨d0,o0,y0,p0,f0,g0⟩:=o;dsimp only at ho;subst ho;have O:=ar I yE;have h1:=vP Ht hg (x:=s) gR hs;have h2:=dE Ht hg (x:=x) gR hx;have S:=zAq S;have hb:=zAq hb;obtain⟨ad,cap,hc,_,C,W⟩:=aD L h2 ((dF hr).trans av) au;obtain⟨i,z,hu,hi,a1,e1,e2,e3⟩:=vU hP hT hd M;have hz:=zA3 hz
 have R:∀{v w'},(Builtin.append_ #[T,T] y0 #[.slice none 0 0,a.eval x]).run P w= .ok v w'->(execOp a.eval ⟨d0,.call ⟨.builtin .append, #[s,x], #[T,T]⟩,y0,p0,f0,g0⟩).run P w= .ok (.value v) w':=λhv=>by
  simp[execOp,resolve,invoke,builtin,h1,hv]
 by_cases A:ys=[]
 .subst A;rw[R (by rw[hc];exact jY hP hT hd M w y0 none ad 0 0 cap (zAe _))]
  refine⟨cT β I [],xX.step L I _ _ (zAe _) (λ_ _ _=>rfl) Z Z Z (λb n hm=>by simp at hm) (λ_ _ _=>rfl) (λe M=>by rw[O]at M;cases M) (λE=>⟨S,by simp,λh=>absurd Z h,λi y Y=>by simp at Y,
   λb n r hr=>by rw[yJ]at hr;simp at hr,λ_ _=>undef,λi y j v Y _=>by simp at Y,λi j hi _=>by simp at hi,λb n hm=>by rw[yJ]at hm;simp at hm⟩),.ref0 I 0 _ _ _ _ (qO _ _ _) yE⟩
 .obtain⟨b,q,f,rfl,hS⟩:=W A
  have U:0<ln ys:=by cases ys with|nil=>exact absurd Z A|cons _ _=>simp
  obtain⟨ac,ag⟩:=hS.flat S
  have B:ln ys*i.bytes<=281474976710656:=by
   have:=zDo hn (show i.bytes<=65536 by omega);omega
  have V:=run_append_nil (P:=P) w T y0 e i z hu hi a1 ⟨b,q,none⟩ (ln ys) cap (flat f (ln ys) te.size) (by rw[yD,e1]) ac U (by unfold cD at C;omega) B;rw[R (by rw[hc];exact V)];have HD:=L.drew (w.drawn+1);have az:z.cells.size=ln te.zero:=by rw[<-e3];simp
  have ap:=grownCap_ge w (ln ys) 0 e
  obtain⟨β',G,hv⟩:=xX.newArr HD O ((flat f (ln ys) te.size).toArray++Builtin.zeroCells z.cells (grownCap w (ln ys) 0 e-ys.length)) e te.size ys (grownCap w (ln ys) 0 e) f S C ap (by
    simp only[zE8,zDi,yD,size_zeroCells,az,hz,<-zBl]
    congr 1;omega) (kP.get ((kP.arr ag).app (kP.zero (λv hv=>zAm.1 ax v EX) _))) hS.wide
   (λi j hi hj=>by
    rw[zCm (by simp[yD];have:=zA1 te.size (show i+1<=ln ys by omega);rw[zBl,zCl]at this;omega)]
    simpa using gJ f hi hj) hS.one (λi y j v Y hv=>xF.evo (w:=w) (w':={w with drawn:=w.drawn+1}) (zAe _) (λ_ _ hd=>⟨rfl,hd⟩) (hS.rep.toF Z i y j v Y hv))
  exact⟨β',xX.trans L (xX.drew L (w.drawn+1)) G,hv⟩
def QV (hP:qI P TT) {xv:AV} {ys:List AV} (hs:yW (zL st.tm) s= .s (.slice none 0 0)) (hx:yW (zL st.tm) x=xv) (hT:TT[T]? =some ti) (hd:ti.d= .slice e) (he:TT[e]? =some te)
 (ac:Oa (zD st.h) xv=some ys) (Y:∀y,ys[0]? =some y->ln y.cells=te.size) (S:Nat.ble 1 te.size=true) (hb:Nat.ble te.bytes 65536=true) (hz:Nat.beq (ln te.zero) te.size=true) (hn:ln ys<=1073741824):
  wZ P st (.call ⟨.builtin .append, #[s,x], #[T,T]⟩) (.sl false ys) [] (LI xv) []:=by
 refine⟨?_⟩;intro X tm h hg hr _ o a w β ho E Ht;obtain⟨d0,o0,U,p0,f0,g0⟩:=o;dsimp only at ho;subst ho;have h1:=vP Ht hg (x:=s) gR hs;have h2:=dE Ht hg (x:=x) gR hx;have S:=zAq S;have hb:=zAq hb;obtain⟨ad,cap,hc,_,C,O⟩:=aD E h2 ((dF hr).trans ac) Y;obtain⟨i,z,hu,hi,ag,e1,e2,e3⟩:=vU hP hT hd he;have hz:=zA3 hz
 have I:∀{v w'},(Builtin.append_ #[T,T] U #[.slice none 0 0,a.eval x]).run P w= .ok v w'->(execOp a.eval ⟨d0,.call ⟨.builtin .append, #[s,x], #[T,T]⟩,U,p0,f0,g0⟩).run P w= .ok (.value v) w':=λhv=>by
  simp[execOp,resolve,invoke,builtin,h1,hv]
 by_cases A:ys=[]
 .subst A;rw[I (by rw[hc];exact jY hP hT hd he w U none ad 0 0 cap (zAe _))];rw[ZH];exact⟨β,xX.refl E,.fz _ _ (.nil _ _)⟩
 .obtain⟨b,q,f,rfl,R⟩:=O A
  have L:0<ln ys:=by cases ys with|nil=>exact absurd Z A|cons _ _=>simp
  obtain⟨V,ap⟩:=R.flat S
  have B:ln ys*i.bytes<=281474976710656:=by
   have:=zDo hn (show i.bytes<=65536 by omega);omega
  have M:=run_append_nil (P:=P) w T U e i z hu hi ag ⟨b,q,none⟩ (ln ys) cap (flat f (ln ys) te.size) (by rw[yD,e1]) V L (by unfold cD at C;omega) B;rw[I (by rw[hc];exact M)];have HD:=E.drew (w.drawn+1);have ar:z.cells.size=ln te.zero:=by rw[<-e3];simp
  have W:=grownCap_ge w (ln ys) 0 e;have G:=xX.newFz HD ((flat f (ln ys) te.size).toArray++Builtin.zeroCells z.cells (grownCap w (ln ys) 0 e-ys.length)) e
  have hv:=xF.newArr HD ((flat f (ln ys) te.size).toArray++Builtin.zeroCells z.cells (grownCap w (ln ys) 0 e-ys.length)) e te.size ys (grownCap w (ln ys) 0 e) f S C W R.wide
   (λi j hi hj=>by
    rw[zCm (by simp[yD];have:=zA1 te.size (show i+1<=ln ys by omega);rw[zBl,zCl]at this;omega)]
    simpa using gJ f hi hj) R.one (λi y j v hy hv=>xF.evo (w:=w) (w':={w with drawn:=w.drawn+1}) (zAe _) (λ_ _ hd=>⟨rfl,hd⟩) (R.rep.toF Z i y j v hy hv))
  rw[ZH];refine⟨β,xX.trans E (xX.drew E (w.drawn+1)) G,.fz _ _ hv.wkF⟩
theorem uB (st' ne:Bool) (hP:qI P TT) {k:Nat} {xs:List AV} {xv:AV} {ys:List AV} (hs:yW (zL st.tm) s= .ref k 0 (ln xs)) (hk:zD st.h k=some (.arr sz xs sl)) (hx:yW (zL st.tm) x=xv) (hT:TT[T]? =some ti) (hd:ti.d= .slice e) (he:TT[e]? =some te)
 (bu:ne=false->sl.nest=false) (cj:UN ne (zD st.h) xv=some ys) (ci:∀y,ys[0]? =some y->ln y.cells=sz) (O:Nat.beq sz te.size=true) (hb:Nat.ble te.bytes 65536=true) (hz:Nat.beq (ln te.zero) te.size=true) (ck:te.zero.all (·.oneCell')=true) (hn:ln xs+ln ys<=1073741824) (bx:st'=false->xs=[]):
    wZ P st (.call ⟨.builtin .append, #[s,x], #[T,T]⟩) (.ref k 0 (xs++ys).length) [(k,.arr sz (xs++ys) ⟨st',ne⟩)] (k::LI xv) []:=by
  refine⟨?_⟩;intro X tm h hg hr _ o a w β ho HH Ht;obtain⟨d0,o0,y0,p0,f0,g0⟩:=o;dsimp only at ho;subst ho;have hk':=(hr k yE).trans hk;have h1:=dE Ht hg (x:=s) gR hs;have h2:=dE Ht hg (x:=x) gR hx;have O:=zA3 O;have hb:=zAq hb;have hz:=zA3 hz;obtain⟨g1,g2,g3,g4,g5,fs,g6,g7,g8⟩:=HH.ent k _ hk';obtain⟨ad,cap,hc,_,cm,b7⟩:=aD HH h2 ((dF λk' hk=>hr k' (by simp[hk])).trans cj) ci;obtain⟨i,z,hu,hi,bz,e1,e2,e3⟩:=vU hP hT hd he;have C:(xs++ys).length=ln xs+ln ys:=by simp
  have a4:∃bd S,a.eval s= .slice bd (ln xs) S/\xs.length<=S/\((∃b,bd=some ⟨b,0,none⟩/\(b,ln xs)∈β k/\S*sz=wW w b)\/(xs=[]/\S=0)):=by
    generalize a.eval s=cs at h1;generalize hL:ln xs=L at h1
    cases h1 with
    |fz _ _ hf=>cases hf
    |dref _ _ _ _ hd _=>rw[hk']at hd;cases hd
    |ref0 _ _ _ _ _ bd _ _=>exact⟨bd,0,rfl,zAe _,.inr ⟨zA5 hL,rfl⟩⟩
    | ref _ _ _ cr cv st' b n S b5 hb hn hc ch=>
      have h3:=b5;rw[hk']at h3;cases h3;subst hL
      have ce:n=ln xs:=by
        cases hbk:β k with
        |nil=>rw[hbk]at hb;simp at hb
        | cons q R=>
          obtain⟨M,n0⟩:=q;obtain⟨e1,_,e3⟩:=g5 M n0 R hbk;rw[hbk]at hb;simp at hb
          rcases hb with⟨_,rfl⟩|hb
          · exact e1
          · have:=e3 b n hb;omega
      subst ce;exact⟨_,S,by rw[zDh],hc,.inl ⟨b,rfl,hb,by rwa [zBu]at ch⟩⟩
  obtain⟨bd,S,a3,cd,a4⟩:=a4
  have br:∀{v w'},(Builtin.append_ #[T,T] y0 #[a.eval s,a.eval x]).run P w= .ok v w'->(execOp a.eval ⟨d0,.call ⟨.builtin .append, #[s,x], #[T,T]⟩,y0,p0,f0,g0⟩).run P w= .ok (.value v) w':=λhv=>by
    simp[execOp,resolve,invoke,builtin,hv]
  rw[C];by_cases ax:ys=[]
  ·
    subst ax;rw[br (by rw[a3,hc];exact jY hP hT hd he w y0 bd ad (ln xs) S cap cd)]
    have G:=xX.step (w':=w) HH k (.arr sz (xs++[]) ⟨st',ne⟩) (β k) (zAe _) (λ_ _ _=>rfl) Z Z Z (λb n A=> .inl ⟨n,A⟩) (λ_ _ _=>rfl) (λe he=>by rw[hk']at he;cases he;exact .inr ⟨⟨_,_,rfl,by simp⟩,λ_ n A=>⟨n,zAe _,A⟩⟩)
      (λE=>⟨g1,by simpa using g2,λh=>by rw[yJ];exact g3 NJ,λi y hy=>g4 i y (by simpa using hy),λb n r hr=>by
        rw[yJ]at hr;obtain⟨q1,_,q3⟩:=g5 b n r hr
        exact⟨by simpa using q1,λh b' n' A=>by have:=q3 b' n' A;rw[bx h]at this;simp at this,by simpa using q3⟩,fs,λi y j v hy hv=>⟨(g6.toV i y j v (by simpa using hy) hv).evo E,λhn=>(g6.toF (bu hn) i y j v (by simpa using hy) hv).evo E.size E.fz⟩,λi j hi hj=>g7 i j NL hj,λb n A=>by rw[yJ]at A;exact g8 b n A⟩)
    exact⟨_,G,(a3▸h1:yF w (xT X β) h β (.ref k 0 (ln xs)) (.slice bd (ln xs) S)).evo G.evo⟩
  · obtain ⟨b2, q,f,rfl,hS⟩:=b7 ax
    have b6:0<ln ys:=by cases ys with|nil=>exact absurd Z ax|cons _ _=>simp
    obtain⟨a5,bb⟩:=hS.flat g1
    have hbk:β k=[]\/∃M R,β k=(M,ln xs)::R:=by
      cases hbk:β k with
      |nil=>exact .inl Z
      |cons q R=>obtain⟨M,n0⟩:=q;obtain⟨q1,_⟩:=g5 M n0 R hbk;exact .inr ⟨M,R,by rw[q1]⟩
    let f':Nat->Nat->Value:=λi j=>if i<ln xs then fs i j else f (i-xs.length) j
    have b1:∀(i:Nat) y,(xs++ys)[i]? =some y->(i<ln xs/\xs[i]? =some y)\/(¬i<ln xs/\ys[i-xs.length]? =some y):=λi y hy=>by
      by_cases hi:i<ln xs
      · rw[zA9 hi]at hy;exact .inl ⟨hi,hy⟩
      · rw[zBb (by omega)]at hy;exact .inr ⟨hi,hy⟩
    have a2:∀(i:Nat) (y:AV),(xs++ys)[i]? =some y->ln y.cells=sz:=λi y hy=>by
      rcases b1 i y hy with⟨_,h⟩|⟨_,h⟩
      · exact g4 i y h
      · exact hS.wide _ y h
    have a6:∀i j,i<(xs++ys).length->j<sz->(f' i j).oneCell'=true:=λi j hi hj=>by
      simp only[f'];split
      · exact g7 i j ‹_› hj
      · exact hS.one _ _ (by rw[C]at hi;omega) hj
    have a7:∀{w':World} {D':Nat->Prop} {h':yM} {β':uH},DA w (xT X β) h β w' D' h' β'->gA w' D' h' β' ne (xs++ys) f':=λE i y j v hy hv=>by
      simp only[f']
      rcases b1 i y hy with⟨hi,h⟩|⟨hi,h⟩
      · rw[Os hi];exact⟨(g6.toV i y j v h hv).evo E,λhn=>(g6.toF (bu hn) i y j v h hv).evo E.size E.fz⟩
      · rw[hW hi];exact⟨(hS.rep.toV _ y j v h hv).evo E,λhn=>(hS.rep.toF hn _ y j v h hv).evo E.size E.fz⟩
    by_cases ar:ln xs+ln ys<=S
    ·
      rcases a4 with⟨b,rfl,A,cb⟩|⟨b8,cn⟩
      case inr=>omega
      obtain⟨W,el,c1,c2,c3,c4⟩:=g8 b _ A
      have cc:S*sz<=W.size:=by
        have:wW w b=W.size:=by unfold wW World.shape?;rw[c1];rfl
        omega
      have au:(ln xs+ln ys)*sz<=W.size:=zBf (zA1 _ ar) cc
      have a1:=cV hP hT hd he w y0 b 0 (ln xs) S W el c1 ⟨b2,q,none⟩ (ln ys) cap (flat f (ln ys) sz) (by rw[yD,O]) a5 bb ar (by
        rw[yD,<-O,zBu,<-zBl];exact au)
      rw[br (by rw[a3,hc];exact a1)];generalize I:(W.toList.take (0+ln xs*te.size)++flat f (ln ys) sz++W.toList.drop (0+ln xs*te.size+(flat f (ln ys) sz).length)).toArray=B
      have U:B.size=W.size:=by
        rw[<-I];simp only[zDi,zAf,zA0,zBh,zC8,yD,zBu,<-O];rw[zBl]at au;omega
      have ap:∀q,q<B.size->(B.getD q undef).oneCell'=true:=by
        rw[<-I];refine kP.get (kP.arr λv hv=>?_);have b3:=kP.of c4
        rcases zAy.1 hv with hv|hv
        · rcases zAy.1 hv with hv|hv
          · exact b3 v (zB6 hv)
          · exact bb v hv
        · exact b3 v (zBo hv)
      have ac:∀i j,i<ln xs+ln ys->j<sz->B[i*sz+j]? =some (f' i j):=λi j hi hj=>by
        rw[<-I];simp only[f',zC3,zBu,<-O];rw[zBl]at au;by_cases ag:i<ln xs
        · have av:i*sz+j<ln xs*sz:=by
            have:=zA1 sz (show i+1<=ln xs by omega);rw[zBl,zCl]at this;omega
          rw[Os ag,zA9 qM,zA9 qM,zB0,Os av];simpa using c3 i j ag hj
        · have b4:ln xs*sz<=i*sz:=zA1 _ (by omega);have e4:i*sz+j-xs.length*sz=(i-xs.length)*sz+j:=by rw[zFk];omega
          have av:(i-xs.length)*sz+j<ln ys*sz:=by
            have:=zA1 sz (show(i-xs.length)+1<=ln ys by omega);rw[zBl,zCl]at this;omega
          rw[hW ag,zA9 (by simp[yD];omega),zBb qM];have e5:(List.take (ln xs*sz) W.toList).length=ln xs*sz:=by simp;omega
          rw[e5,e4];exact gJ f (by omega) hj
      obtain⟨M,R,hbk⟩:=hbk.resolve_left (λh0=>by rw[h0]at A;simp at A)
      have ca:M=b:=by
        rw[hbk]at A;simp at A
        rcases A with rfl|A
        · rfl
        · have:=(g5 M _ R hbk).2.2 b _ A;omega
      subst ca
      have G := xX.step (w' := w.setRow M B) HH k (.arr sz (xs++ys) ⟨st',ne⟩) ((M,ln xs+ln ys)::R) yE (λj hj hn=>setRow_other w M j B (λe=>hn (ln xs) Yd)) Z Z Z
        (λb n A=>by
          simp at A
          rcases A with⟨rfl,_⟩|A
          · exact .inl ⟨ln xs,by rw[hbk];simp⟩
          · exact .inl ⟨n,by rw[hbk];simp[A]⟩) (λb n _=>qX c1 U b)
        (λe he=>by
          rw[hk']at he;cases he;refine .inr ⟨⟨_,_,rfl,by rw[C];omega⟩,λb n A=>?_⟩;rw[hbk]at A;simp at A
          rcases A with⟨rfl,rfl⟩|A
          · exact⟨ln xs+ln ys,by omega,by simp⟩
          · exact⟨n,zAe _,by simp[A]⟩)
        (λE=>⟨g1,by rw[C];unfold cD;omega,λ_=>by rw[yJ];simp,a2,λb n r hr=>by
          rw[yJ]at hr;simp at hr;obtain⟨⟨rfl,rfl⟩,rfl⟩:=hr
          exact⟨C.symm,λh b' n' A=>by have:=(g5 M _ R hbk).2.2 b' n' A;rw[bx h]at this;simp at this,λb' n' A=>by have:=(g5 M _ R hbk).2.2 b' n' A;rw[C];omega⟩,f',a7 E,a6,λb n A=>by
          rw[yJ]at A;simp at A;by_cases a9:b=M
          · subst a9
            have bk:n<=ln xs+ln ys:=by
              rcases A with⟨_,rfl⟩|A
              · omega
              · have:=(g5 b _ R hbk).2.2 b n A;omega
            exact⟨B,el,setRow_heap w _ _ _ _ _ c1,by rw[U];exact zBf (zA1 _ bk) au,λi j hi hj=>ac i j (by omega) hj,ap⟩
          · have A : (b, n) ∈ R := by   rcases A with⟨h,_⟩|A;· exact absurd h a9
                                        · exact A
            obtain⟨c',a8,d1,d2,d3,d4⟩:=g8 b n (by rw[hbk];simp[A]);have bk:=(g5 M _ R hbk).2.2 b n A
            exact⟨c',a8,(setRow_other w M b B a9).trans d1,d2,λi j hi hj=>by simp only[f'];rw[Os (by omega)];exact d3 i j hi hj,d4⟩⟩)
      refine⟨_,G,?_⟩
      have:=yF.ref (w:=w.setRow M B) (D:=xT X (cT β k ((M,ln xs+ln ys)::R))) (h:=over [(k,.arr sz (xs++ys) ⟨st',ne⟩)] h) (β:=cT β k ((M,ln xs+ln ys)::R)) k 0 (ln xs+ln ys) sz (xs++ys) ⟨st',ne⟩ M (ln xs+ln ys) S (qO _ _ _)
        (by rw[yJ];simp) (by omega) ar (by rw[qX c1 U,zBu];exact cb)
      rwa [zDh]at this
    ·
      have Y:(ln xs+ln ys)*i.bytes<=140737488355328:=by
        have:=zDo hn (show i.bytes<=65536 by omega);omega
      have b4:=grownCap_ge w (ln xs+ln ys) S e;have cl:z.cells.size=ln te.zero:=by rw[<-e3];simp
      have bf:∃V:List Value,(∀u∈V,u.oneCell'=true)/\V.length=ln xs*sz/\(∀i j,i<ln xs->j<sz->V[i*sz+j]? =some (fs i j))/\
          (Builtin.append_ #[T,T] y0 #[.slice bd (ln xs) S,.slice (some ⟨b2,q,none⟩) (ln ys) cap]).run P w= .ok (.slice (some ⟨w.heap.size,0,none⟩) (ln xs+ln ys) (grownCap w (ln xs+ln ys) S e))
            (w.drew.alloc (.cells (V.toArray++(flat f (ln ys) sz).toArray++Builtin.zeroCells z.cells (grownCap w (ln xs+ln ys) S e-(ln xs+ln ys))) e)):=by
        rcases a4 with⟨b,rfl,A,_⟩|⟨rfl,rfl⟩
        · obtain⟨W,el,c1,c2,c3,_⟩:=g8 b _ A;have b9:C4 w (xT X β) h β ne xs sz b 0 fs:=⟨g4,λi j hi hj=>by rw[uI c1,zBu];exact c3 i j hi hj,g7,λi x j v hx hv=>⟨g6.toV i x j v hx hv,λhn=>g6.toF (bu hn) i x j v hx hv⟩⟩;obtain⟨q1,q2⟩:=b9.flat g1;exact⟨flat fs (ln xs) sz,q2,yD _ _ _,λi j hi hj=>gJ fs hi hj,run_append_grow (P:=P) w T y0 e i z hu hi bz ⟨b,0,none⟩ (ln xs) S (flat fs (ln xs) sz) (by rw[yD,O,e1]) q1 ⟨b2,q,none⟩ (ln ys) cap (flat f (ln ys) sz) (by rw[yD,O,e1]) a5 (by omega) (by omega) (growslice_fits (by omega) Y)⟩
        · refine⟨[],(λu hu=>by simp at hu),by simp,λi j hi _=>by simp at hi,?_⟩
          cases bd with
          | none=>
            have:=run_append_nil (P:=P) w T y0 e i z hu hi bz ⟨b2,q,none⟩ (ln ys) cap (flat f (ln ys) sz) (by rw[yD,O,e1]) a5 b6 (by omega) (by simp only[zBq,zBu]at Y;omega);simpa using this
          | some ad=>
            have:=run_append_grow (P:=P) w T y0 e i z hu hi bz ad 0 0 [] yE yE ⟨b2,q,none⟩ (ln ys) cap (flat f (ln ys) sz) (by rw[yD,O,e1]) a5 (by omega) (by omega) (growslice_fits (by omega) (by simpa using Y));simpa using this
      obtain⟨V,cf,az,cg,a1⟩:=bf;rw[br (by rw[a3,hc];exact a1)];generalize co:grownCap w (ln xs+ln ys) S e=gc at *;generalize I:V.toArray++(flat f (ln ys) sz).toArray++Builtin.zeroCells z.cells (gc-(ln xs+ln ys))=B
      have ap:∀q,q<B.size->(B.getD q undef).oneCell'=true:=by
        rw[<-I];exact kP.get (((kP.arr cf).app (kP.arr bb)).app (kP.zero (λv hv=>zAm.1 ck v EX) _))
      have U:B.size=gc*sz:=by
        rw[<-I];simp only[zE8,zDi,yD,size_zeroCells,cl,hz,<-O,az,<-zBl]
        congr 1
        omega
      have ac:∀i j,i<ln xs+ln ys->j<sz->B[i*sz+j]? =some (f' i j):=λi j hi hj=>by
        have av:i*sz+j<(ln xs+ln ys)*sz:=by
          have:=zA1 sz (show i+1<=ln xs+ln ys by omega);rw[zBl,zCl]at this;omega
        rw[zBl]at av;rw[<-I,zCm (by simp[yD,az];omega)];simp only[f'];by_cases ag:i<ln xs
        · have av:i*sz+j<ln xs*sz:=by
            have:=zA1 sz (show i+1<=ln xs by omega);rw[zBl,zCl]at this;omega
          rw[Os ag,zCm (by simp[az];omega)];simpa using cg i j ag hj
        · have b4:ln xs*sz<=i*sz:=zA1 _ (by omega);have e4:i*sz+j-xs.length*sz=(i-xs.length)*sz+j:=by rw[zFk];omega
          rw[hW ag,zEy (by simp[az];omega)];simp only[zDi,az,e4,zC3];exact gJ f (by omega) hj
      have HD:=HH.drew (w.drawn+1);have dr:∀{w':World} {D':Nat->Prop} {h':yM} {β':uH},DA w.drew (xT X β) h β w' D' h' β'->DA w (xT X β) h β w' D' h' β':=λE=>⟨E.size,E.fz,E.bs,E.key⟩
      have cq:=grownCap_ge w (ln xs+ln ys) S e;have bl:=a6
      have G := xX.step (w:=w.drew) (w':=w.drew.alloc (.cells B e)) HD k (.arr sz (xs++ys) ⟨st',ne⟩) ((w.heap.size,ln xs+ln ys)::β k) yE (λj hj _=>heap_alloc_old w.drew _ j hj) Z Z Z
        (λb n A=>by
          simp at A
          rcases A with⟨rfl,_⟩|A
          · exact .inr yE
          · exact .inl ⟨n,A⟩) (λb n A=>by
          unfold wW World.shape?
          rw[heap_alloc_old w.drew _ b (HH.lt b (.inr ⟨k,n,A⟩))])
        (λe he=>by
          rw[hk']at he;cases he
          exact .inr ⟨⟨_,_,rfl,by rw[C];omega⟩,λb n A=>⟨n,zAe _,by simp[A]⟩⟩)
        (λE=>⟨g1,by rw[C];unfold cD;omega,λ_=>by rw[yJ];simp,a2,λb n r hr=>by
          rw[yJ]at hr;simp at hr;obtain⟨⟨rfl,rfl⟩,rfl⟩:=hr;refine⟨C.symm,λh b' n' A=>?_,λb' n' A=>?_⟩
          · have b8:ln xs=0:=by rw[bx h];rfl
            rcases hbk with h0|⟨M,R,h0⟩
            · rw[h0]at A;simp at A
            · rw[h0]at A;simp at A
              rcases A with⟨_,rfl⟩|A
              · exact b8
              · have:=(g5 M _ R h0).2.2 b' n' A;omega
          rw[C]
          rcases hbk with h0|⟨M,R,h0⟩
          · rw[h0]at A;simp at A
          · rw[h0]at A;simp at A
            rcases A with⟨_,rfl⟩|A
            · omega
            · have:=(g5 M _ R h0).2.2 b' n' A;omega,f',a7 (w':=w.drew.alloc (.cells B e)) (dr E),bl,λb n A=>by
          rw[yJ]at A;simp at A
          rcases A with⟨rfl,rfl⟩|A
          · exact⟨B,e,heap_alloc_new w.drew _,by rw[U];exact zA1 _ (by omega),λi j hi hj=>ac i j hi hj,ap⟩
          · obtain⟨c',a8,d1,d2,d3,d4⟩:=g8 b n A
            have bk:n<=ln xs:=by
              rcases hbk with h0|⟨M,R,h0⟩
              · rw[h0]at A;simp at A
              · rw[h0]at A;simp at A
                rcases A with⟨_,rfl⟩|A
                · omega
                · exact zEq ((g5 M _ R h0).2.2 b n A)
            exact⟨c',a8,(heap_alloc_old w.drew _ b (HH.lt b (.inr ⟨k,n,A⟩))).trans d1,d2,λi j hi hj=>by simp only[f'];rw[Os (by omega)];exact d3 i j hi hj,d4⟩⟩)
      refine⟨_,xX.trans HH (xX.drew HH (w.drawn+1)) G,?_⟩
      have:=yF.ref (w:=w.drew.alloc (.cells B e)) (D:=xT X (cT β k ((w.heap.size,ln xs+ln ys)::β k))) (h:=over [(k,.arr sz (xs++ys) ⟨st',ne⟩)] h) (β:=cT β k ((w.heap.size,ln xs+ln ys)::β k)) k 0 (ln xs+ln ys) sz (xs++ys) ⟨st',ne⟩ w.heap.size (ln xs+ln ys) gc (qO _ _ _)
        (by rw[yJ];simp) (by omega) (by omega) (by
          have:wW (w.drew.alloc (.cells B e)) w.heap.size=B.size:=by
            unfold wW World.shape?;rw[show(w.drew.alloc (.cells B e)).heap[w.heap.size]? =_ from heap_alloc_new w.drew _];rfl
          rw[this,U,zBu])
      rwa [zDh]at this
def NN (I:qI P TT) {k:Nat} {xs:List AV} {S:Bool} {G:AV} {ys:List AV} (O:yW (zL st.tm) s= .ref k 0 (ln xs)) (hk:zD st.h k=some (.arr sz xs ⟨S,false⟩)) (hx:yW (zL st.tm) x=G) (hT:TT[T]? =some ti) (hd:ti.d= .slice e) (L:TT[e]? =some te)
 (C:Oa (zD st.h) G=some ys) (B:∀y,ys[0]? =some y->ln y.cells=sz) (A:Nat.beq sz te.size=true) (hb:Nat.ble te.bytes 65536=true) (R:Nat.beq (ln te.zero) te.size=true) (E:te.zero.all (·.oneCell')=true) (M:ln xs+ln ys<=1073741824):
  wZ P st (.call ⟨.builtin .append, #[s,x], #[T,T]⟩) (.ref k 0 (xs++ys).length) [(k,.arr sz (xs++ys) true)] (k::LI G) []:=
 uB true false I O hk hx hT hd L (λ_=>rfl) C B A hb R E M (λh=>by cases h)
def QW (I:qI P TT) {k:Nat} {xs:List AV} {G:AV} {ys:List AV} (O:yW (zL st.tm) s= .ref k 0 (ln xs)) (hk:zD st.h k=some (.arr sz xs sl)) (hx:yW (zL st.tm) x=G) (hT:TT[T]? =some ti) (hd:ti.d= .slice e) (L:TT[e]? =some te)
 (C:UN true (zD st.h) G=some ys) (B:∀y,ys[0]? =some y->ln y.cells=sz) (A:Nat.beq sz te.size=true) (hb:Nat.ble te.bytes 65536=true) (R:Nat.beq (ln te.zero) te.size=true) (E:te.zero.all (·.oneCell')=true) (M:ln xs+ln ys<=1073741824):
  wZ P st (.call ⟨.builtin .append, #[s,x], #[T,T]⟩) (.ref k 0 (xs++ys).length) [(k,.arr sz (xs++ys) ⟨true,true⟩)] (k::LI G) []:=
 uB true true I O hk hx hT hd L (λh=>by cases h) C B A hb R E M (λh=>by cases h)
end ops
end
section
def NP (B:Nat->Option (Nat×Nat)):List AV->List (Nat×AV)->Option (List AV)
 |A,[]=>some A
 |A,(i,v)::rest=>match B i with
  |none=>none
  |some (off,size)=>bif Nat.beq (ln v.cells) size&&(Nat.ble (off+size) (ln A)&&v.ok)then NP B (UI A off v.cells) rest else none
theorem NQ (B:Nat->Option (Nat×Nat)):∀(C:List (Nat×AV)) (A:List (Nat×Value)) (cs:List AV) (c:Array Value) (G:List AV),NP B cs C=some G->
  (ln A)=ln C->(∀(j:Nat) p M,C[j]? =some p->A[j]? =some M->M.1=p.1/\yF w D h β p.2 M.2)->
  c.size=ln cs->(∀i,i<c.size->(c.getD i undef).oneCell'=true)->(∀(i:Nat) u,cs[i]? =some u->yF w D h β u (c.getD i undef))->
  ∃O,Instr.fill B c A=some O/\O.size=ln G/\(∀i,i<O.size->(O.getD i undef).oneCell'=true)/\∀(i:Nat) u,G[i]? =some u->yF w D h β u (O.getD i undef)
 | [],A,cs,c,G,L,hl,_,h1,h2,h3=>by
  obtain rfl:A=[]:=zA5 (by simpa using hl);cases L;exact⟨c,rfl,h1,h2,h3⟩
 | (i, v)::rest,A,cs,c,G,L,hl,hp,h1,h2,h3=>by
  cases A with
  |nil=>simp at hl
  | cons M U=>
   obtain⟨e1,e2⟩:=hp 0 (i,v) M Z Z;obtain⟨i',V⟩:=M;dsimp only at e1 e2;subst e1;unfold NP at L
   cases S:B i' with
   |none=>simp[S]at L
   | some q=>
    obtain⟨off,E⟩:=q;simp only[S]at L
    cases hc:Nat.beq (ln v.cells) E&&(Nat.ble (off+E) (ln cs)&&v.ok)with
    |false=>simp[hc]at L
    | true=>
     simp only[hc,zBk]at L;simp only[zAi]at hc;have q1:=zA3 hc.1;have q2:=zAq hc.2.1;obtain⟨r1,r2,r3⟩:=e2.cells hc.2.2;obtain⟨s1,s2⟩:=Great.foldl_set off V.cells.toList 0 c
     have R:V.cells.zipIdx.foldl (λcs (x:Value×Nat)=>cs.setIfInBounds (off+x.2) x.1) c=(V.cells.toList.zipIdx 0).foldl (λcs (x:Value×Nat)=>cs.setIfInBounds (off+x.2) x.1) c:=by
      rw[<-Array.foldl_toList,Array.toList_zipIdx]
     generalize ag:(V.cells.toList.zipIdx 0).foldl (λcs (x:Value×Nat)=>cs.setIfInBounds (off+x.2) x.1) c=c2 at*
     have W:∀k,c2.getD k undef=if off<=k/\k<off+E then V.cells.getD (k-off) undef else c.getD k undef:=λk=>by
      have hk:=s2 k;simp only[zCy,zC8]at hk;by_cases I:off<=k/\k<off+E
      .rw[Os I];rw[Os (by omega)]at hk;apply fB;rw[hk];have:=jA V.cells (k-off) (by omega);simpa using this
      .rw[hW I];rw[hW (by omega)]at hk;simp[zA4,hk]
     obtain⟨O,t1,t2,t3,t4⟩:=NQ B rest U (UI cs off v.cells) c2 G L (by simpa using hl) (λj p M hj ac=>hp (j+1) p M (by simpa using hj) (by simpa using ac))
      (by rw[s1,cL];exact h1) (λk hk=>by
       rw[W];split
       .exact r2 _ (by omega)
       .exact h2 k (by omega)) (λk u Y=>by
       rw[YO _ _ _ _ (by omega),q1]at Y;rw[W];split
       .rename_i I;rw[Os I]at Y;exact r3 _ u Y
       .rename_i I;rw[hW I]at Y
        exact h3 k u Y)
     refine⟨O,?_,t2,t3,t4⟩;unfold Instr.fill;simp only[S];rw[hW qM,R];exact t1
def Na (TT:List TI):List (Nat×Nat)->Option (List (Nat×Nat))
 | []=>some []
 |(o,t)::r=>match TT[t]?,Na TT r with
  |some ti,some l=>some ((o,ti.size)::l)
  |_,_=>none
theorem DK {TT:List TI} (C:qI P TT):∀(fs:List Field) (l:List (Nat×Nat)),Na TT (fs.map λf=>(f.offset,f.type))=some l->fs.mapM (λf=>(P.info? f.type).map λi=>(f.offset,i.size))=some l
 | [],l,h=>by simp[Na]at h;simp[h]
 | f::fs,l,h=>by
  simp only[zBc,Na]at h
  cases A:TT[f.type]? with
  |none=>simp[A]at h
  | some ti=>
   cases B:Na TT (fs.map λf=>(f.offset,f.type))with
   |none=>simp[A,B]at h
   |some G=>
    simp[A,B]at h;subst h;obtain⟨i,_,_,hi,_,_,_,E,_⟩:=vO (C _ _ A);simp[zFl,hi,DK C fs G B,E]
section ops
variable {P:Program} {TT:List TI} {st:St}
def bG (st:St) (ps:Array (Nat×Operand)):List (Nat×AV):=ps.toList.map λp=>(p.1,yW (zL st.tm) p.2)
def DL {op:Op} {E:Nat->AV} (H:∀t,yF w D h β (E t) (a.eval (.tmp t))) (G:∀t,t∈fV op->E t=zL st.tm t) (A:∀p∈ps.toList,p.2∈op.operands)
 (j:Nat) (p:Nat×AV) (B:Nat×Value) (h1:(bG st ps)[j]? =some p) (h2:(ps.map λx=>(x.1,a.eval x.2)).toList[j]? =some B):B.1=p.1/\yF w D h β p.2 B.2:=by
 simp only[bG,zAh,zAo]at h1;obtain⟨q,C,rfl⟩:=h1;simp only[zEj,zAh,C,zB8,zBw]at h2;subst h2;exact⟨rfl,dE H G (A q (zB5 C)) Z⟩
def DM (z:Value) (A:List Value) (C:z.cells.toList=A) (h1:A.all (·.oneCell')=true):
  z.cells.size=(A.map AV.s).length/\(∀i,i<z.cells.size->(z.cells.getD i undef).oneCell'=true)/\∀(i:Nat) u,(A.map AV.s)[i]? =some u->yF w D h β u (z.cells.getD i undef):=by
 subst C;refine⟨by simp,λi hi=>zAm.1 h1 _ (zB5 (by simpa using jA _ i hi)),λi u B=>?_⟩;simp only[zAh,zAo]at B;obtain⟨v,hv,rfl⟩:=B;rw[fB EW];exact .fz _ _ (.s _)
def Gf (M:qI P TT) {C:List (Nat×Nat)} {cs:List AV} (hT:TT[T]? =some ti) (hd:ti.d= .str fs) (h1:ti.zero.all (·.oneCell')=true) (G:Na TT fs=some C)
 (Y:NP (C[·]?) (ti.zero.map .s) (bG st ps)=some cs):wZ P st (.build T ps) (.agg cs) [] [] []:=
 yZ λoo X tm h w β a O hg hr HH R=>by
  obtain⟨d0,o0,y0,p0,f0,g0⟩:=oo;dsimp only at O;subst O;obtain⟨i,u,z,hi,hu,hz,E,_,_,I⟩:=vO (M _ _ hT);obtain⟨A,rfl,hm⟩:=Ua (E.symm.trans hd);have B:=DK M A.toList C (by rw[hm];exact G);obtain⟨z1,z2,z3⟩:=DM (w:=w) (D:=xT X β) (h:=h) (β:=β) z ti.zero I.symm h1
  obtain⟨L,S,U,V,W⟩:=NQ (w:=w) (D:=xT X β) (h:=h) (β:=β) (C[·]?) (bG st ps) (ps.map λx=>(x.1,a.eval x.2)).toList _ _ cs Y (by simp[bG]) (DL (op:= .build T ps) R hg λp hp=>by
   simp only[Op.operands,zFe]
   exact zBm.2 ⟨p,hp,rfl⟩) z1 z2 z3
  have hb:P.built T (ps.map λx=>(x.1,a.eval x.2)).toList=some L:=by
   simp only[Program.built,hi,hu,hz,B];simpa using S
  exact⟨_,by simp only[execOp,Sem.run_bind,run_build w T _ L hb,Result.andThen_ok,Sem.run_pure],.agg _ _ U V W⟩
def LU (I:qI P TT) {cs:List AV} (hT:TT[T]? =some ti) (hd:ti.d= .arr n e) (V:TT[e]? =some te) (h1:ti.zero.all (·.oneCell')=true)
 (W:NP (λi=>some (i*te.size,te.size)) (ti.zero.map .s) (bG st ps)=some cs):wZ P st (.build T ps) (.agg cs) [] [] []:=
 yZ λoo X tm h w β a L Y hr HH M=>by
  obtain⟨d0,o0,y0,p0,f0,g0⟩:=oo;dsimp only at L;subst L;obtain⟨i,u,z,hi,hu,hz,A,_,_,E⟩:=vO (I _ _ hT);obtain rfl:=Oj (A.symm.trans hd);obtain⟨ie,_,_,B,_,_,_,C,_,_⟩:=vO (I _ _ V);obtain⟨z1,z2,z3⟩:=DM (w:=w) (D:=xT X β) (h:=h) (β:=β) z ti.zero E.symm h1
  obtain⟨G,O,R,S,U⟩:=NQ (w:=w) (D:=xT X β) (h:=h) (β:=β) (λi=>some (i*te.size,te.size)) (bG st ps) (ps.map λx=>(x.1,a.eval x.2)).toList _ _ cs W (by simp[bG]) (DL (op:= .build T ps) M Y λp hp=>by
   simp only[Op.operands,zFe]
   exact zBm.2 ⟨p,hp,rfl⟩) z1 z2 z3
  have hb:P.built T (ps.map λx=>(x.1,a.eval x.2)).toList=some G:=by
   simp only[Program.built,hi,hu,hz,B,<-C];exact O
  exact⟨_,by simp only[execOp,Sem.run_bind,run_build w T _ G hb,Result.andThen_ok,Sem.run_pure],.agg _ _ R S U⟩
theorem NR (ne:Bool) (hP:qI P TT) {xs:List AV} (hT:TT[T]? =some ti) (hd:ti.d= .slice e) (he:TT[e]? =some te) (hp:Nat.ble 1 te.size=true) (ag:bG st ps=(xs.zipIdx 0).map λx=>(x.2,x.1)) (hl:Nat.beq (ln xs) len=true)
 (hw:xs.all (λx=>Nat.beq (ln x.cells) te.size&&(x.ok&&(ne||x.nokey)))=true) (hb:Nat.ble (len*te.size) 65536=true) (U:Nat.beq (ln te.zero) te.size=true):
  ∀ (o:Oper) (X:Nat->Prop) (tm:Nat->AV) (h:yM) (w:World) (β:uH) (a:Act),o.op= .buildSlice T len ps->(∀t,t∈fV (.buildSlice T len ps)->tm t=zL st.tm t)->(∀t,yF w (xT X β) h β (tm t) (a.eval (.tmp t)))->
   ∃(C:Array Value) (f:Nat->Nat->Value),(execOp a.eval o).run P w= .ok (.value (.slice (some ⟨w.heap.size,0,none⟩) (ln xs) (ln xs))) (w.alloc (.cells C e))/\C.size=ln xs*te.size/\xs.length<=cD/\xs.length=len/\
    (∀(i:Nat) (x:AV),xs[i]? =some x->ln x.cells=te.size)/\(∀i j,i<ln xs->j<te.size->C[i*te.size+j]? =some (f i j))/\(∀i j,i<ln xs->j<te.size->(f i j).oneCell'=true)/\
    gA w (xT X β) h β ne xs f:=by
 intro o X tm h w β a ho hg Ht;obtain⟨d0,o0,y0,p0,f0,g0⟩:=o;dsimp only at ho;subst ho;have hp:=zAq hp;have hl:=zA3 hl;have hb:=zAq hb;have U:=zA3 U;subst hl;obtain⟨i,z,E,hi,hz,e1,e2,e3⟩:=vU hP hT hd he
 have S:∀(j:Nat) (x:AV),xs[j]? =some x->ln x.cells=te.size/\x.ok=true/\(ne||x.nokey)=true:=λj x hx=>by
  have:=zAm.1 hw x (zB5 hx)
  simp_all [qI,hT,bG,yM,uH,fV,zL,xT,cD,gA]
 have I:ln ps.toList=ln xs:=by
  have:=zAt List.length ag;simpa [bG]using this
 let B:List Value:=ps.toList.map λp=>a.eval p.2
 have R:ln B=ln xs:=by simp[B];simpa using I
 have ar:∀(j:Nat) (x:AV),xs[j]? =some x->∃p,ps.toList[j]? =some p/\p.1=j/\yW (zL st.tm) p.2=x:=λj x hx=>by
  have hj:=zAt (·[j]?) ag;simp only[bG,zAh,zD8,hx,zB8,zBu]at hj
  grind
 have av:∀(j:Nat) (x:AV),xs[j]? =some x->∃v,B[j]? =some v/\yF w (xT X β) h β x v:=λj x hx=>by
  obtain⟨p,M,_,a4⟩:=ar j x hx;refine⟨a.eval p.2,by simp only[B,zAh,M,zB8],dE (op:= .buildSlice T (ln xs) ps) Ht hg ?_ a4⟩;simp only[Op.operands,zFe]
  grind
 have a5:(ps.map λx=>(x.1,a.eval x.2)).toList=(B.zipIdx 0).map λx=>(x.2,x.1):=by
  apply zBe;intro j;simp only[zEj,zAh,zD8,B,zBu];by_cases hj:j<ln xs
  .obtain⟨p,M,a3,_⟩:=ar j xs[j] (by simp[hj]);simp[M,a3]
  all_goals grind
 have O:∀v∈B,v.cells.size=te.size:=λv hv=>by
  obtain⟨j,hj⟩:=zDg hv;have Y:j<ln xs:=by rw[<-R];exact(zAx.1 hj).1
  obtain⟨v',h1,h2⟩:=av j xs[j] (by simp[Y]);rw[hj]at h1;cases h1;obtain⟨q1,q2,_⟩:=S j xs[j] (by simp[Y]);rw[(h2.cells q2).1,q1]
 have a7:z.cells.size=te.size:=by rw[<-U,<-e3];simp
 have G:=Great.fill_whole (s:=te.size) (by omega) B ((Array.range (ln xs*te.size)).map (z.cells[· % z.cells.size]!)) O (by simp[R]);have L:=Great.flat_get (s:=te.size) (by omega) B O;generalize hC:(B.flatMap λv=>v.cells.toList).toArray=C at G
 have W:C.size=ln xs*te.size:=by
  rw[<-hC]
  have:∀l:List Value,(∀v∈l,v.cells.size=te.size)->(l.flatMap λv=>v.cells.toList).length=ln l*te.size:=by
   intro l
   induction l with
   |nil=>simp
   |cons v l ih=>
    intro hv;rw[List.flatMap_cons,zAf,ih λu E=>hv u (by simp[E])];have:=hv v yE;simp only[zC8,this,zAp,zBl,zCl];omega
  simpa [R]using this B O
 have au:(execOp a.eval ⟨d0,.buildSlice T (ln xs) ps,y0,p0,f0,g0⟩).run P w= .ok (.value (.slice (some ⟨w.heap.size,0,none⟩) (ln xs) (ln xs))) (w.alloc (.cells C e)):=by
  have ax:¬xs.length*te.size>2 ^ 24:=by omega
  have hs:=jR (hP _ _ he) w;simp only[execOp,Instr.buildSlice,Sem.run_bind,DC w E,Result.andThen_ok,hs];by_cases h0:ln xs*te.size=0
  .have a6:xs=[]:=by
    rcases Nat.mul_eq_zero.1 h0 with h|h
    .exact zA5 h
    .omega
   subst a6
   have ap:ps= #[]:=by
    have:ln ps.toList=0:=by simpa using I
    exact Array.eq_empty_of_size_eq_zero Zd
   subst ap;have az:C= #[]:=by simpa using W
   subst az;simp[Instr.fill,newRow,Array.range_zero']
  .have ac:(ps.map λx=>(x.1,a.eval x.2)).toList=(B.zipIdx 0).map λx=>(x.2,x.1):=a5
   simp only[hW ax,Sem.run_pure,Result.andThen_ok,hW h0,Sem.run_bind,zeroValue,typeInfo,run_program,hi,hz,ac];rw[G];simp[newRow]
 have A:∀(j:Nat) (x:AV),xs[j]? =some x->∃v,B[j]? =some v/\v.cells.size=te.size/\(∀q,q<te.size->C[j*te.size+q]? =some (v.cells.getD q undef))/\(∀q,q<te.size->(v.cells.getD q undef).oneCell'=true)/\
   ∀(q:Nat) u,x.cells[q]? =some u->yF w (xT X β) h β u (v.cells.getD q undef)/\(ne=false->xF w (xT X β) u (v.cells.getD q undef)):=λj x hx=>by
  obtain⟨v,h1,h2⟩:=av j x hx;obtain⟨q1,q2,q3⟩:=S j x hx;obtain⟨r1,r2,r3⟩:=h2.cells q2;refine⟨v,h1,by omega,λq V=>?_,λq V=>r2 q (by omega),λq u E=>⟨r3 q u E,λhn=>(r3 q u E).toF ?_⟩⟩
  .have a1:(j*te.size+q)/te.size=j:=Nat.div_eq_of_lt_le (by omega) (by rw[zBl,zCl];omega);have a2:(j*te.size+q) % te.size=q:=by rw[zEe,zFj];exact zDn V
   have:=L (j*te.size+q);rw[a1,a2,h1]at this;rw[<-hC];simp only[zC3,this,Option.bind_some];exact jA _ _ (by omega)
  .rw[hn,zCh]at q3
   cases x<;>first
    |(simp[AV.cells]at E;cases q<;>simp at E;subst E;exact q3)
    |(exact kZ (by simpa [AV.nokey,AV.cells]using q3) E)
 refine⟨C,λj q=>(B.getD j undef).cells.getD q undef,au,W,?_,rfl,λj x hx=>(S j x hx).1,?_,?_,?_⟩
 .have:ln xs*1<=ln xs*te.size:=Nat.mul_le_mul_left _ hp;unfold cD;omega
 .intro j q hj V;obtain⟨v,h1,_,h3,_⟩:=A j xs[j] (by simp[hj]);have:B.getD j undef=v:=by simp[py,h1]
  dsimp only;rw[this];exact h3 q V
 .intro j q hj V;obtain⟨v,h1,_,_,h4,_⟩:=A j xs[j] (by simp[hj]);have:B.getD j undef=v:=by simp[py,h1]
  dsimp only;rw[this];exact h4 q V
 .intro j x q u hx E;obtain⟨v,h1,_,_,_,h5⟩:=A j x hx;have:B.getD j undef=v:=by simp[py,h1]
  dsimp only;rw[this];exact h5 q u E
def xD (W:qI P TT) {xs:List AV} (k:Nat) (hT:TT[T]? =some ti) (hd:ti.d= .slice e) (Y:TT[e]? =some te) (L:Nat.ble 1 te.size=true) (M:bG st ps=(xs.zipIdx 0).map λx=>(x.2,x.1)) (hl:Nat.beq (ln xs) len=true)
 (hw:xs.all (λx=>Nat.beq (ln x.cells) te.size&&(x.ok&&x.nokey))=true) (hb:Nat.ble (len*te.size) 65536=true) (O:Nat.beq (ln te.zero) te.size=true):
  wZ P st (.buildSlice T len ps) (.ref k 0 len) [(k,.arr te.size xs false)] [] [k]:=by
 refine⟨?_⟩;intro X tm h hg _ hn o a w β ho U V;obtain⟨C,f,B,A,I,E,q1,R,S,q4⟩:=NR false W hT hd Y L M hl hw hb O o X tm h w β a ho hg V;rw[B];subst E;obtain⟨β',G,hv⟩:=xX.newArr U (hn k yE) C e te.size xs (ln xs) f (zAq L) I (zAe _) (by rw[A]) (DG A (zAq L) R S) q1 R S (q4.toF Z);exact⟨β',G,hv⟩
def QX (W:qI P TT) {xs:List AV} (k:Nat) (hT:TT[T]? =some ti) (hd:ti.d= .slice e) (Y:TT[e]? =some te) (L:Nat.ble 1 te.size=true) (M:bG st ps=(xs.zipIdx 0).map λx=>(x.2,x.1)) (hl:Nat.beq (ln xs) len=true)
 (hw:xs.all (λx=>Nat.beq (ln x.cells) te.size&&x.ok)=true) (hb:Nat.ble (len*te.size) 65536=true) (O:Nat.beq (ln te.zero) te.size=true):
  wZ P st (.buildSlice T len ps) (.ref k 0 len) [(k,.arr te.size xs ⟨false,true⟩)] [] [k]:=by
 refine⟨?_⟩;intro X tm h hg _ hn o a w β ho U V;obtain⟨C,f,B,A,I,E,q1,R,S,q4⟩:=NR true W hT hd Y L M hl (by simpa using hw) hb O o X tm h w β a ho hg V;rw[B];subst E;obtain⟨β',G,hv⟩:=xX.newArrN U (hn k yE) C e te.size xs (ln xs) f (zAq L) I (zAe _) (by rw[A]) (DG A (zAq L) R S) q1 R S (q4.toV);exact⟨β',G,hv⟩
def QY (R:qI P TT) {xs:List AV} (hT:TT[T]? =some ti) (hd:ti.d= .slice e) (S:TT[e]? =some te) (L:Nat.ble 1 te.size=true) (E:bG st ps=(xs.zipIdx 0).map λx=>(x.2,x.1)) (hl:Nat.beq (ln xs) len=true)
 (Y:xs.all (λx=>Nat.beq (ln x.cells) te.size&&(x.ok&&x.nokey))=true) (hb:Nat.ble (len*te.size) 65536=true) (G:Nat.beq (ln te.zero) te.size=true):
  wZ P st (.buildSlice T len ps) (.sl true xs) [] [] []:=by
 refine⟨?_⟩;intro X tm h U _ hn o a w β W I M;obtain⟨C,f,A,O,B,V,q1,q2,q3,q4⟩:=NR false R hT hd S L E hl Y hb G o X tm h w β a W U M;rw[A];rw[ZH];exact⟨β,xX.newFz I C e,.fz _ _ (xF.newArr I C e te.size xs (ln xs) f (zAq L) B (zAe _) q1 q2 q3 (q4.toF Z))⟩
def kQ (ti:TI):AV:=bif ti.d.agg then .agg (ti.zero.map .s)else match ti.zero with
 | [v]=> .s v
 |_=> .bot
theorem XQ (hP:qI P TT) {n:Nat} {kx ky:IntKind} {nx A:Int} (k:Nat) (hx:yW (zL st.tm) x= .s (.int kx nx)) (hy:yW (zL st.tm) y= .s (.int ky A)) (hT:TT[T]? =some ti) (hd:ti.d= .slice e) (he:TT[e]? =some te)
 (ar:nx=(n:Int)) (au:nx<=A) (a1:A<=1073741824) (hb:Nat.ble te.bytes 65536=true) (hp:Nat.ble 1 te.size=true) (E:Nat.beq (ln te.zero) te.size=true) (V:te.zero.all (·.oneCell')=true) (L:Nat.beq (kQ te).cells.length te.size=true) (W:(kQ te).cells=te.zero.map .s):
  wZ P st (.makeSlice T x y) (.ref k 0 n) [(k,.arr te.size (pg n (kQ te)) false)] [] [k]:=by
 refine⟨?_⟩;intro X tm h hg _ hn o a w β ho HH Ht;obtain⟨d0,o0,y0,p0,f0,g0⟩:=o;dsimp only at ho;subst ho;have h1:=vP Ht hg (x:=x) uL hx;have h2:=vP Ht hg (x:=y) uL hy;have hp:=zAq hp;have hb:=zAq hb;have E:=zA3 E;have L:=zA3 L;subst ar;obtain⟨i,z,S,hi,hz,e1,e2,e3⟩:=vU hP hT hd he
 have B:(i.bytes:Int)*A<=281474976710656:=by
  obtain⟨m,rfl⟩:=zB7 (show 0<=A by omega);have:i.bytes*m<=65536*1073741824:=zDo (by omega) (by omega)
  grind
 have R:=run_make (P:=P) w T e i z S hi hz kx ky (n:Int) A (by omega) au B (by omega)
 have Y:(execOp a.eval ⟨d0,.makeSlice T x y,y0,p0,f0,g0⟩).run P w= .ok (.value (.slice (some ⟨w.heap.size,0,none⟩) n A.toNat)) (w.alloc (.cells (madeCells z.cells (A.toNat*i.size)) e)):=by
  simp only[execOp,h1,h2,Sem.run_bind,R,Result.andThen_ok,Sem.run_pure];rfl
 rw[Y];have az:z.cells.size=te.size:=by rw[<-E,<-e3];simp
 have C:(pg n (kQ te)).length=n:=by simp
 have O:∀(j:Nat) v,(pg n (kQ te))[j]? =some v->v=kQ te:=λj v hv=>by
  grind
 have I:∀j,j<te.size->∃v,te.zero[j]? =some v/\z.cells.getD j undef=v:=λj hj=>by
  have:=jA z.cells j (by omega)
  grind
 have:=xX.newArr HH (hn k yE) (madeCells z.cells (A.toNat*i.size)) e te.size (pg n (kQ te)) A.toNat (λ_ j=>z.cells.getD j undef) hp (by rw[C];unfold cD;omega) (by rw[C];omega) (by rw[size_madeCells,e1]) (kP.get (kP.made (λv hv=>zAm.1 V v EX) (by omega) _))
  (λj v hv=>by rw[O j v hv];exact L) (λM j hi' hj=>by
   rw[C]at hi'
   have ag:M*te.size+j<A.toNat*te.size:=by
    have:=zA1 te.size (show M+1<=A.toNat by omega)
    grind
   have ap:(M*te.size+j) % te.size=j:=by rw[zEe,zFj];exact zDn hj
   simp only[madeCells,e1,Array.getElem?_map,Array.getElem?_range,ag,zEk,zB8,az,ap]
   congr 1
   have ac:j<z.cells.size:=by omega
   simp[zA4,ac]) (λM j _ hj=>by
   obtain⟨v,hv,av⟩:=I j hj;rw[av]
   exact zAm.1 V v (zB5 hv)) (λM v j u hv S=>by
   rw[O M v hv,W]at S;simp only[zAh,zAo]at S;obtain⟨q,hq,rfl⟩:=S;have hj:j<te.size:=by rw[<-E];exact(zAx.1 hq).1
   obtain⟨v',U,ax⟩:=I j hj;rw[ax];rw[hq]at U;cases U
   exact .s _)
 obtain⟨β',G,hv⟩:=this;rw[C]at hv;exact⟨β',G,hv⟩
def Wr {E G:Nat} {k:IntKind} {n:Int} (hx:yW (zL st.tm) x= .s (.int k m)) (I:yW (zL st.tm) y= .s (.int k n)):wZ P st (.call ⟨.builtin .max, #[x,y], #[E,G]⟩) (.s (.int k (max m n))) [] [] []:=
 yZ λL X V h w β a C B S M A=>by
  obtain⟨d0,o0,W,U,O,R⟩:=L;dsimp only at C;subst C;have h1:=vP A B (x:=x) gR hx;have h2:=vP A B (x:=y) gR I;refine⟨.int k (max m n),?_,.fz _ _ (.s _)⟩;have:(if n>m then n else m)=max m n:=by omega
  simp[execOp,resolve,invoke,builtin,Builtin.max_,Builtin.max2,h1,h2,this]
def Vr {E G:Nat} {k:IntKind} {n:Int} (hx:yW (zL st.tm) x= .s (.int k m)) (I:yW (zL st.tm) y= .s (.int k n)):wZ P st (.call ⟨.builtin .min, #[x,y], #[E,G]⟩) (.s (.int k (min m n))) [] [] []:=
 yZ λL X V h w β a C B S M A=>by
  obtain⟨d0,o0,W,U,O,R⟩:=L;dsimp only at C;subst C;have h1:=vP A B (x:=x) gR hx;have h2:=vP A B (x:=y) gR I;refine⟨.int k (min m n),?_,.fz _ _ (.s _)⟩;have:(if n<m then n else m)=min m n:=by omega
  simp[execOp,resolve,invoke,builtin,Builtin.min_,Builtin.min2,h1,h2,this]
def WJ (h:yM):AV->Bool
 | .sl true _=>true
 | .sl false (_::_)=>true
 | .ref k _ (_+1)=>match h k with
  |some (.arr _ _ _)=>true
  |_=>false
 |_=>false
def QC (B:qI P TT) (hT:TT[T]? =some ti) (hd:ti.d= .slice e) (w:World) (b:Option Addr) (n c:Nat):(Op.equal T (.slice b n c) (.slice none 0 0)).run P w= .ok b.isNone w:=by
 obtain⟨_,u,_,_,C,_,A,_⟩:=vO (B _ _ hT);obtain rfl:=kO (A.symm.trans hd)
 show(Op.equalIn (9999+1) T _ _).run P w=_
 unfold Op.equalIn
 cases b<;>simp[DC w C]
def xQ (I:qI P TT) {C:AV} {v:Bool} (B:op= .eql/\v=false\/op= .neq/\v=true) (hx:yW (zL st.tm) x=C) (hT:TT[T]? =some ti) (hd:ti.d= .slice e) (A:WJ (zD st.h) C=true):
  wZ P st (.binOp op T x (.const (.slice none 0 0)) ty) (.s (.bool v)) [] (LI C) []:=
 yZ λU X tm h w β a E O S V G=>by
  obtain⟨d0,o0,y0,p0,Y,g0⟩:=U;dsimp only at E;subst E;have h1:=dE G O (x:=x) uL hx
  obtain⟨b,n,c,hc⟩:∃b n c,a.eval x= .slice (some b) n c:=by
   generalize a.eval x=W at h1
   cases h1 with
   |fz _ _ M=>
    cases M with
    |nil a cap=>simp[WJ]at A
    |nil1 a cap=>exact⟨_,_,_,rfl⟩
    |sl _ _ b o sz cap f R hL hc hh=>exact⟨_,_,_,rfl⟩
    |_=>simp[WJ]at A
   |ref _ _ _ _ _ _ _ _ _ _ _ _ _ _=>exact⟨_,_,_,rfl⟩
   |ref0 _ _ _ _ _ _ _ _=>simp[WJ]at A
   |dref k off len _ hk _=>
    have:=S k (by simp[LI])
    cases len with
    |zero=>simp[WJ]at A
    |succ m=>simp[WJ,<-this,hk]at A
   |_=>simp[WJ]at A
  have L:=QC I hT hd w (some b) n c;refine⟨.bool v,?_,.fz _ _ (.s _)⟩
  rcases B with⟨rfl,rfl⟩|⟨rfl,rfl⟩<;>simp[execOp,hc,show a.eval (.const (.slice none 0 0))= .slice none 0 0 from Z,eqGuard,binOp,L]
def Ma (E:qI P TT) {v:Bool} {c:Nat} (A:op= .eql/\v=true\/op= .neq/\v=false) (hx:yW (zL st.tm) x= .s (.slice none n c)) (hT:TT[T]? =some ti) (hd:ti.d= .slice e):
  wZ P st (.binOp op T x (.const (.slice none 0 0)) ty) (.s (.bool v)) [] [] []:=
 yZ λL X V h w β a B I S M C=>by
  obtain⟨d0,o0,W,U,O,R⟩:=L;dsimp only at B;subst B;have hc:=vP C I (x:=x) uL hx;have G:=QC E hT hd w none n c;refine⟨.bool v,?_,.fz _ _ (.s _)⟩
  rcases A with⟨rfl,rfl⟩|⟨rfl,rfl⟩<;>simp[execOp,hc,show a.eval (.const (.slice none 0 0))= .slice none 0 0 from Z,eqGuard,binOp,G]
def QD {p q:ByteArray} {v:Bool} (hx:yW (zL st.tm) x= .s (.string p)) (G:yW (zL st.tm) y= .s (.string q))
 (A:op= .eql/\v=(p.toList==q.toList)\/op= .neq/\v= !(p.toList==q.toList)):wZ P st (.binOp op tx x y ty) (.s (.bool v)) [] [] []:=
 yZ λo X O h w β a E C _ _ B=>by
  obtain⟨d0,o0,R,M,I,L⟩:=o;dsimp only at E;subst E;have h1:=vP B C (x:=x) uL hx;have h2:=vP B C (x:=y) uL G;refine⟨.bool v,?_,.fz _ _ (.s _)⟩
  rcases A with⟨rfl,rfl⟩|⟨rfl,rfl⟩<;>simp[execOp,h1,h2,eqGuard,binOp,Op.stringOp]
end ops
end
