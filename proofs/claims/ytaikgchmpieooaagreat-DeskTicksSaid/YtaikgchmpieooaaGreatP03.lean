/- Part 3: contracts of the functions, and what they rest upon. -/
import Derived.Test.YtaikgchmpieooaaGreatP02
namespace Go.Proofs.YtaikgchmpieooaaGreat
namespace Av
set_option linter.unusedSimpArgs false
set_option linter.unusedVariables false
def AV.one:AV→Bool
 | .s v=>v.oneCell'
 | .sl _ _| .slc _ _| .ref _ _ _| .ptr _ _ _| .fp _ _ _| .fn _ _=>true
 |_=>false
def AV.ok:AV→Bool
 | .agg _=>true
 |v=>v.one
mutual
def AV.nokey:AV→Bool
 | .bot| .s _| .sl _ _| .slc _ _| .fp _ _ _=>true
 | .agg cs=>nokeys cs
 |_=>false
def nokeys:List AV→Bool
 | []=>true
 |v::r=>v.nokey&&nokeys r
end
theorem nokeys_at:∀{cs:List AV} {i:Nat} {v:AV},nokeys cs=true→cs[i]? =some v→v.nokey=true
 | [],_,_,_,h=>by simp at h
 |x::r,0,v,hk,h=>by simp at h;subst h;simp[nokeys]at hk;exact hk.1
 |x::r,i+1,v,hk,h=>by simp[nokeys]at hk;exact nokeys_at hk.2 (by simpa using h)
def setL {α:Type}:List α→Nat→List α→List α
 |cs,_,[]=>cs
 |cs,o,v::vs=>setL (cs.set o v) (o+1) vs
theorem setL_length {α:Type}:∀(vs cs:List α) (o:Nat),(setL cs o vs).length=cs.length
 | [],_,_=>rfl
 |v::vs,cs,o=>by rw[setL,setL_length vs,List.length_set]
theorem setL_at {α:Type}:∀(vs cs:List α) (o j:Nat),o+vs.length≤cs.length→(setL cs o vs)[j]? =if o≤j∧j<o+vs.length then vs[j-o]? else cs[j]?
 | [],cs,o,j,_=>by rw[setL,if_neg (by simp)]
 | v::vs,cs,o,j,h=>by
  simp at h
  rw[setL,setL_at vs _ _ _ (by simp;omega)]
  by_cases h1:o+1≤j∧j<o+1+vs.length
  ·rw[if_pos h1,if_pos (by simp;omega),show j-o=(j-(o+1))+1 by omega];simp
  ·rw[if_neg h1]
   by_cases h2:j=o
   ·subst h2;rw[if_pos (by simp),List.getElem?_set_self (by omega),Nat.sub_self];rfl
   ·rw[if_neg (by simp;omega),List.getElem?_set_ne (by omega)]
section
variable {w:World} {D:Nat→Prop} {h:Heap} {β:Map}
theorem getD_of {c:Array Value} {i:Nat} {v:Value} (h:c[i]? =some v):c.getD i undef=v:=by simp[Array.getD_eq_getD_getElem?,h]
theorem getD_eq (c:Array Value) (i:Nat) (h:i<c.size):c[i]? =some (c.getD i undef):=by
 obtain⟨u,hu⟩:∃u,c[i]? =some u:=⟨c[i],by simp[h]⟩
 rw[getD_of hu];exact hu
theorem RepF.one_of {v:AV} {c:Value} (hv:RepF w D v c) (h1:v.one=true):c.oneCell'=true:=by
 cases hv<;>first|rfl|(simp[AV.one]at h1;done)|simpa [AV.one]using h1
theorem RepV.one_of {v:AV} {c:Value} (hv:RepV w D h β v c) (h1:v.one=true):c.oneCell'=true:=by
 cases hv with
 |fz _ _ hf=>exact hf.one_of h1
 |dref _ _ _ _ _ h2=>exact h2
 |dptr _ _ _ _ _ h2=>exact h2
 |agg _ _ _ _ _=>simp[AV.one]at h1
 |tup _ _ _ _=>simp[AV.one]at h1
 |_=>rfl
theorem RepV.cells {v:AV} {c:Value} (hv:RepV w D h β v c) (h1:v.ok=true):
  c.cells.size=v.cells.length∧(∀i,i<c.cells.size→(c.cells.getD i undef).oneCell'=true)∧∀(i:Nat) u,v.cells[i]? =some u→RepV w D h β u (c.cells.getD i undef):=by
 by_cases ha:v.isAgg=true
 ·cases v<;>simp[AV.isAgg]at ha
  rename_i cs
  cases hv with
  |fz _ _ hf=>
   cases hf with
   |agg _ c hl h2 hh=>exact⟨hl,h2,fun i u hu=> .fz _ _ (hh i u hu)⟩
  |agg _ c hl h2 hh=>exact⟨hl,h2,hh⟩
 ·have ho:v.one=true:=by cases v<;>first|exact h1|(simp[AV.isAgg]at ha)
  have hc:=hv.one_of ho
  have e1:c.cells= #[c]:=by cases c<;>first|rfl|(simp[Value.oneCell']at hc)
  have e2:v.cells=[v]:=by cases v<;>first|rfl|(simp[AV.isAgg]at ha)
  rw[e1,e2]
  refine⟨rfl,fun i hi=>?_,fun i u hu=>?_⟩
  ·obtain rfl:i=0:=by simpa using hi
   exact hc
  ·cases i with
   |zero=>simp at hu;subst hu;exact hv
   |succ i=>simp at hu
theorem RepV.toF:∀{v:AV} {c:Value},RepV w D h β v c→v.nokey=true→RepF w D v c:=by
 intro v c hv
 induction hv with
 |fz _ _ hf=>exact fun _=>hf
 |agg cs c hl h1 _ ih=>exact fun hk=> .agg cs c hl h1 fun i v hi=>ih i v hi (nokeys_at (by simpa [AV.nokey]using hk) hi)
 |_=>intro hk;simp[AV.nokey]at hk
def Row (w:World) (D:Nat→Prop) (h:Heap) (β:Map) (row:List AV) (b o:Nat):Prop:=
 ∀(j:Nat) u,row[j]? =some u→∃c,w.cell? ⟨b,o+j,none⟩=some c∧c.oneCell'=true∧RepV w D h β u c
theorem cell_of_heap {b:Nat} {c:Array Value} {el:Nat} {fr:Nat×Nat} (hb:w.heap[b]? =some (.cells c el fr)) (j:Nat):w.cell? ⟨b,j,none⟩=c[j]? :=by simp[World.cell?,hb]
theorem row_box {X:Nat→Prop} (H:HOK X h β w) {k off:Nat} {cs:List AV} (hk:h k=some (.box cs)) {i:Nat} {c:Value} (hv:RepV w D h β (.ptr k i off) c):
  ∃b,c= .pointer (some ⟨b,off,none⟩)∧i=0∧Row w (Dom X β) h β cs b 0:=by
 cases hv with
 |fz _ _ hf=>cases hf
 |dptr _ _ _ _ hd _=>rw[hk]at hd;cases hd
 |parr _ _ _ _ _ _ _ _ hd _ _ _=>rw[hk]at hd;cases hd
 |pbox _ _ cs' b n hk' hb=>
  obtain⟨b',c,el,h1,h2,h3,h4,h5⟩:=H.ent k _ hk
  rw[h1]at hb
  simp at hb
  obtain⟨rfl,rfl⟩:=hb
  refine⟨b,rfl,rfl,fun j u hu=>?_⟩
  have hj:j<c.size:=by rw[h3];exact(List.getElem?_eq_some_iff.1 hu).1
  exact⟨c.getD j undef,by rw[cell_of_heap h2,Nat.zero_add];exact getD_eq c j hj,h4 j hj,h5 j u hu⟩
theorem row_arr {X:Nat→Prop} (H:HOK X h β w) {k i off sz:Nat} {xs:List AV} {st:Fl} (hk:h k=some (.arr sz xs st)) {x:AV} (hx:xs[i]? =some x) {c:Value} (hv:RepV w D h β (.ptr k i off) c):
  ∃b n,c= .pointer (some ⟨b,i*sz+off,none⟩)∧(b,n)∈β k∧off<sz∧x.cells.length=sz∧Row w (Dom X β) h β x.cells b (i*sz):=by
 cases hv with
 |fz _ _ hf=>cases hf
 |dptr _ _ _ _ hd _=>rw[hk]at hd;cases hd
 |pbox _ _ _ _ _ hd _=>rw[hk]at hd;cases hd
 |parr _ _ _ sz' xs' st' b n hk' hb hi ho=>
  rw[hk]at hk'
  cases hk'
  obtain⟨_,_,_,hw,_,f,h6,h7,h8⟩:=H.ent k _ hk
  obtain⟨c,el,h9,_,h11,_⟩:=h8 b n hb
  have hsz:=hw i x hx
  refine⟨b,n,rfl,hb,ho,hsz,fun j u hu=>?_⟩
  have hj:j<sz:=by rw[←hsz];exact(List.getElem?_eq_some_iff.1 hu).1
  exact⟨f i j,by rw[cell_of_heap h9];exact h11 i j hi hj,h7 i j (List.getElem?_eq_some_iff.1 hx).1 hj,h6.toV i x j u hx hu⟩
theorem row_arrn {X:Nat→Prop} (H:HOK X h β w) {k i off sz:Nat} {xs:List AV} {st:Fl} (hk:h k=some (.arr sz xs st)) {x:AV} (hx:xs[i]? =some x) {c:Value} (hv:RepV w D h β (.ptr k i off) c):
  ∃b n,c= .pointer (some ⟨b,i*sz+off,none⟩)∧(b,n)∈β k∧off<sz∧x.cells.length=sz∧Row w (Dom X β) h β x.cells b (i*sz)∧i<n:=by
 cases hv with
 |fz _ _ hf=>cases hf
 |dptr _ _ _ _ hd _=>rw[hk]at hd;cases hd
 |pbox _ _ _ _ _ hd _=>rw[hk]at hd;cases hd
 |parr _ _ _ sz' xs' st' b n hk' hb hi ho=>
  rw[hk]at hk'
  cases hk'
  obtain⟨_,_,_,hw,_,f,h6,h7,h8⟩:=H.ent k _ hk
  obtain⟨c,el,h9,_,h11,_⟩:=h8 b n hb
  have hsz:=hw i x hx
  refine⟨b,n,rfl,hb,ho,hsz,fun j u hu=>?_,hi⟩
  have hj:j<sz:=by rw[←hsz];exact(List.getElem?_eq_some_iff.1 hu).1
  exact⟨f i j,by rw[cell_of_heap h9];exact h11 i j hi hj,h7 i j (List.getElem?_eq_some_iff.1 hx).1 hj,h6.toV i x j u hx hu⟩
theorem row_fp {xs:List AV} {i off:Nat} {x:AV} (hx:xs[i]? =some x) {c:Value} (hv:RepV w D h β (.fp xs i off) c):
  ∃b o,c= .pointer (some ⟨b,o+off,none⟩)∧off<x.cells.length∧Row w D h β x.cells b o:=by
 cases hv with
 | fz _ _ hf=>
  cases hf with
  |fp _ b o sz _ _ f hL hi ho hh=>
   have hsz:=hL.wide i x hx
   refine⟨b,o+i*sz,rfl,by omega,fun j u hu=>?_⟩
   have hj:j<sz:=by rw[←hsz];exact(List.getElem?_eq_some_iff.1 hu).1
   exact⟨f i j,hL.cell i j hi hj,hL.one i j hi hj,.fz _ _ (hh i x j u hx hu)⟩
end
def ldv (agg:Bool) (n:Nat) (row:List AV) (off:Nat):Option AV:=
 bif agg then(bif Nat.ble (off+n) row.length then some (.agg ((row.drop off).take n))else none)else row[off]?
theorem run_ld {P:Program} {TT:List TI} (hP:TOK P TT) {T:Nat} {ti:TI} (hT:TT[T]? =some ti) {w:World} {D:Nat→Prop} {h:Heap} {β:Map} {row:List AV} {b o off:Nat} (hR:Row w D h β row b o) {v:AV}
  (hv:ldv ti.d.agg ti.size row off=some v):∃c,(loadVar T ⟨b,o+off,none⟩).run P w= .ok c w∧RepV w D h β v c:=by
 have ha:=run_agg (hP _ _ hT) w
 have hs:=run_size (hP _ _ hT) w
 unfold ldv at hv
 have hadd:∀j,(⟨b,o+off,none⟩:Addr).add j=⟨b,o+(off+j),none⟩:=fun j=>by unfold Addr.add;split<;>simp_all<;>omega
 cases hb:ti.d.agg with
 |false=>
  simp only[hb,cond_false]at hv
  obtain⟨c,h1,_,h3⟩:=hR off v hv
  exact⟨c,by simp[loadVar,ha,hb,h1],h3⟩
 | true=>
  simp only[hb,cond_true]at hv
  cases hle:Nat.ble (off+ti.size) row.length with
  |false=>simp[hle]at hv
  | true=>
   have hle':=Nat.le_of_ble_eq_true hle
   simp only[hle,cond_true,Option.some.injEq]at hv
   subst hv
   have hc:∀j,∃c,j<ti.size→∃u,row[off+j]? =some u∧w.cell? ((⟨b,o+off,none⟩:Addr).add j)=some c∧c.oneCell'=true∧RepV w D h β u c:=fun j=>by
    by_cases hj:j<ti.size
    ·obtain⟨u,hu⟩:∃u,row[off+j]? =some u:=⟨row[off+j],by simp⟩
     obtain⟨c,h1,h2,h3⟩:=hR (off+j) u hu
     exact⟨c,fun _=>⟨u,hu,by rw[hadd];exact h1,h2,h3⟩⟩
    ·exact⟨undef,fun h=>absurd h hj⟩
   obtain⟨f,hf⟩:∃f:Nat→Value,∀j,j<ti.size→∃u,row[off+j]? =some u∧w.cell? ((⟨b,o+off,none⟩:Addr).add j)=some (f j)∧(f j).oneCell'=true∧RepV w D h β u (f j):=
    ⟨fun j=>(hc j).choose,fun j hj=>(hc j).choose_spec hj⟩
   have hl:=run_loadCells (P:=P) w ⟨b,o+off,none⟩ ti.size f fun j hj=>(hf j hj).choose_spec.2.1
   have hat:∀i,i<ti.size→(((List.range ti.size).map f).toArray).getD i undef=f i:=fun i hi=>getD_of (by simp[hi])
   refine⟨.agg ((List.range ti.size).map f).toArray,by simp[loadVar,ha,hb,hs,hl],.agg _ _ (by simp;omega) (fun i hi=>?_) fun i u hu=>?_⟩
   ·have hi':i<ti.size:=by simpa using hi
    rw[hat i hi']
    exact(hf i hi').choose_spec.2.2.1
   ·rw[List.getElem?_take]at hu
    split at hu
    ·rename_i hi
     rw[hat i hi]
     obtain⟨u',h1,_,_,h3⟩:=hf i hi
     rw[List.getElem?_drop,h1]at hu
     cases hu
     exact h3
    ·cases hu
section ops
variable {P:Program} {TT:List TI} {st:St} (hP:TOK P TT)
theorem stp_box {T:Nat} {x:Operand} {v:AV} (k:Nat) (hx:opv (look st.tm) x=v) (h1:v.ok=true):Stp P st (.box T x) (.ptr k 0 0) [(k,.box v.cells)] [] [k]:=by
 refine⟨?_⟩
 intro X tm h hg _ hn o a w β ho HH Ht
 obtain⟨dst,op',type,pos,after,guard⟩:=o
 dsimp only at ho;subst ho
 obtain⟨hl,ho,hv⟩:=(arg Ht hg (x:=x) (by simp[Op.operands]) hx).cells h1
 obtain⟨β',G,hp⟩:=Goes.newBox HH (hn k (by simp)) (a.eval x).cells T v.cells hl ho hv
 have hr:(execOp a.eval ⟨dst,.box T x,type,pos,after,guard⟩).run P w= .ok (.value (.pointer (some ⟨w.heap.size,0,none⟩))) (w.alloc (.cells (a.eval x).cells T)):=by
  simp[execOp,Instr.box,newVar,newRow]
 rw[hr]
 exact⟨β',G,hp⟩
include hP in
theorem stp_alloc {T:Nat} {ti:TI} (k:Nat) (hT:TT[T]? =some ti) (h1:ti.zero.all (·.oneCell')=true):Stp P st (.alloc T) (.ptr k 0 0) [(k,.box (ti.zero.map .s))] [] [k]:=by
 refine⟨?_⟩
 intro X tm h hg _ hn o a w β ho HH Ht
 obtain⟨dst,op',type,pos,after,guard⟩:=o
 dsimp only at ho;subst ho
 obtain⟨z,hz,hzz⟩:=run_zero (hP _ _ hT) w
 obtain⟨β',G,hp⟩:=Goes.newBox HH (hn k (by simp)) z.cells T (ti.zero.map .s) (by simp[←hzz]) (fun i hi=>by
   have:=List.all_eq_true.1 h1 (z.cells.getD i undef) (by rw[←hzz];exact List.mem_of_getElem? (by simpa using getD_eq _ i hi))
   exact this) (fun i v hv=>by
   simp only[List.getElem?_map,Option.map_eq_some_iff]at hv
   obtain⟨u,hu,rfl⟩:=hv
   rw[←hzz]at hu
   rw[getD_of (by simpa using hu)]
   exact .fz _ _ (.s _))
 have hr:(execOp a.eval ⟨dst,.alloc T,type,pos,after,guard⟩).run P w= .ok (.value (.pointer (some ⟨w.heap.size,0,none⟩))) (w.alloc (.cells z.cells T)):=by
  simp[execOp,Instr.alloc,hz,newVar,newRow]
 rw[hr]
 exact⟨β',G,hp⟩
include hP in
theorem stp_load_box {T:Nat} {x:Operand} {k off:Nat} {cs:List AV} {v:AV} {ti:TI} (hx:opv (look st.tm) x= .ptr k 0 off) (hk:lookE st.h k=some (.box cs)) (hT:TT[T]? =some ti)
  (hv:ldv ti.d.agg ti.size cs off=some v):Stp P st (.load T x) v [] [k] []:=
 stp_val fun o X tm h w β a ho hg hr HH Ht=>by
  obtain⟨dst,op',type,pos,after,guard⟩:=o
  dsimp only at ho;subst ho
  have h1:=arg Ht hg (x:=x) (by simp[Op.operands]) hx
  have hk':=(hr k (by simp)).trans hk
  obtain⟨b,hc,_,hR⟩:=row_box HH hk' h1
  obtain⟨c,h2,h3⟩:=run_ld hP hT hR hv
  rw[Nat.zero_add]at h2
  exact⟨c,by simp[execOp,Instr.loadAt,hc,Instr.sureAddr,h2],h3⟩
include hP in
theorem stp_load_arr {T:Nat} {x:Operand} {k i off sz:Nat} {xs:List AV} {sl:Fl} {y v:AV} {ti:TI} (hx:opv (look st.tm) x= .ptr k i off) (hk:lookE st.h k=some (.arr sz xs sl)) (hy:xs[i]? =some y) (hT:TT[T]? =some ti)
  (hv:ldv ti.d.agg ti.size y.cells off=some v):Stp P st (.load T x) v [] [k] []:=
 stp_val fun o X tm h w β a ho hg hr HH Ht=>by
  obtain⟨dst,op',type,pos,after,guard⟩:=o
  dsimp only at ho;subst ho
  have h1:=arg Ht hg (x:=x) (by simp[Op.operands]) hx
  have hk':=(hr k (by simp)).trans hk
  obtain⟨b,n,hc,_,_,_,hR⟩:=row_arr HH hk' hy h1
  obtain⟨c,h2,h3⟩:=run_ld hP hT hR hv
  exact⟨c,by simp[execOp,Instr.loadAt,hc,Instr.sureAddr,h2],h3⟩
include hP in
theorem stp_load_fp {T:Nat} {x:Operand} {i off:Nat} {xs:List AV} {y v:AV} {ti:TI} (hx:opv (look st.tm) x= .fp xs i off) (hy:xs[i]? =some y) (hT:TT[T]? =some ti)
  (hv:ldv ti.d.agg ti.size y.cells off=some v):Stp P st (.load T x) v [] [] []:=
 stp_val fun o X tm h w β a ho hg hr HH Ht=>by
  obtain⟨dst,op',type,pos,after,guard⟩:=o
  dsimp only at ho;subst ho
  have h1:=arg Ht hg (x:=x) (by simp[Op.operands]) hx
  obtain⟨b,o,hc,_,hR⟩:=row_fp hy h1
  obtain⟨c,h2,h3⟩:=run_ld hP hT hR hv
  exact⟨c,by simp[execOp,Instr.loadAt,hc,Instr.sureAddr,h2],h3⟩
end ops
theorem run_st {P:Program} {TT:List TI} (hP:TOK P TT) {T:Nat} {ti:TI} (hT:TT[T]? =some ti) {w:World} {b:Nat} {c:Array Value} {el:Nat} (hb:w.heap[b]? =some (.cells c el (0,0))) {off:Nat} {x:Value} (hn:x.cells.size=ti.size)
  (ho:off+ti.size≤c.size) (h1:∀i,i<x.cells.size→(x.cells.getD i undef).oneCell'=true):
  ∃c':Array Value,(storeVar T ⟨b,off,none⟩ x).run P w= .ok () (w.setRow b c')∧c'.size=c.size∧∀j,c'.getD j undef=if off≤j∧j<off+ti.size then x.cells.getD (j-off) undef else c.getD j undef:=by
 have hs:=run_size (hP _ _ hT) w
 have hst:=run_storeCells_at P b off el x.cells.toList 0 c w hb (by simp;omega) (fun v hv=>by
  obtain⟨i,hi,rfl⟩:=List.getElem_of_mem hv
  have:=h1 i (by simpa using hi)
  simpa [Array.getD_eq_getD_getElem?,show i<x.cells.size by simpa using hi]using this)
 refine⟨_,by simp only[storeVar,Sem.run_bind,hs,Result.andThen_ok,hn,ne_eq,not_true_eq_false,if_false,hst];rfl,?_,fun j=>?_⟩
 ·simp;omega
 ·simp only[Nat.add_zero,Array.length_toList,hn,Array.getD_eq_getD_getElem?,List.getElem?_toArray]
  by_cases h2:off≤j∧j<off+ti.size
  ·rw[if_pos h2,List.getElem?_append_left (by simp;omega),List.getElem?_append_right (by simp;omega)]
   simp[show min off c.size=off by omega]
  ·rw[if_neg h2]
   by_cases h3:j<off
   ·rw[List.getElem?_append_left (by simp;omega),List.getElem?_append_left (by simp;omega),List.getElem?_take,if_pos h3]
    simp
   ·rw[List.getElem?_append_right (by simp;omega),List.getElem?_drop]
    have e:off+ti.size+(j-(List.take off c.toList++x.cells.toList).length)=j:=by simp[hn];omega
    rw[e]
    simp
theorem bsize_setRow {w:World} {b:Nat} {c c':Array Value} {el:Nat} {fr:Nat×Nat} (hb:w.heap[b]? =some (.cells c el fr)) (hs:c'.size=c.size) (j:Nat):bsize (w.setRow b c') j=bsize w j:=by
 unfold bsize World.shape?
 by_cases h:j=b
 ·subst h;rw[setRow_heap w _ _ _ _ _ hb,hb];simp[hs]
 ·rw[setRow_other w b j c' h]
section ops
variable {P:Program} {TT:List TI} {st:St} (hP:TOK P TT)
include hP in
theorem stp_store_box {T:Nat} {p x:Operand} {k off:Nat} {cs:List AV} {v:AV} {ti:TI} (hp:opv (look st.tm) p= .ptr k 0 off) (hx:opv (look st.tm) x=v) (hk:lookE st.h k=some (.box cs)) (hT:TT[T]? =some ti)
  (h1:v.ok=true) (h2:Nat.beq v.cells.length ti.size=true) (h3:Nat.ble (off+ti.size) cs.length=true):Stp P st (.store T p x) .bot [(k,.box (setL cs off v.cells))] [k] []:=by
 refine⟨?_⟩
 intro X tm h hg hr _ o a w β ho HH Ht
 obtain⟨dst,op',type,pos,after,guard⟩:=o
 dsimp only at ho;subst ho
 have hk':=(hr k (by simp)).trans hk
 have h2:=Nat.eq_of_beq_eq_true h2
 have h3:=Nat.le_of_ble_eq_true h3
 have hp':=arg Ht hg (x:=p) (by simp[Op.operands]) hp
 obtain⟨hl,hon,hv⟩:=(arg Ht hg (x:=x) (by simp[Op.operands]) hx).cells h1
 obtain⟨b,c,el,e1,e2,e3,e4,e5⟩:=HH.ent k _ hk'
 obtain⟨b',hc,_,_⟩:=row_box HH hk' hp'
 obtain rfl:b'=b:=by
  generalize a.eval p=cp at*
  cases hp' with
  |fz _ _ hf=>cases hf
  |dptr _ _ _ _ hd _=>rw[hk']at hd;cases hd
  |parr _ _ _ _ _ _ _ _ hd _ _ _=>rw[hk']at hd;cases hd
  |pbox _ _ cs' b'' n hk'' hb=>
   rw[e1]at hb
   simp at hb
   simp at hc
   rw[←hc,hb.1]
 obtain⟨c',hrun,hsz,hat⟩:=run_st hP hT e2 (off:=off) (x:=a.eval x) (by omega) (by omega) hon
 have hr:(execOp a.eval ⟨dst,.store T p x,type,pos,after,guard⟩).run P w= .ok .skip (w.setRow b' c'):=by
  simp[execOp,Instr.storeAt,hc,Instr.sureAddr,hrun]
 rw[hr]
 refine⟨upd β k (β k),Goes.step HH k _ _ (by simp) (fun j hj hn=>setRow_other w b' j c' (fun e=>hn 0 (by rw[e1,e];simp))) rfl rfl rfl (fun b n hm=> .inl ⟨n,hm⟩) (fun b n _=>bsize_setRow e2 hsz b)
  (fun e he=>by rw[hk']at he;cases he;exact .inr ⟨⟨_,rfl⟩,fun _ _ hm=>hm⟩) fun E=>⟨b',c',el,by rw[upd_same];exact e1,setRow_heap w _ _ _ _ _ e2,by rw[setL_length];omega,fun i hi=>?_,fun i u hu=>?_⟩,.fz _ _ (.bot _)⟩
 ·rw[hat]
  split
  ·exact hon _ (by omega)
  ·exact e4 i (by omega)
 ·rw[setL_at _ _ _ _ (by omega)]at hu
  rw[hat]
  rw[h2]at hu
  split
  ·rename_i hi
   rw[if_pos hi]at hu
   exact(hv _ u hu).evo E
  ·rename_i hi
   rw[if_neg hi]at hu
   exact(e5 i u hu).evo E
def putc (x:AV) (off:Nat) (cs:List AV):AV:=match x with
 | .agg ds=> .agg (setL ds off cs)
 |_=>match cs with
  | [v]=>v
  |_=> .bot
theorem putc_cells {x:AV} {off:Nat} {cs:List AV} (h:off+cs.length≤x.cells.length) (h0:1≤cs.length) (hg:cs.all (fun v=>!v.isAgg)=true):(putc x off cs).cells=setL x.cells off cs:=by
  cases x<;>first
    |rfl
    | (simp only[AV.cells,List.length_cons,List.length_nil]at h
       match cs,h0,h,hg with
       | [v],_,h,hg=>
         simp at hg h
         subst h
         cases v<;>first|rfl|(simp[AV.isAgg]at hg))
include hP in
theorem stp_store_arr {T:Nat} {p x:Operand} {k i off sz:Nat} {xs:List AV} {y v:AV} {ti:TI} {nest:Bool} (hp:opv (look st.tm) p= .ptr k i off) (hx:opv (look st.tm) x=v) (hk:lookE st.h k=some (.arr sz xs ⟨false,nest⟩)) (hy:xs[i]? =some y) (hT:TT[T]? =some ti)
  (h1:v.ok=true) (h2:Nat.beq v.cells.length ti.size=true) (h3:Nat.ble (off+ti.size) y.cells.length=true) (h4:(nest||v.nokey)=true) (h5:Nat.ble 1 ti.size=true) (h6:v.cells.all (fun v=>!v.isAgg)=true):
  Stp P st (.store T p x) .bot [(k,.arr sz (xs.set i (putc y off v.cells)) ⟨false,nest⟩)] [k] []:=by
 refine⟨?_⟩
 intro X tm h hg hr _ o a w β ho HH Ht
 obtain⟨dst,op',type,pos,after,guard⟩:=o
 dsimp only at ho;subst ho
 have hk':=(hr k (by simp)).trans hk
 have h2:=Nat.eq_of_beq_eq_true h2
 have h3:=Nat.le_of_ble_eq_true h3
 have h5:=Nat.le_of_ble_eq_true h5
 have hp':=arg Ht hg (x:=p) (by simp[Op.operands]) hp
 have hxv:=arg Ht hg (x:=x) (by simp[Op.operands]) hx
 obtain⟨hl,hon,hv⟩:=hxv.cells h1
 have hvF:nest=false→∀(j:Nat) u,v.cells[j]? =some u→RepF w (Dom X β) u ((a.eval x).cells.getD j undef):=fun hn j u hu=>(hv j u hu).toF (by
  rw[hn,Bool.false_or]at h4
  cases v<;>first
   |(simp[AV.cells]at hu;cases j<;>simp at hu;subst hu;exact h4)
   |(exact nokeys_at (by simpa [AV.nokey,AV.cells]using h4) hu))
 obtain⟨b,n,hc,hm,hof,hyl,_,hni⟩:=row_arrn HH hk' hy hp'
 obtain⟨g1,g2,g3,g4,g5,f,g6,g7,g8⟩:=HH.ent k _ hk'
 have hi:i<xs.length:=(List.getElem?_eq_some_iff.1 hy).1
 obtain⟨rr,hbk,hnx,hr0⟩:∃rr,β k=(b,n)::rr∧n=xs.length∧∀b' n',(b',n')∈rr→n'=0:=by
  cases hbk:β k with
  |nil=>rw[hbk]at hm;simp at hm
  |cons q r=>
   obtain⟨b0,n0⟩:=q
   obtain⟨e1,e2,_⟩:=g5 b0 n0 r hbk
   have e2:=e2 rfl
   rw[hbk]at hm
   simp at hm
   rcases hm with⟨rfl,rfl⟩|hm
   ·exact⟨r,rfl,e1,e2⟩
   ·have:=e2 b n hm;omega
 subst hnx
 obtain⟨c,el,e2,e3,e4,e5⟩:=g8 b _ hm
 have hmul:i*sz+sz≤xs.length*sz:=by
  have:=Nat.mul_le_mul_right sz (show i+1≤xs.length by omega)
  rwa [Nat.add_mul,Nat.one_mul]at this
 obtain⟨c',hrun,hsz,hat⟩:=run_st hP hT e2 (off:=i*sz+off) (x:=a.eval x) (by omega) (by omega) hon
 have hr:(execOp a.eval ⟨dst,.store T p x,type,pos,after,guard⟩).run P w= .ok .skip (w.setRow b c'):=by
  simp[execOp,Instr.storeAt,hc,Instr.sureAddr,hrun]
 rw[hr]
 have hpc:=putc_cells (x:=y) (off:=off) (cs:=v.cells) (by omega) (by omega) h6
 have hlen:(xs.set i (putc y off v.cells)).length=xs.length:=by simp
 have hget:∀(i':Nat) (x':AV),(xs.set i (putc y off v.cells))[i']? =some x'→(i'=i∧x'=putc y off v.cells)∨(i'≠i∧xs[i']? =some x'):=by
  intro i' x' hx'
  by_cases hii:i'=i
  ·subst hii
   rw[List.getElem?_set_self hi]at hx'
   exact .inl ⟨rfl,(Option.some.inj hx').symm⟩
  ·rw[List.getElem?_set_ne (fun e=>hii e.symm)]at hx'
   exact .inr ⟨hii,hx'⟩
 let f':Nat→Nat→Value:=fun i' j=>if i'=i∧off≤j∧j<off+ti.size then(a.eval x).cells.getD (j-off) undef else f i' j
 refine⟨upd β k (β k),Goes.step HH k _ _ (by simp) (fun j hj hn=>setRow_other w b j c' (fun e=>hn xs.length (by rw[hbk,e];simp))) rfl rfl rfl (fun b n hm=> .inl ⟨n,hm⟩) (fun b n _=>bsize_setRow e2 hsz b)
  (fun e he=>by rw[hk']at he;cases he;exact .inr ⟨⟨_,_,rfl,by simp⟩,fun _ n hm=>⟨n,Nat.le_refl _,hm⟩⟩) fun E=>⟨g1,by simpa using g2,fun _=>by rw[upd_same,hbk];simp,fun i' x' hx'=>?_,fun b' n' r hb'=>?_,f',fun i' x' j u hx' hu=>?_,fun i' j hi' hj=>?_,fun b' n' hb'=>?_⟩,.fz _ _ (.bot _)⟩
 ·rcases hget i' x' hx' with⟨_,rfl⟩|⟨_,h⟩
  ·rw[hpc,setL_length];exact hyl
  ·exact g4 i' x' h
 ·rw[upd_same,hbk]at hb'
  simp at hb'
  obtain⟨⟨rfl,rfl⟩,rfl⟩:=hb'
  refine⟨by simp,fun _=>hr0,fun b' n' hm=>by have:=hr0 b' n' hm;simp;omega⟩
 ·rcases hget i' x' hx' with⟨rfl,rfl⟩|⟨hii,h⟩
  ·rw[hpc,setL_at _ _ _ _ (by omega)]at hu
   simp only[f',true_and]
   rw[h2]at hu
   split
   ·rename_i hj
    rw[if_pos hj]at hu
    exact⟨(hv _ u hu).evo E,fun hn=>(hvF hn _ u hu).evo E.size E.fz⟩
   ·rename_i hj
    rw[if_neg hj]at hu
    exact⟨(g6 i' y j u hy hu).1.evo E,fun hn=>((g6 i' y j u hy hu).2 hn).evo E.size E.fz⟩
  ·simp only[f',hii,false_and,if_false]
   exact⟨(g6 i' x' j u h hu).1.evo E,fun hn=>((g6 i' x' j u h hu).2 hn).evo E.size E.fz⟩
 ·simp only[f']
  split
  ·exact hon _ (by omega)
  ·exact g7 i' j (by simpa using hi') hj
 ·have hone2:∀q,q<c'.size→(c'.getD q undef).oneCell'=true:=fun q hq=>by
   rw[hat]
   split
   ·exact hon _ (by omega)
   ·exact e5 q (by omega)
  rw[upd_same,hbk]at hb'
  simp at hb'
  rcases hb' with⟨rfl,rfl⟩|hb'
  case inr=>
   obtain rfl:=hr0 b' n' hb'
   by_cases hbb:b'=b
   ·subst hbb
    exact⟨c',el,setRow_heap w _ _ _ _ _ e2,by omega,fun i' j hi' _=>by omega,hone2⟩
   ·obtain⟨c2,el2,q1,q2,_,q4⟩:=g8 b' 0 (by rw[hbk];simp[hb'])
    exact⟨c2,el2,(setRow_other w b b' c' hbb).trans q1,q2,fun i' j hi' _=>by omega,q4⟩
  refine⟨c',el,setRow_heap w _ _ _ _ _ e2,by omega,fun i' j hi' hj=>?_,hone2⟩
  have hlt:i'*sz+j<c'.size:=by
   have:=Nat.mul_le_mul_right sz (show i'+1≤xs.length by omega)
   rw[Nat.add_mul,Nat.one_mul]at this
   omega
  rw[getD_eq c' _ hlt,hat]
  congr 1
  have hiff:(i*sz+off≤i'*sz+j∧i'*sz+j<i*sz+off+ti.size)↔(i'=i∧off≤j∧j<off+ti.size):=by
   constructor
   ·rintro⟨q1,q2⟩
    have hii:i'=i:=by
     rcases Nat.lt_trichotomy i' i with h|h|h
     ·have:=Nat.mul_le_mul_right sz (show i'+1≤i by omega)
      rw[Nat.add_mul,Nat.one_mul]at this
      omega
     ·exact h
     ·have:=Nat.mul_le_mul_right sz (show i+1≤i' by omega)
      rw[Nat.add_mul,Nat.one_mul]at this
      omega
    subst hii
    exact⟨rfl,by omega,by omega⟩
   ·rintro⟨rfl,q1,q2⟩
    omega
  simp only[f',hiff]
  split
  ·rename_i hq
   obtain⟨rfl,q1,q2⟩:=hq
   congr 1
   omega
  ·exact getD_of (e4 i' j hi' hj)
end ops
end Av
end Go.Proofs.YtaikgchmpieooaaGreat
