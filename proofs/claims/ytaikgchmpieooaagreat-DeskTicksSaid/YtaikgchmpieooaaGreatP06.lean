/- Part 6: contracts of the functions, and what they rest upon. -/
import Derived.Test.YtaikgchmpieooaaGreatP05
import Derived.Great.FillDense
import Derived.Laws.Tables
import Derived.Laws.MakeOwn
namespace Go.Proofs.YtaikgchmpieooaaGreat
namespace Av
set_option linter.unusedSimpArgs false
set_option linter.unusedVariables false
def fillA (places:Nat→Option (Nat×Nat)):List AV→List (Nat×AV)→Option (List AV)
 |cells,[]=>some cells
 |cells,(i,v)::rest=>match places i with
  |none=>none
  |some (off,size)=>bif Nat.beq v.cells.length size&&(Nat.ble (off+size) cells.length&&v.ok)then fillA places (setL cells off v.cells) rest else none
theorem fill_rep {w:World} {D:Nat→Prop} {h:Heap} {β:Map} (places:Nat→Option (Nat×Nat)):∀(parts:List (Nat×AV)) (parts':List (Nat×Value)) (cs:List AV) (c:Array Value) (cs':List AV),fillA places cs parts=some cs'→
  parts'.length=parts.length→(∀(j:Nat) p p',parts[j]? =some p→parts'[j]? =some p'→p'.1=p.1∧RepV w D h β p.2 p'.2)→
  c.size=cs.length→(∀i,i<c.size→(c.getD i undef).oneCell'=true)→(∀(i:Nat) u,cs[i]? =some u→RepV w D h β u (c.getD i undef))→
  ∃c',Instr.fill places c parts'=some c'∧c'.size=cs'.length∧(∀i,i<c'.size→(c'.getD i undef).oneCell'=true)∧∀(i:Nat) u,cs'[i]? =some u→RepV w D h β u (c'.getD i undef)
 | [],parts',cs,c,cs',hf,hl,_,h1,h2,h3=>by
  obtain rfl:parts'=[]:=List.eq_nil_of_length_eq_zero (by simpa using hl)
  cases hf
  exact⟨c,rfl,h1,h2,h3⟩
 | (i, v)::rest,parts',cs,c,cs',hf,hl,hp,h1,h2,h3=>by
  cases parts' with
  |nil=>simp at hl
  | cons p' rest'=>
   obtain⟨e1,e2⟩:=hp 0 (i,v) p' rfl rfl
   obtain⟨i',v'⟩:=p'
   dsimp only at e1 e2
   subst e1
   unfold fillA at hf
   cases hpl:places i' with
   |none=>simp[hpl]at hf
   | some q=>
    obtain⟨off,size⟩:=q
    simp only[hpl]at hf
    cases hc:Nat.beq v.cells.length size&&(Nat.ble (off+size) cs.length&&v.ok)with
    |false=>simp[hc]at hf
    | true=>
     simp only[hc,cond_true]at hf
     simp only[Bool.and_eq_true]at hc
     have q1:=Nat.eq_of_beq_eq_true hc.1
     have q2:=Nat.le_of_ble_eq_true hc.2.1
     obtain⟨r1,r2,r3⟩:=e2.cells hc.2.2
     obtain⟨s1,s2⟩:=Great.foldl_set off v'.cells.toList 0 c
     have hfold:v'.cells.zipIdx.foldl (fun cs (x:Value×Nat)=>cs.setIfInBounds (off+x.2) x.1) c=(v'.cells.toList.zipIdx 0).foldl (fun cs (x:Value×Nat)=>cs.setIfInBounds (off+x.2) x.1) c:=by
      rw[←Array.foldl_toList,Array.toList_zipIdx]
     generalize hc2:(v'.cells.toList.zipIdx 0).foldl (fun cs (x:Value×Nat)=>cs.setIfInBounds (off+x.2) x.1) c=c2 at*
     have hat:∀k,c2.getD k undef=if off≤k∧k<off+size then v'.cells.getD (k-off) undef else c.getD k undef:=fun k=>by
      have hk:=s2 k
      simp only[Nat.add_zero,Array.length_toList]at hk
      by_cases hin:off≤k∧k<off+size
      ·rw[if_pos hin]
       rw[if_pos (by omega)]at hk
       apply getD_of
       rw[hk]
       have:=getD_eq v'.cells (k-off) (by omega)
       simpa using this
      ·rw[if_neg hin]
       rw[if_neg (by omega)]at hk
       simp[Array.getD_eq_getD_getElem?,hk]
     obtain⟨c',t1,t2,t3,t4⟩:=fill_rep places rest rest' (setL cs off v.cells) c2 cs' hf (by simpa using hl) (fun j p p' hj hj'=>hp (j+1) p p' (by simpa using hj) (by simpa using hj'))
      (by rw[s1,setL_length];exact h1) (fun k hk=>by
       rw[hat]
       split
       ·exact r2 _ (by omega)
       ·exact h2 k (by omega)) (fun k u hu=>by
       rw[setL_at _ _ _ _ (by omega),q1]at hu
       rw[hat]
       split
       ·rename_i hin
        rw[if_pos hin]at hu
        exact r3 _ u hu
       ·rename_i hin
        rw[if_neg hin]at hu
        exact h3 k u hu)
     refine⟨c',?_,t2,t3,t4⟩
     unfold Instr.fill
     simp only[hpl]
     rw[if_neg (by simp;omega),hfold]
     exact t1
def plOf (TT:List TI):List (Nat×Nat)→Option (List (Nat×Nat))
 | []=>some []
 |(o,t)::r=>match TT[t]?,plOf TT r with
  |some ti,some l=>some ((o,ti.size)::l)
  |_,_=>none
theorem plOf_run {P:Program} {TT:List TI} (hP:TOK P TT):∀(fs:List Field) (l:List (Nat×Nat)),plOf TT (fs.map fun f=>(f.offset,f.type))=some l→fs.mapM (fun f=>(P.info? f.type).map fun i=>(f.offset,i.size))=some l
 | [],l,h=>by simp[plOf]at h;simp[h]
 | f::fs,l,h=>by
  simp only[List.map_cons,plOf]at h
  cases ht:TT[f.type]? with
  |none=>simp[ht]at h
  | some ti=>
   cases hr:plOf TT (fs.map fun f=>(f.offset,f.type))with
   |none=>simp[ht,hr]at h
   |some l'=>
    simp[ht,hr]at h
    subst h
    obtain⟨i,_,_,hi,_,_,_,hs,_⟩:=tiOf_some (hP _ _ ht)
    simp[List.mapM_cons,hi,plOf_run hP fs l' hr,hs]
section ops
variable {P:Program} {TT:List TI} {st:St}
def prts (st:St) (ps:Array (Nat×Operand)):List (Nat×AV):=ps.toList.map fun p=>(p.1,opv (look st.tm) p.2)
theorem prts_rep {w:World} {D:Nat→Prop} {h:Heap} {β:Map} {op:Op} {tm:Nat→AV} {a:Act} (H:∀t,RepV w D h β (tm t) (a.eval (.tmp t))) (hg:∀t,t∈tmpsOf op→tm t=look st.tm t) {ps:Array (Nat×Operand)} (hps:∀p∈ps.toList,p.2∈op.operands)
  (j:Nat) (p:Nat×AV) (p':Nat×Value) (h1:(prts st ps)[j]? =some p) (h2:(ps.map fun x=>(x.1,a.eval x.2)).toList[j]? =some p'):p'.1=p.1∧RepV w D h β p.2 p'.2:=by
 simp only[prts,List.getElem?_map,Option.map_eq_some_iff]at h1
 obtain⟨q,hq,rfl⟩:=h1
 simp only[Array.toList_map,List.getElem?_map,hq,Option.map_some,Option.some.injEq]at h2
 subst h2
 exact⟨rfl,arg H hg (hps q (List.mem_of_getElem? hq)) rfl⟩
theorem zero_rep {w:World} {D:Nat→Prop} {h:Heap} {β:Map} (z:Value) (zs:List Value) (hz:z.cells.toList=zs) (h1:zs.all (·.oneCell')=true):
  z.cells.size=(zs.map AV.s).length∧(∀i,i<z.cells.size→(z.cells.getD i undef).oneCell'=true)∧∀(i:Nat) u,(zs.map AV.s)[i]? =some u→RepV w D h β u (z.cells.getD i undef):=by
 subst hz
 refine⟨by simp,fun i hi=>List.all_eq_true.1 h1 _ (List.mem_of_getElem? (by simpa using getD_eq _ i hi)),fun i u hu=>?_⟩
 simp only[List.getElem?_map,Option.map_eq_some_iff]at hu
 obtain⟨v,hv,rfl⟩:=hu
 rw[getD_of (by simpa using hv)]
 exact .fz _ _ (.s _)
theorem stp_build (hP:TOK P TT) {T:Nat} {ps:Array (Nat×Operand)} {ti:TI} {fs pl:List (Nat×Nat)} {cs:List AV} (hT:TT[T]? =some ti) (hd:ti.d= .str fs) (h1:ti.zero.all (·.oneCell')=true) (hpl:plOf TT fs=some pl)
  (hf:fillA (pl[·]?) (ti.zero.map .s) (prts st ps)=some cs):Stp P st (.build T ps) (.agg cs) [] [] []:=
 stp_val fun oo X tm h w β a ho hg hr HH Ht=>by
  obtain⟨dst,op',type,pos,after,guard⟩:=oo
  dsimp only at ho;subst ho
  obtain⟨i,u,z,hi,hu,hz,hd',_,_,hzz⟩:=tiOf_some (hP _ _ hT)
  obtain⟨fields,rfl,hm⟩:=td_str (hd'.symm.trans hd)
  have hpl':=plOf_run hP fields.toList pl (by rw[hm];exact hpl)
  obtain⟨z1,z2,z3⟩:=zero_rep (w:=w) (D:=Dom X β) (h:=h) (β:=β) z ti.zero hzz.symm h1
  obtain⟨c',f1,f2,f3,f4⟩:=fill_rep (w:=w) (D:=Dom X β) (h:=h) (β:=β) (pl[·]?) (prts st ps) (ps.map fun x=>(x.1,a.eval x.2)).toList _ _ cs hf (by simp[prts]) (prts_rep (op:= .build T ps) Ht hg fun p hp=>by
   simp only[Op.operands,List.mem_toArray]
   exact List.mem_map.2 ⟨p,hp,rfl⟩) z1 z2 z3
  have hb:P.built T (ps.map fun x=>(x.1,a.eval x.2)).toList=some c':=by
   simp only[Program.built,hi,hu,hz,hpl']
   simpa using f1
  exact⟨_,by simp only[execOp,Sem.run_bind,run_build w T _ c' hb,Result.andThen_ok,Sem.run_pure],.agg _ _ f2 f3 f4⟩
theorem stp_build_arr (hP:TOK P TT) {T n e:Nat} {ps:Array (Nat×Operand)} {ti te:TI} {cs:List AV} (hT:TT[T]? =some ti) (hd:ti.d= .arr n e) (he:TT[e]? =some te) (h1:ti.zero.all (·.oneCell')=true)
  (hf:fillA (fun i=>some (i*te.size,te.size)) (ti.zero.map .s) (prts st ps)=some cs):Stp P st (.build T ps) (.agg cs) [] [] []:=
 stp_val fun oo X tm h w β a ho hg hr HH Ht=>by
  obtain⟨dst,op',type,pos,after,guard⟩:=oo
  dsimp only at ho;subst ho
  obtain⟨i,u,z,hi,hu,hz,hd',_,_,hzz⟩:=tiOf_some (hP _ _ hT)
  obtain rfl:=td_arr (hd'.symm.trans hd)
  obtain⟨ie,_,_,hie,_,_,_,hse,_,_⟩:=tiOf_some (hP _ _ he)
  obtain⟨z1,z2,z3⟩:=zero_rep (w:=w) (D:=Dom X β) (h:=h) (β:=β) z ti.zero hzz.symm h1
  obtain⟨c',f1,f2,f3,f4⟩:=fill_rep (w:=w) (D:=Dom X β) (h:=h) (β:=β) (fun i=>some (i*te.size,te.size)) (prts st ps) (ps.map fun x=>(x.1,a.eval x.2)).toList _ _ cs hf (by simp[prts]) (prts_rep (op:= .build T ps) Ht hg fun p hp=>by
   simp only[Op.operands,List.mem_toArray]
   exact List.mem_map.2 ⟨p,hp,rfl⟩) z1 z2 z3
  have hb:P.built T (ps.map fun x=>(x.1,a.eval x.2)).toList=some c':=by
   simp only[Program.built,hi,hu,hz,hie,←hse]
   exact f1
  exact⟨_,by simp only[execOp,Sem.run_bind,run_build w T _ c' hb,Result.andThen_ok,Sem.run_pure],.agg _ _ f2 f3 f4⟩
theorem bsl_core (ne:Bool) (hP:TOK P TT) {T e len:Nat} {ps:Array (Nat×Operand)} {ti te:TI} {xs:List AV} (hT:TT[T]? =some ti) (hd:ti.d= .slice e) (he:TT[e]? =some te) (hp:Nat.ble 1 te.size=true) (hps:prts st ps=(xs.zipIdx 0).map fun x=>(x.2,x.1)) (hl:Nat.beq xs.length len=true)
  (hw:xs.all (fun x=>Nat.beq x.cells.length te.size&&(x.ok&&(ne||x.nokey)))=true) (hb:Nat.ble (len*te.size) 65536=true) (hzl:Nat.beq te.zero.length te.size=true):
  ∀ (o:Oper) (X:Nat→Prop) (tm:Nat→AV) (h:Heap) (w:World) (β:Map) (a:Act),o.op= .buildSlice T len ps→(∀t,t∈tmpsOf (.buildSlice T len ps)→tm t=look st.tm t)→(∀t,RepV w (Dom X β) h β (tm t) (a.eval (.tmp t)))→
   ∃(C:Array Value) (f:Nat→Nat→Value),(execOp a.eval o).run P w= .ok (.value (.slice (some ⟨w.heap.size,0,none⟩) xs.length xs.length)) (w.alloc (.cells C e))∧C.size=xs.length*te.size∧xs.length≤maxN∧xs.length=len∧
    (∀(i:Nat) (x:AV),xs[i]? =some x→x.cells.length=te.size)∧(∀i j,i<xs.length→j<te.size→C[i*te.size+j]? =some (f i j))∧(∀i j,i<xs.length→j<te.size→(f i j).oneCell'=true)∧
    ContOK w (Dom X β) h β ne xs f:=by
 intro o X tm h w β a ho hg Ht
 obtain⟨dst,op',type,pos,after,guard⟩:=o
 dsimp only at ho;subst ho
 have hp:=Nat.le_of_ble_eq_true hp
 have hl:=Nat.eq_of_beq_eq_true hl
 have hb:=Nat.le_of_ble_eq_true hb
 have hzl:=Nat.eq_of_beq_eq_true hzl
 subst hl
 obtain⟨i,z,hu,hi,hz,e1,e2,e3⟩:=slice_facts hP hT hd he
 have hxs:∀(j:Nat) (x:AV),xs[j]? =some x→x.cells.length=te.size∧x.ok=true∧(ne||x.nokey)=true:=fun j x hx=>by
  have:=List.all_eq_true.1 hw x (List.mem_of_getElem? hx)
  simp only[Bool.and_eq_true]at this
  exact⟨Nat.eq_of_beq_eq_true this.1,this.2⟩
 have hlen:ps.toList.length=xs.length:=by
  have:=congrArg List.length hps
  simpa [prts]using this
 let vs:List Value:=ps.toList.map fun p=>a.eval p.2
 have hvl:vs.length=xs.length:=by simp[vs];simpa using hlen
 have hpx:∀(j:Nat) (x:AV),xs[j]? =some x→∃p,ps.toList[j]? =some p∧p.1=j∧opv (look st.tm) p.2=x:=fun j x hx=>by
  have hj:=congrArg (·[j]?) hps
  simp only[prts,List.getElem?_map,List.getElem?_zipIdx,hx,Option.map_some,Nat.zero_add]at hj
  cases hpj:ps.toList[j]? with
  |none=>simp[hpj]at hj
  |some p=>
   simp only[hpj,Option.map_some,Option.some.injEq,Prod.mk.injEq]at hj
   exact⟨p,rfl,hj.1,hj.2⟩
 have hvs:∀(j:Nat) (x:AV),xs[j]? =some x→∃v,vs[j]? =some v∧RepV w (Dom X β) h β x v:=fun j x hx=>by
  obtain⟨p,hp1,_,hp3⟩:=hpx j x hx
  refine⟨a.eval p.2,by simp only[vs,List.getElem?_map,hp1,Option.map_some],arg (op:= .buildSlice T xs.length ps) Ht hg ?_ hp3⟩
  simp only[Op.operands,List.mem_toArray]
  exact List.mem_map.2 ⟨p,List.mem_of_getElem? hp1,rfl⟩
 have hpe:(ps.map fun x=>(x.1,a.eval x.2)).toList=(vs.zipIdx 0).map fun x=>(x.2,x.1):=by
  apply List.ext_getElem?
  intro j
  simp only[Array.toList_map,List.getElem?_map,List.getElem?_zipIdx,vs,Nat.zero_add]
  by_cases hj:j<xs.length
  ·obtain⟨p,hp1,hp2,_⟩:=hpx j xs[j] (by simp[hj])
   simp[hp1,hp2]
  ·have:ps.toList[j]? =none:=List.getElem?_eq_none (by omega)
   simp[this]
 have hvc:∀v∈vs,v.cells.size=te.size:=fun v hv=>by
  obtain⟨j,hj⟩:=List.getElem?_of_mem hv
  have hjx:j<xs.length:=by rw[←hvl];exact(List.getElem?_eq_some_iff.1 hj).1
  obtain⟨v',h1,h2⟩:=hvs j xs[j] (by simp[hjx])
  rw[hj]at h1
  cases h1
  obtain⟨q1,q2,_⟩:=hxs j xs[j] (by simp[hjx])
  rw[(h2.cells q2).1,q1]
 have hzs:z.cells.size=te.size:=by rw[←hzl,←e3];simp
 have hfill:=Great.fill_whole (s:=te.size) (by omega) vs ((Array.range (xs.length*te.size)).map (z.cells[· % z.cells.size]!)) hvc (by simp[hvl])
 have hflat:=Great.flat_get (s:=te.size) (by omega) vs hvc
 generalize hC:(vs.flatMap fun v=>v.cells.toList).toArray=C at hfill
 have hCs:C.size=xs.length*te.size:=by
  rw[←hC]
  have:∀l:List Value,(∀v∈l,v.cells.size=te.size)→(l.flatMap fun v=>v.cells.toList).length=l.length*te.size:=by
   intro l
   induction l with
   |nil=>simp
   |cons v l ih=>
    intro hv
    rw[List.flatMap_cons,List.length_append,ih fun u hu=>hv u (by simp[hu])]
    have:=hv v (by simp)
    simp only[Array.length_toList,this,List.length_cons,Nat.add_mul,Nat.one_mul]
    omega
  simpa [hvl]using this vs hvc
 have hrun:(execOp a.eval ⟨dst,.buildSlice T xs.length ps,type,pos,after,guard⟩).run P w= .ok (.value (.slice (some ⟨w.heap.size,0,none⟩) xs.length xs.length)) (w.alloc (.cells C e)):=by
  have h24:¬xs.length*te.size>2 ^ 24:=by omega
  have hs:=run_size (hP _ _ he) w
  simp only[execOp,Instr.buildSlice,Sem.run_bind,under_of w hu,Result.andThen_ok,hs]
  by_cases h0:xs.length*te.size=0
  ·have hx0:xs=[]:=by
    rcases Nat.mul_eq_zero.1 h0 with h|h
    ·exact List.eq_nil_of_length_eq_zero h
    ·omega
   subst hx0
   have hps0:ps= #[]:=by
    have:ps.toList.length=0:=by simpa using hlen
    exact Array.eq_empty_of_size_eq_zero (by simpa using this)
   subst hps0
   have hC0:C= #[]:=by simpa using hCs
   subst hC0
   simp[Instr.fill,newRow,Array.range_zero']
  ·have hpe':(ps.map fun x=>(x.1,a.eval x.2)).toList=(vs.zipIdx 0).map fun x=>(x.2,x.1):=hpe
   simp only[if_neg h24,Sem.run_pure,Result.andThen_ok,if_neg h0,Sem.run_bind,zeroValue,typeInfo,run_program,hi,hz,hpe']
   rw[hfill]
   simp[newRow]
 have hcells:∀(j:Nat) (x:AV),xs[j]? =some x→∃v,vs[j]? =some v∧v.cells.size=te.size∧(∀q,q<te.size→C[j*te.size+q]? =some (v.cells.getD q undef))∧(∀q,q<te.size→(v.cells.getD q undef).oneCell'=true)∧
   ∀(q:Nat) u,x.cells[q]? =some u→RepV w (Dom X β) h β u (v.cells.getD q undef)∧(ne=false→RepF w (Dom X β) u (v.cells.getD q undef)):=fun j x hx=>by
  obtain⟨v,h1,h2⟩:=hvs j x hx
  obtain⟨q1,q2,q3⟩:=hxs j x hx
  obtain⟨r1,r2,r3⟩:=h2.cells q2
  refine⟨v,h1,by omega,fun q hq=>?_,fun q hq=>r2 q (by omega),fun q u hu=>⟨r3 q u hu,fun hn=>(r3 q u hu).toF ?_⟩⟩
  ·have hd':(j*te.size+q)/te.size=j:=Nat.div_eq_of_lt_le (by omega) (by rw[Nat.add_mul,Nat.one_mul];omega)
   have hm':(j*te.size+q) % te.size=q:=by rw[Nat.mul_comm,Nat.mul_add_mod];exact Nat.mod_eq_of_lt hq
   have:=hflat (j*te.size+q)
   rw[hd',hm',h1]at this
   rw[←hC]
   simp only[List.getElem?_toArray,this,Option.bind_some]
   exact getD_eq _ _ (by omega)
  ·rw[hn,Bool.false_or]at q3
   cases x<;>first
    |(simp[AV.cells]at hu;cases q<;>simp at hu;subst hu;exact q3)
    |(exact nokeys_at (by simpa [AV.nokey,AV.cells]using q3) hu)
 refine⟨C,fun j q=>(vs.getD j undef).cells.getD q undef,hrun,hCs,?_,rfl,fun j x hx=>(hxs j x hx).1,?_,?_,?_⟩
 ·have:xs.length*1≤xs.length*te.size:=Nat.mul_le_mul_left _ hp
  unfold maxN;omega
 ·intro j q hj hq
  obtain⟨v,h1,_,h3,_⟩:=hcells j xs[j] (by simp[hj])
  have:vs.getD j undef=v:=by simp[List.getD,h1]
  dsimp only;rw[this];exact h3 q hq
 ·intro j q hj hq
  obtain⟨v,h1,_,_,h4,_⟩:=hcells j xs[j] (by simp[hj])
  have:vs.getD j undef=v:=by simp[List.getD,h1]
  dsimp only;rw[this];exact h4 q hq
 ·intro j x q u hx hu
  obtain⟨v,h1,_,_,_,h5⟩:=hcells j x hx
  have:vs.getD j undef=v:=by simp[List.getD,h1]
  dsimp only;rw[this];exact h5 q u hu
theorem stp_buildSlice (hP:TOK P TT) {T e len:Nat} {ps:Array (Nat×Operand)} {ti te:TI} {xs:List AV} (k:Nat) (hT:TT[T]? =some ti) (hd:ti.d= .slice e) (he:TT[e]? =some te) (hp:Nat.ble 1 te.size=true) (hps:prts st ps=(xs.zipIdx 0).map fun x=>(x.2,x.1)) (hl:Nat.beq xs.length len=true)
  (hw:xs.all (fun x=>Nat.beq x.cells.length te.size&&(x.ok&&x.nokey))=true) (hb:Nat.ble (len*te.size) 65536=true) (hzl:Nat.beq te.zero.length te.size=true):
  Stp P st (.buildSlice T len ps) (.ref k 0 len) [(k,.arr te.size xs false)] [] [k]:=by
 refine⟨?_⟩
 intro X tm h hg _ hn o a w β ho HH Ht
 obtain⟨C,f,hrun,hCs,hmx,hl',q1,q2,q3,q4⟩:=bsl_core false hP hT hd he hp hps hl hw hb hzl o X tm h w β a ho hg Ht
 rw[hrun]
 subst hl'
 obtain⟨β',G,hv⟩:=Goes.newArr HH (hn k (by simp)) C e te.size xs xs.length f (Nat.le_of_ble_eq_true hp) hmx (Nat.le_refl _) (by rw[hCs]) (one_full hCs (Nat.le_of_ble_eq_true hp) q2 q3) q1 q2 q3 (q4.toF rfl)
 exact⟨β',G,hv⟩
theorem stp_buildSliceN (hP:TOK P TT) {T e len:Nat} {ps:Array (Nat×Operand)} {ti te:TI} {xs:List AV} (k:Nat) (hT:TT[T]? =some ti) (hd:ti.d= .slice e) (he:TT[e]? =some te) (hp:Nat.ble 1 te.size=true) (hps:prts st ps=(xs.zipIdx 0).map fun x=>(x.2,x.1)) (hl:Nat.beq xs.length len=true)
  (hw:xs.all (fun x=>Nat.beq x.cells.length te.size&&x.ok)=true) (hb:Nat.ble (len*te.size) 65536=true) (hzl:Nat.beq te.zero.length te.size=true):
  Stp P st (.buildSlice T len ps) (.ref k 0 len) [(k,.arr te.size xs ⟨false,true⟩)] [] [k]:=by
 refine⟨?_⟩
 intro X tm h hg _ hn o a w β ho HH Ht
 obtain⟨C,f,hrun,hCs,hmx,hl',q1,q2,q3,q4⟩:=bsl_core true hP hT hd he hp hps hl (by simpa using hw) hb hzl o X tm h w β a ho hg Ht
 rw[hrun]
 subst hl'
 obtain⟨β',G,hv⟩:=Goes.newArrN HH (hn k (by simp)) C e te.size xs xs.length f (Nat.le_of_ble_eq_true hp) hmx (Nat.le_refl _) (by rw[hCs]) (one_full hCs (Nat.le_of_ble_eq_true hp) q2 q3) q1 q2 q3 (q4.toV)
 exact⟨β',G,hv⟩
theorem stp_buildSliceF (hP:TOK P TT) {T e len:Nat} {ps:Array (Nat×Operand)} {ti te:TI} {xs:List AV} (hT:TT[T]? =some ti) (hd:ti.d= .slice e) (he:TT[e]? =some te) (hp:Nat.ble 1 te.size=true) (hps:prts st ps=(xs.zipIdx 0).map fun x=>(x.2,x.1)) (hl:Nat.beq xs.length len=true)
  (hw:xs.all (fun x=>Nat.beq x.cells.length te.size&&(x.ok&&x.nokey))=true) (hb:Nat.ble (len*te.size) 65536=true) (hzl:Nat.beq te.zero.length te.size=true):
  Stp P st (.buildSlice T len ps) (.sl true xs) [] [] []:=by
 refine⟨?_⟩
 intro X tm h hg _ hn o a w β ho HH Ht
 obtain⟨C,f,hrun,hCs,hmx,hl',q1,q2,q3,q4⟩:=bsl_core false hP hT hd he hp hps hl hw hb hzl o X tm h w β a ho hg Ht
 rw[hrun]
 rw[over_nil]
 exact⟨β,Goes.newFz HH C e,.fz _ _ (RepF.newArr HH C e te.size xs xs.length f (Nat.le_of_ble_eq_true hp) hmx (Nat.le_refl _) q1 q2 q3 (q4.toF rfl))⟩
def zeroA (ti:TI):AV:=bif ti.d.agg then .agg (ti.zero.map .s)else match ti.zero with
 | [v]=> .s v
 |_=> .bot
theorem stp_makeSlice (hP:TOK P TT) {T e n:Nat} {x y:Operand} {ti te:TI} {kx ky:IntKind} {nx ny:Int} (k:Nat) (hx:opv (look st.tm) x= .s (.int kx nx)) (hy:opv (look st.tm) y= .s (.int ky ny)) (hT:TT[T]? =some ti) (hd:ti.d= .slice e) (he:TT[e]? =some te)
  (hnx:nx=(n:Int)) (hny:nx≤ny) (hmax:ny≤1073741824) (hb:Nat.ble te.bytes 65536=true) (hp:Nat.ble 1 te.size=true) (hzl:Nat.beq te.zero.length te.size=true) (hz1:te.zero.all (·.oneCell')=true) (hzc:Nat.beq (zeroA te).cells.length te.size=true) (hzc2:(zeroA te).cells=te.zero.map .s):
  Stp P st (.makeSlice T x y) (.ref k 0 n) [(k,.arr te.size (List.replicate n (zeroA te)) false)] [] [k]:=by
 refine⟨?_⟩
 intro X tm h hg _ hn o a w β ho HH Ht
 obtain⟨dst,op',type,pos,after,guard⟩:=o
 dsimp only at ho;subst ho
 have h1:=arg_s Ht hg (x:=x) (by simp[Op.operands]) hx
 have h2:=arg_s Ht hg (x:=y) (by simp[Op.operands]) hy
 have hp:=Nat.le_of_ble_eq_true hp
 have hb:=Nat.le_of_ble_eq_true hb
 have hzl:=Nat.eq_of_beq_eq_true hzl
 have hzc:=Nat.eq_of_beq_eq_true hzc
 subst hnx
 obtain⟨i,z,hu,hi,hz,e1,e2,e3⟩:=slice_facts hP hT hd he
 have hbytes:(i.bytes:Int)*ny≤281474976710656:=by
  obtain⟨m,rfl⟩:=Int.eq_ofNat_of_zero_le (show 0≤ny by omega)
  have:i.bytes*m≤65536*1073741824:=Nat.mul_le_mul (by omega) (by omega)
  have h3:(i.bytes:Int)*(m:Int)=((i.bytes*m:Nat):Int):=by simp
  rw[h3]
  omega
 have hrun:=run_make (P:=P) w T e i z hu hi hz kx ky (n:Int) ny (by omega) hny hbytes (by omega)
 have hex:(execOp a.eval ⟨dst,.makeSlice T x y,type,pos,after,guard⟩).run P w= .ok (.value (.slice (some ⟨w.heap.size,0,none⟩) n ny.toNat)) (w.alloc (.cells (madeCells z.cells (ny.toNat*i.size)) e)):=by
  simp only[execOp,h1,h2,Sem.run_bind,hrun,Result.andThen_ok,Sem.run_pure]
  rfl
 rw[hex]
 have hzs:z.cells.size=te.size:=by rw[←hzl,←e3];simp
 have hrl:(List.replicate n (zeroA te)).length=n:=by simp
 have hat:∀(j:Nat) v,(List.replicate n (zeroA te))[j]? =some v→v=zeroA te:=fun j v hv=>by
  rw[List.getElem?_replicate]at hv
  split at hv
  ·exact(Option.some.inj hv).symm
  ·cases hv
 have hzat:∀j,j<te.size→∃v,te.zero[j]? =some v∧z.cells.getD j undef=v:=fun j hj=>by
  have:=getD_eq z.cells j (by omega)
  refine⟨_,?_,rfl⟩
  rw[←e3]
  simpa using this
 have:=Goes.newArr HH (hn k (by simp)) (madeCells z.cells (ny.toNat*i.size)) e te.size (List.replicate n (zeroA te)) ny.toNat (fun _ j=>z.cells.getD j undef) hp (by rw[hrl];unfold maxN;omega) (by rw[hrl];omega) (by rw[size_madeCells,e1]) (OneA.get (OneA.made (fun v hv=>List.all_eq_true.1 hz1 v (by rw[←e3];exact hv)) (by omega) _))
  (fun j v hv=>by rw[hat j v hv];exact hzc) (fun i' j hi' hj=>by
   rw[hrl]at hi'
   have hlt:i'*te.size+j<ny.toNat*te.size:=by
    have:=Nat.mul_le_mul_right te.size (show i'+1≤ny.toNat by omega)
    rw[Nat.add_mul,Nat.one_mul]at this
    omega
   have hm':(i'*te.size+j) % te.size=j:=by rw[Nat.mul_comm,Nat.mul_add_mod];exact Nat.mod_eq_of_lt hj
   simp only[madeCells,e1,Array.getElem?_map,Array.getElem?_range,hlt,if_true,Option.map_some,hzs,hm']
   congr 1
   have hj':j<z.cells.size:=by omega
   simp[Array.getD_eq_getD_getElem?,hj']) (fun i' j _ hj=>by
   obtain⟨v,hv,hv'⟩:=hzat j hj
   rw[hv']
   exact List.all_eq_true.1 hz1 v (List.mem_of_getElem? hv)) (fun i' v j u hv hu=>by
   rw[hat i' v hv,hzc2]at hu
   simp only[List.getElem?_map,Option.map_eq_some_iff]at hu
   obtain⟨q,hq,rfl⟩:=hu
   have hj:j<te.size:=by rw[←hzl];exact(List.getElem?_eq_some_iff.1 hq).1
   obtain⟨v',hv1,hv2⟩:=hzat j hj
   rw[hv2]
   rw[hq]at hv1
   cases hv1
   exact .s _)
 obtain⟨β',G,hv⟩:=this
 rw[hrl]at hv
 exact⟨β',G,hv⟩
theorem stp_max {T1 T2:Nat} {x y:Operand} {k:IntKind} {m n:Int} (hx:opv (look st.tm) x= .s (.int k m)) (hy:opv (look st.tm) y= .s (.int k n)):Stp P st (.call ⟨.builtin .max, #[x,y], #[T1,T2]⟩) (.s (.int k (max m n))) [] [] []:=
 stp_val fun oo X tm h w β a ho hg hr HH Ht=>by
  obtain⟨dst,op',type,pos,after,guard⟩:=oo
  dsimp only at ho;subst ho
  have h1:=arg_s Ht hg (x:=x) (by simp[Op.operands,Call.operands]) hx
  have h2:=arg_s Ht hg (x:=y) (by simp[Op.operands,Call.operands]) hy
  refine⟨.int k (max m n),?_,.fz _ _ (.s _)⟩
  have:(if n>m then n else m)=max m n:=by omega
  simp[execOp,resolve,invoke,builtin,Builtin.max_,Builtin.max2,h1,h2,this]
theorem stp_min {T1 T2:Nat} {x y:Operand} {k:IntKind} {m n:Int} (hx:opv (look st.tm) x= .s (.int k m)) (hy:opv (look st.tm) y= .s (.int k n)):Stp P st (.call ⟨.builtin .min, #[x,y], #[T1,T2]⟩) (.s (.int k (min m n))) [] [] []:=
 stp_val fun oo X tm h w β a ho hg hr HH Ht=>by
  obtain⟨dst,op',type,pos,after,guard⟩:=oo
  dsimp only at ho;subst ho
  have h1:=arg_s Ht hg (x:=x) (by simp[Op.operands,Call.operands]) hx
  have h2:=arg_s Ht hg (x:=y) (by simp[Op.operands,Call.operands]) hy
  refine⟨.int k (min m n),?_,.fz _ _ (.s _)⟩
  have:(if n<m then n else m)=min m n:=by omega
  simp[execOp,resolve,invoke,builtin,Builtin.min_,Builtin.min2,h1,h2,this]
def notNil (h:Heap):AV→Bool
 | .sl true _=>true
 | .sl false (_::_)=>true
 | .ref k _ (_+1)=>match h k with
  |some (.arr _ _ _)=>true
  |_=>false
 |_=>false
theorem run_eql_nil (hP:TOK P TT) {T e:Nat} {ti:TI} (hT:TT[T]? =some ti) (hd:ti.d= .slice e) (w:World) (b:Option Addr) (n c:Nat):(Op.equal T (.slice b n c) (.slice none 0 0)).run P w= .ok b.isNone w:=by
 obtain⟨_,u,_,_,hu,_,hd',_⟩:=tiOf_some (hP _ _ hT)
 obtain rfl:=td_slice (hd'.symm.trans hd)
 show(Op.equalIn (9999+1) T _ _).run P w=_
 unfold Op.equalIn
 cases b<;>simp[under_of w hu]
theorem stp_eqlNil_not (hP:TOK P TT) {T ty e:Nat} {x:Operand} {ti:TI} {xv:AV} {op:BinOp} {v:Bool} (hop:op= .eql∧v=false∨op= .neq∧v=true) (hx:opv (look st.tm) x=xv) (hT:TT[T]? =some ti) (hd:ti.d= .slice e) (hn:notNil (lookE st.h) xv=true):
  Stp P st (.binOp op T x (.const (.slice none 0 0)) ty) (.s (.bool v)) [] (elk xv) []:=
 stp_val fun oo X tm h w β a ho hg hr HH Ht=>by
  obtain⟨dst,op',type,pos,after,guard⟩:=oo
  dsimp only at ho;subst ho
  have h1:=arg Ht hg (x:=x) (by simp[Op.operands]) hx
  obtain⟨b,n,c,hc⟩:∃b n c,a.eval x= .slice (some b) n c:=by
   generalize a.eval x=cx at h1
   cases h1 with
   |fz _ _ hf=>
    cases hf with
    |nil a cap=>simp[notNil]at hn
    |nil1 a cap=>exact⟨_,_,_,rfl⟩
    |sl _ _ b o sz cap f hne hL hc hh=>exact⟨_,_,_,rfl⟩
    |_=>simp[notNil]at hn
   |ref _ _ _ _ _ _ _ _ _ _ _ _ _ _=>exact⟨_,_,_,rfl⟩
   |ref0 _ _ _ _ _ _ _ _=>simp[notNil]at hn
   |dref k off len _ hk _=>
    have:=hr k (by simp[elk])
    cases len with
    |zero=>simp[notNil]at hn
    |succ m=>simp[notNil,←this,hk]at hn
   |_=>simp[notNil]at hn
  have he:=run_eql_nil hP hT hd w (some b) n c
  refine⟨.bool v,?_,.fz _ _ (.s _)⟩
  rcases hop with⟨rfl,rfl⟩|⟨rfl,rfl⟩<;>simp[execOp,hc,show a.eval (.const (.slice none 0 0))= .slice none 0 0 from rfl,eqGuard,binOp,he]
theorem stp_eqlNil (hP:TOK P TT) {T ty e:Nat} {x:Operand} {ti:TI} {op:BinOp} {v:Bool} {n c:Nat} (hop:op= .eql∧v=true∨op= .neq∧v=false) (hx:opv (look st.tm) x= .s (.slice none n c)) (hT:TT[T]? =some ti) (hd:ti.d= .slice e):
  Stp P st (.binOp op T x (.const (.slice none 0 0)) ty) (.s (.bool v)) [] [] []:=
 stp_val fun oo X tm h w β a ho hg hr HH Ht=>by
  obtain⟨dst,op',type,pos,after,guard⟩:=oo
  dsimp only at ho;subst ho
  have hc:=arg_s Ht hg (x:=x) (by simp[Op.operands]) hx
  have he:=run_eql_nil hP hT hd w none n c
  refine⟨.bool v,?_,.fz _ _ (.s _)⟩
  rcases hop with⟨rfl,rfl⟩|⟨rfl,rfl⟩<;>simp[execOp,hc,show a.eval (.const (.slice none 0 0))= .slice none 0 0 from rfl,eqGuard,binOp,he]
theorem stp_string2 {op:BinOp} {tx ty:Nat} {x y:Operand} {p q:ByteArray} {v:Bool} (hx:opv (look st.tm) x= .s (.string p)) (hy:opv (look st.tm) y= .s (.string q))
  (hop:op= .eql∧v=(p.toList==q.toList)∨op= .neq∧v= !(p.toList==q.toList)):Stp P st (.binOp op tx x y ty) (.s (.bool v)) [] [] []:=
 stp_val fun o X tm h w β a ho hg _ _ Ht=>by
  obtain⟨dst,op',type,pos,after,guard⟩:=o
  dsimp only at ho;subst ho
  have h1:=arg_s Ht hg (x:=x) (by simp[Op.operands]) hx
  have h2:=arg_s Ht hg (x:=y) (by simp[Op.operands]) hy
  refine⟨.bool v,?_,.fz _ _ (.s _)⟩
  rcases hop with⟨rfl,rfl⟩|⟨rfl,rfl⟩<;>simp[execOp,h1,h2,eqGuard,binOp,Op.stringOp]
end ops
end Av
end Go.Proofs.YtaikgchmpieooaaGreat
