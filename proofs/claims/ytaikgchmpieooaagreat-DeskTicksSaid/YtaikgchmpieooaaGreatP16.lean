/- Part 16: contracts of the functions, and what they rest upon. -/
import Derived.Test.YtaikgchmpieooaaGreatP15
import Derived.Laws.BytesArg
import Derived.Laws.Strings
import Derived.Laws.StructEq
namespace Go.Proofs.YtaikgchmpieooaaGreat
namespace Av
set_option linter.unusedSimpArgs false
set_option linter.unusedVariables false
section
def byA (n:Int):AV:= .s (.int .u8 n)
def eqY (a b:List Int):Bool:=(strOfNums a).toList==(strOfNums b).toList
def BY (l:List Int):Prop:=∀x∈l,0≤x∧x<256
theorem toList_str (a:List Int):(strOfNums a).toList=a.map fun n=>UInt8.ofNat n.toNat:=by
 rw[ByteArray.toList_eq]
 rfl
theorem eqY_eq (a b:List Int):eqY a b=decide ((a.map fun n=>UInt8.ofNat n.toNat)=b.map fun n=>UInt8.ofNat n.toNat):=by
 unfold eqY
 rw[toList_str,toList_str]
 rw[Bool.eq_iff_iff]
 simp
theorem eqY_refl (a:List Int):eqY a a=true:=by rw[eqY_eq];simp
theorem eqY_comm (a b:List Int):eqY a b=eqY b a:=by rw[eqY_eq,eqY_eq];simp[eq_comm]
def andI (m n:Int):Int:=IntKind.i64.wrap (BitVec.ofInt IntKind.i64.bits m &&& BitVec.ofInt IntKind.i64.bits n).toNat
def orI (m n:Int):Int:=IntKind.i64.wrap (BitVec.ofInt IntKind.i64.bits m ||| BitVec.ofInt IntKind.i64.bits n).toNat
def bicI (m n:Int):Int:=IntKind.i64.wrap (BitVec.ofInt IntKind.i64.bits m &&& ~~~BitVec.ofInt IntKind.i64.bits n).toNat
section
variable {P:Program} {TT:List TI} {tm:List (Nat×AV)} {h:List (Nat×Ent)} {tx ty:Nat} {x y:Operand}
theorem stp_andI {m n:Int} (hx:opv (look tm) x= .s (.int .i64 m)) (hy:opv (look tm) y= .s (.int .i64 n)):Stp P ⟨tm,h⟩ (.binOp .and tx x y ty) (.s (.int .i64 (andI m n))) [] [] []:=stp_and hx hy
theorem stp_orI {m n:Int} (hx:opv (look tm) x= .s (.int .i64 m)) (hy:opv (look tm) y= .s (.int .i64 n)):Stp P ⟨tm,h⟩ (.binOp .or tx x y ty) (.s (.int .i64 (orI m n))) [] [] []:=stp_or hx hy
theorem stp_bicI {m n:Int} (hx:opv (look tm) x= .s (.int .i64 m)) (hy:opv (look tm) y= .s (.int .i64 n)):Stp P ⟨tm,h⟩ (.binOp .andNot tx x y ty) (.s (.int .i64 (bicI m n))) [] [] []:=stp_andNot hx hy
theorem stp_strEq {a b:List Int} (hx:opv (look tm) x= .s (.string (strOfNums a))) (hy:opv (look tm) y= .s (.string (strOfNums b))):Stp P ⟨tm,h⟩ (.binOp .eql tx x y ty) (.s (.bool (eqY a b))) [] [] []:=stp_string2 hx hy (.inl ⟨rfl,rfl⟩)
theorem stp_strNe {a b:List Int} (hx:opv (look tm) x= .s (.string (strOfNums a))) (hy:opv (look tm) y= .s (.string (strOfNums b))):Stp P ⟨tm,h⟩ (.binOp .neq tx x y ty) (.s (.bool (!eqY a b))) [] [] []:=stp_string2 hx hy (.inr ⟨rfl,rfl⟩)
theorem stp_convStr (hP:TOK P TT) {src dst e:Nat} {ts te td:TI} {nn:Bool} {xs:List AV} {l:List Int} (hs:TT[src]? =some ts) (hsd:ts.d= .slice e) (he:TT[e]? =some te) (hek:te.d= .int .u8) (hd:TT[dst]? =some td) (hdd:td.d= .string)
  (hx:opv (look tm) x= .sl nn xs) (hl:xs=l.map byA):Stp P ⟨tm,h⟩ (.convert src dst x) (.s (.string (strOfNums l))) [] [] []:=
 stp_val fun o X tm h w β a ho hg _ HH Ht=>by
  obtain⟨dst',op',type,pos,after,guard⟩:=o
  dsimp only at ho;subst ho
  have h1:=arg Ht hg (x:=x) (by simp[Op.operands]) hx
  obtain⟨_,u1,_,_,hu1,_,hd1,_⟩:=tiOf_some (hP _ _ hs)
  obtain⟨_,u2,_,_,hu2,_,hd2,_⟩:=tiOf_some (hP _ _ he)
  obtain⟨_,u3,_,_,hu3,_,hd3,_⟩:=tiOf_some (hP _ _ hd)
  obtain rfl:=td_slice (hd1.symm.trans hsd)
  obtain rfl:=td_int (hd2.symm.trans hek)
  obtain rfl:=td_string (hd3.symm.trans hdd)
  subst hl
  refine⟨.string (strOfNums l),?_,.fz _ _ (.s _)⟩
  have key:(convert src dst (a.eval x)).run P w= .ok (.string (strOfNums l)) w:=by
   generalize a.eval x=cx at h1
   cases h1 with
   | fz _ _ hf=>
    generalize hxs:l.map byA=xs at hf
    cases hf with
    | nil b cap=>
     obtain rfl:l=[]:=by cases l with
      |nil=>rfl
      |cons z l=>simp at hxs
     cases b with
     |none=>exact run_convert_bytes_nil w src e hu1 hu2 0 cap dst hu3
     |some b=>
      rw[run_convert_bytes_string w src dst e _ 0 cap hu1 hu2 hu3]
      simp[Conv.bytesToString,loadCells]
      rfl
    | nil1 b cap=>
     obtain rfl:l=[]:=by cases l with
      |nil=>rfl
      |cons z l=>simp at hxs
     rw[run_convert_bytes_string w src dst e _ 0 cap hu1 hu2 hu3]
     simp[Conv.bytesToString,loadCells]
     rfl
    | sl _ _ b o sz cap f hx hL hcc hh=>
     subst hxs
     have hat:∀i,i<l.length→(l.map byA)[i]? =some (byA (l.getD i 0)):=fun i hi=>by simp[List.getD,hi]
     have hsz:sz=1:=by
      cases l with
      |nil=>exact absurd rfl hx
      |cons z l=>exact(hL.wide 0 (byA z) rfl).symm
     subst hsz
     have:=run_convert_bytes_arg (P:=P) w src e hu1 hu2 b o (l.map byA).length cap l (by simp) (fun i hi=>by
      have hi':i<l.length:=by simpa using hi
      have h2:=hL.cell i 0 (by simpa using hi') (by omega)
      have h3:=(hh i _ 0 (byA (l.getD i 0)) (hat i hi') rfl)
      rw[show o+i=o+i*1+0 by omega,h2]
      unfold byA at h3
      generalize f i 0=c at h3
      cases h3
      rfl) dst hu3
     exact this
  simp[execOp,key]
end
section
variable {P:Program} {TT:List TI} {K0:List Nat} {F:Fr K0} {m:Nat} {ops:Array Oper} {rest:List Oper} {Q:List FP→St→Prop} {tm:List (Nat×AV)} {h:List (Nat×Ent)} {dr:Bool} {fs:List FP}
variable {ty:Nat} {pos:String} {after:Array Edge} {t:Nat}
theorem is_slc {T:Nat} {x:Operand} {lo hi mx:Option Operand} {st:St} (hk:OpsX P F m ops dr (⟨some t,.slice T x lo hi mx,ty,pos,after,none⟩::rest) st fs Q):OpsX P F m ops dr (⟨some t,.slice T x lo hi mx,ty,pos,after,none⟩::rest) st fs Q:=hk
theorem x_slcL (hP:TOK P TT) {T e:Nat} {x l:Operand} {ti te:TI} {nn:Bool} {xs ys:List AV} {k:IntKind} {i:Int} (hx:opv (look tm) x= .sl nn xs) (hl:opv (look tm) l= .s (.int k i)) (hT:TT[T]? =some ti) (hd:ti.d= .slice e) (he:TT[e]? =some te)
  (hsz:∀y,xs[0]? =some y→y.cells.length=te.size) (h0:0≤i) (h1:i≤xs.length) (hy:xs.drop i.toNat=ys) (hm:Nat.blt t m=true) (hk:OpsX P F m ops dr rest ⟨(t,.sl nn ys)::tm,h⟩ (⟨true,[],[]⟩::fs) Q):
  OpsX P F m ops dr (⟨some t,.slice T x (some l) none none,ty,pos,after,none⟩::rest) ⟨tm,h⟩ fs Q:=by
 have:=stp_slice_sl (P:=P) (st:=⟨tm,h⟩) (lo:=some l) (hi:=none) (l:=i.toNat) (r:=xs.length) hP hx hT hd he ⟨k,i,hl,by omega⟩ rfl (by omega) (Nat.le_refl _) hsz
 rw[show(xs.drop i.toNat).take (xs.length-i.toNat)=ys by rw[←hy];exact List.take_of_length_le (by simp)]at this
 exact x_q this hm hk
theorem x_slcH (hP:TOK P TT) {T e:Nat} {x l:Operand} {ti te:TI} {nn:Bool} {xs ys:List AV} {k:IntKind} {i:Int} (hx:opv (look tm) x= .sl nn xs) (hl:opv (look tm) l= .s (.int k i)) (hT:TT[T]? =some ti) (hd:ti.d= .slice e) (he:TT[e]? =some te)
  (hsz:∀y,xs[0]? =some y→y.cells.length=te.size) (h0:0≤i) (h1:i≤xs.length) (hy:xs.take i.toNat=ys) (hm:Nat.blt t m=true) (hk:OpsX P F m ops dr rest ⟨(t,.sl nn ys)::tm,h⟩ (⟨true,[],[]⟩::fs) Q):
  OpsX P F m ops dr (⟨some t,.slice T x none (some l) none,ty,pos,after,none⟩::rest) ⟨tm,h⟩ fs Q:=by
 have:=stp_slice_sl (P:=P) (st:=⟨tm,h⟩) (lo:=none) (hi:=some l) (l:=0) (r:=i.toNat) hP hx hT hd he rfl ⟨k,i,hl,by omega⟩ (by omega) (by omega) hsz
 rw[show(xs.drop 0).take (i.toNat-0)=ys by rw[←hy];rfl]at this
 exact x_q this hm hk
theorem x_slcLH (hP:TOK P TT) {T e:Nat} {x l l2:Operand} {ti te:TI} {nn:Bool} {xs ys:List AV} {k k2:IntKind} {i j:Int} (hx:opv (look tm) x= .sl nn xs) (hl:opv (look tm) l= .s (.int k i)) (hl2:opv (look tm) l2= .s (.int k2 j)) (hT:TT[T]? =some ti) (hd:ti.d= .slice e) (he:TT[e]? =some te)
  (hsz:∀y,xs[0]? =some y→y.cells.length=te.size) (h0:0≤i) (h1:i≤j) (h2:j≤xs.length) (hy:(xs.drop i.toNat).take (j.toNat-i.toNat)=ys) (hm:Nat.blt t m=true) (hk:OpsX P F m ops dr rest ⟨(t,.sl nn ys)::tm,h⟩ (⟨true,[],[]⟩::fs) Q):
  OpsX P F m ops dr (⟨some t,.slice T x (some l) (some l2) none,ty,pos,after,none⟩::rest) ⟨tm,h⟩ fs Q:=by
 have:=stp_slice_sl (P:=P) (st:=⟨tm,h⟩) (lo:=some l) (hi:=some l2) (l:=i.toNat) (r:=j.toNat) hP hx hT hd he ⟨k,i,hl,by omega⟩ ⟨k2,j,hl2,by omega⟩ (by omega) (by omega) hsz
 rw[hy]at this
 exact x_q this hm hk
end
def iI (n:Int):AV:= .s (.int .i64 n)
def intFs (TT:List TI):Nat→List (Nat×Nat)→Bool
 |_,[]=>true
 | o,(p,t)::r=>Nat.beq p o&&((match TT[t]? with
  |some ti=>(match ti.d with
   | .int .i64=>true
   |_=>false)
  |none=>false)&&intFs TT (o+1) r)
theorem run_part1 {P:Program} {TT:List TI} (hP:TOK P TT) {t:Nat} {ti:TI} (ht:TT[t]? =some ti) (hk:ti.d= .int .i64) (w:World) {cs:Array Value} {off:Nat} {v:Value} (hv:cs[off]? =some v):(part t cs off).run P w= .ok v w:=by
 unfold part
 simp[run_agg (hP _ _ ht) w,hk,TD.agg,hv]
theorem run_eqFields {P:Program} {TT:List TI} (hP:TOK P TT) (d:Nat) (w:World) (xs ys:Array Value):∀(fs:List Field) (o:Nat) (ms ns:List Int),intFs TT o (fs.map fun f=>(f.offset,f.type))=true→(fs.all fun f=>f.name != "_")=true→ms.length=fs.length→ns.length=fs.length→
  (∀i,i<ms.length→xs[o+i]? =some (.int .i64 (ms.getD i 0)))→(∀i,i<ns.length→ys[o+i]? =some (.int .i64 (ns.getD i 0)))→(Op.eqFields (d+1) xs ys fs).run P w= .ok (ms==ns) w
 | [],o,ms,ns,_,_,h1,h2,_,_=>by
  obtain rfl:=List.eq_nil_of_length_eq_zero h1
  obtain rfl:=List.eq_nil_of_length_eq_zero h2
  rfl
 |f::fs,o,[],ns,_,_,h1,_,_,_=>by simp at h1
 |f::fs,o,m::ms,[],_,_,_,h2,_,_=>by simp at h2
 | f ::fs,o,m::ms,n::ns,hf,hn,h1,h2,hx,hy=>by
  simp only[List.map_cons,intFs,Bool.and_eq_true]at hf
  simp only[List.all_cons,Bool.and_eq_true,bne_iff_ne,ne_eq]at hn
  obtain⟨e1,e2,e3⟩:=hf
  have e1:=Nat.eq_of_beq_eq_true e1
  split at e2
  ·rename_i ti hti
   split at e2
   ·rename_i hd
    obtain⟨_,u,_,_,hu,_,hdd,_⟩:=tiOf_some (hP _ _ hti)
    obtain rfl:=td_int (hdd.symm.trans hd)
    have a1:=run_part1 (off:=f.offset) hP hti hd w (cs:=xs) (v:= .int .i64 m) (by rw[e1];have:=hx 0 (by simp);simpa using this)
    have a2:=run_part1 (off:=f.offset) hP hti hd w (cs:=ys) (v:= .int .i64 n) (by rw[e1];have:=hy 0 (by simp);simpa using this)
    have ih:=run_eqFields hP d w xs ys fs (o+1) ms ns e3 (by simpa using hn.2) (by simpa using h1) (by simpa using h2) (fun i hi=>by have:=hx (i+1) (by simpa using hi);rw[show o+1+i=o+(i+1) by omega];simpa using this) (fun i hi=>by have:=hy (i+1) (by simpa using hi);rw[show o+1+i=o+(i+1) by omega];simpa using this)
    have hne:f.name≠ "_" :=hn.1
    simp only[Op.eqFields,hne,ne_eq,not_false_eq_true,if_true,Sem.run_bind,a1,a2,Result.andThen_ok,run_equalIn_int w d f.type .i64 .i64 m n hu]
    by_cases hmn:m=n
    ·subst hmn
     simp[ih]
    ·simp[hmn]
   ·cases e2
  ·cases e2
theorem stp_eqS {P:Program} {TT:List TI} (hP:TOK P TT) {tm:List (Nat×AV)} {h:List (Nat×Ent)} {ty:Nat} {x y:Operand} {T:Nat} {ti:TI} {fl:List (Nat×Nat)} {ms ns:List Int} {op:BinOp} {v:Bool} (hx:opv (look tm) x= .agg (ms.map iI)) (hy:opv (look tm) y= .agg (ns.map iI)) (hT:TT[T]? =some ti) (hd:ti.d= .str fl) (hfl:intFs TT 0 fl=true)
  (hlm:Nat.beq ms.length fl.length=true) (hln:Nat.beq ns.length fl.length=true) (hst:P.stoodInHeld T=false) (hg:P.eqGuardType P.depth T=false) (hnm:((P.fieldsOf T).toList.all fun f=>f.name != "_")=true) (hop:op= .eql∧v=(ms==ns)∨op= .neq∧v= !(ms==ns)):
  Stp P ⟨tm,h⟩ (.binOp op T x y ty) (.s (.bool v)) [] [] []:=
 stp_val fun o X tm' hh w β a ho hgg _ HH Ht=>by
  obtain⟨dst',op',type,pos,after,guard⟩:=o
  dsimp only at ho;subst ho
  have h1:=arg Ht hgg (x:=x) (by simp[Op.operands]) hx
  have h2:=arg Ht hgg (x:=y) (by simp[Op.operands]) hy
  obtain⟨_,u,_,_,hu,_,hdd,_⟩:=tiOf_some (hP _ _ hT)
  obtain⟨f,rfl,hfe⟩:=td_str (hdd.symm.trans hd)
  have hfo:P.fieldsOf T=f:=by unfold Program.fieldsOf;rw[hu]
  have hlm:=Nat.eq_of_beq_eq_true hlm
  have hln:=Nat.eq_of_beq_eq_true hln
  have hflen:fl.length=f.toList.length:=by rw[←hfe];simp
  have cells:∀(l:List Int) (c:Value),RepV w (Dom X β) hh β (.agg (l.map iI)) c→∃cs:Array Value,c= .agg cs∧∀i,i<l.length→cs[i]? =some (.int .i64 (l.getD i 0)):=fun l c hc=>by
   have each:∀i,i<l.length→(l.map iI)[i]? =some (iI (l.getD i 0)):=fun i hi=>by simp[List.getD,hi]
   cases hc with
   | fz _ _ hf=>
    cases hf with
    |agg _ cs hl _ hh2=>
     refine⟨cs,rfl,fun i hi=>?_⟩
     have:=hh2 i _ (each i hi)
     have hi2:i<cs.size:=by rw[hl];simpa using hi
     unfold iI at this
     have e:cs.getD i undef=cs[i]:=by simp[Array.getD_eq_getD_getElem?,hi2]
     rw[e]at this
     rw[Array.getElem?_eq_getElem hi2]
     generalize cs[i]=c at this
     cases this
     rfl
   |agg _ cs hl _ hh2=>
    refine⟨cs,rfl,fun i hi=>?_⟩
    have:=hh2 i _ (each i hi)
    have hi2:i<cs.size:=by rw[hl];simpa using hi
    have e:cs.getD i undef=cs[i]:=by simp[Array.getD_eq_getD_getElem?,hi2]
    rw[e]at this
    rw[Array.getElem?_eq_getElem hi2]
    unfold iI at this
    rw[this.s_inv]
  obtain⟨cx,ex,hcx⟩:=cells ms _ h1
  obtain⟨cy,ey,hcy⟩:=cells ns _ h2
  have hrun:=run_eqFields hP 9998 w cx cy f.toList 0 ms ns (by rw[hfe];exact hfl) (by rw[←hfo];exact hnm) (by omega) (by omega) (fun i hi=>by simpa using hcx i hi) (fun i hi=>by simpa using hcy i hi)
  have heq:(Op.equalIn 10000 T (.agg cx) (.agg cy)).run P w= .ok (ms==ns) w:=by
   rw[show(10000:Nat)=9999+1 from rfl,run_equalIn_agg w 9999 T cx cy (by rw[hfo];exact hu) hst,hfo]
   exact hrun
  refine⟨.bool v,?_,.fz _ _ (.s _)⟩
  rcases hop with⟨rfl,rfl⟩|⟨rfl,rfl⟩
  ·simp[execOp,ex,ey,run_eqGuard_agg w _ T x y cx cy hg,run_eql_struct w T cx cy,heq]
  ·simp[execOp,ex,ey,run_eqGuard_agg w _ T x y cx cy hg,run_neq_struct w T cx cy,heq]
end
section
theorem RepV.offK {w:World} {D D':Nat→Prop} {h h':Heap} {β β':Map} (k:Nat) (hD:∀b,D' b→D b) (hh:∀j,j≠k→h' j=h j) (hβ:∀j,j≠k→β' j=β j) {v:AV} {c:Value} (hv:RepV w D h β v c):k∉v.refs→RepV w D' h' β' v c:=by
 induction hv with
 |fz v c hf=>exact fun _=> .fz v c (hf.less hD)
 |agg cs c hl h1 hr ih=>exact fun hk=> .agg cs c hl h1 fun i v hv=>ih i v hv fun hm=>hk (refsL_at hv hm)
 |fn f caps c hl hr ih=>exact fun hk=> .fn f caps c hl fun i v hv=>ih i v hv fun hm=>hk (refsL_at hv hm)
 |tup vs c hl hr ih=>exact fun hk=> .tup vs c hl fun i v hv=>ih i v hv fun hm=>hk (refsL_at hv hm)
 |dref j off len c hk' h1=>exact fun hk=> .dref j off len c (by rw[hh j (fun e=>hk (by simp[AV.refs,e]))];exact hk') h1
 |dptr j i off c hk' h1=>exact fun hk=> .dptr j i off c (by rw[hh j (fun e=>hk (by simp[AV.refs,e]))];exact hk') h1
 |ref j off len sz xs st b n cap hk' hb hn hc hs=>
  intro hk
  have hj:j≠k:=fun e=>hk (by simp[AV.refs,e])
  exact .ref j off len sz xs st b n cap (by rw[hh j hj];exact hk') (by rw[hβ j hj];exact hb) hn hc hs
 |ref0 j off sz xs st a hk' hn=>
  intro hk
  have hj:j≠k:=fun e=>hk (by simp[AV.refs,e])
  exact .ref0 j off sz xs st a (by rw[hh j hj];exact hk') hn
 |pbox j off cs b n hk' hb=>
  intro hk
  have hj:j≠k:=fun e=>hk (by simp[AV.refs,e])
  exact .pbox j off cs b n (by rw[hh j hj];exact hk') (by rw[hβ j hj];exact hb)
 |parr j i off sz xs st b n hk' hb hi ho=>
  intro hk
  have hj:j≠k:=fun e=>hk (by simp[AV.refs,e])
  exact .parr j i off sz xs st b n (by rw[hh j hj];exact hk') (by rw[hβ j hj];exact hb) hi ho
def AV.isGh:AV→Bool
 | .gh _=>true
 |_=>false
section
variable {P:Program} {K0:List Nat} {F:Fr K0} {m:Nat} {tm:List (Nat×AV)} {h:List (Nat×Ent)}
def offE (k:Nat):Ent→Bool
 | .box cs=>!(refsL cs).contains k
 | .arr _ xs fl=>bif fl.nest then !(refsL xs).contains k else true
 | .dead=>true
theorem RelS.compact {a:Act} {w:World} (R:RelS F m ⟨tm,h⟩ a w) (k:Nat) (ws:List Nat) {sz:Nat} {xs:List AV} {sb:Bool} (hk:lookE h k=some (.arr sz xs ⟨sb,false⟩)) (hK0:K0.contains k=false) (hws:ws.map (look tm)=ws.map fun _=> .ref k 0 xs.length)
  (htm:tm.all (fun p=>ws.contains p.1|| !p.2.refs.contains k)=true) (hbx:h.all (fun p=>offE k p.2)=true):RelS F m ⟨tm,(k,.arr sz xs false)::h⟩ a w:=by
 obtain⟨⟨X,β,hX,H,Ht,KK,hJ,hD⟩,nd,gs,hl⟩:=R
 have hE:=H.ent k _ hk
 obtain⟨e1,e2,e3,e4,e5,f,e6,e7,e8⟩:=hE
 let β':Map:=fun j=>if j=k then(β k).take 1 else β j
 have hsub:∀j b n,(b,n)∈β' j→(b,n)∈β j:=fun j b n hm=>by
  dsimp only[β']at hm
  split at hm
  ·rename_i e;subst e;exact List.mem_of_mem_take hm
  ·exact hm
 have hDs:∀b,Dom X β' b→Dom X β b:=fun b hd=>hd.imp id fun ⟨j,n,hm⟩=>⟨j,n,hsub j b n hm⟩
 have hh':∀j,j≠k→lookE ((k,.arr sz xs false)::h) j=lookE h j:=fun j hj=>by rw[lookE_cons,if_neg hj]
 have hhk:lookE ((k,.arr sz xs false)::h) k=some (.arr sz xs false):=by rw[lookE_cons,if_pos rfl]
 have hβ':∀j,j≠k→β' j=β j:=fun j hj=>by dsimp only[β'];rw[if_neg hj]
 have hβk:β' k=(β k).take 1:=by dsimp only[β'];rw[if_pos rfl]
 have whole:∀c,RepV w (Dom X β) (lookE h) β (.ref k 0 xs.length) c→RepV w (Dom X β') (lookE ((k,.arr sz xs false)::h)) β' (.ref k 0 xs.length) c:=fun c hc=>by
  generalize hn:xs.length=n at hc
  cases hc with
  |fz _ _ hf=>cases hf
  |dref _ _ _ _ hd _=>exact absurd hd (nd k)
  | ref _ _ _ sz' xs' st' b n' cap hk2 hb hn' hc' hs'=>
   rw[hk]at hk2
   cases hk2
   refine .ref k 0 n sz xs false b n' cap hhk ?_ hn' hc' hs'
   rw[hβk]
   cases hbk:β k with
   |nil=>rw[hbk]at hb;simp at hb
   | cons p r=>
    rw[hbk]at hb
    obtain⟨b0,n0⟩:=p
    obtain⟨_,_,g3⟩:=e5 b0 n0 r hbk
    rcases List.mem_cons.1 hb with h1|h1
    ·rw[h1];simp
    ·exfalso
     have:=g3 b n' h1
     omega
  |ref0 _ _ sz' xs' st' ad hk2 hn'=>exact .ref0 k 0 sz xs false ad hhk (Nat.zero_le _)
 have slot:∀t,RepV w (Dom X β') (lookE ((k,.arr sz xs false)::h)) β' (look tm t) (a.eval (.tmp t)):=fun t=>by
  by_cases hw:t∈ws
  ·obtain⟨i,hi⟩:=List.getElem?_of_mem hw
   have e:=congrArg (·[i]?) hws
   simp only[List.getElem?_map,hi,Option.map_some,Option.some.injEq]at e
   have:=Ht t
   dsimp only at this
   rw[e]at this⊢
   exact whole _ this
  ·refine(Ht t).offK k hDs hh' hβ' ?_
   dsimp only
   intro hm
   have key:∀(l:List (Nat×AV)),l.all (fun p=>ws.contains p.1|| !p.2.refs.contains k)=true→k∈(look l t).refs→False:=fun l=>by
    induction l with
    |nil=>intro _ hm;simp[look,AV.refs]at hm
    | cons p r ih=>
     obtain⟨j,v⟩:=p
     intro hl hm
     rw[look_cons]at hm
     simp only[List.all_cons,Bool.and_eq_true]at hl
     split at hm
     ·rename_i e
      subst e
      have h1:=hl.1
      simp only[Bool.or_eq_true,List.contains_iff_mem,Bool.not_eq_true',Bool.eq_false_iff]at h1
      rcases h1 with h1|h1
      ·exact hw h1
      ·exact h1 (by simpa using hm)
     ·exact ih hl.2 hm
   exact key tm htm hm
 have H':HOK X (lookE ((k,.arr sz xs false)::h)) β' w:=by
  refine⟨fun j e he=>?_,fun j hj=>?_,fun j j' b n n' h1 h2=>H.disj j j' b n n' (hsub _ _ _ h1) (hsub _ _ _ h2),fun j b n hm=>H.free j b n (hsub _ _ _ hm),fun b hd=>H.lt b (hDs b hd)⟩
  ·by_cases hj:j=k
   ·subst hj
    rw[hhk]at he
    cases he
    refine⟨e1,e2,fun hx=>?_,e4,fun b n r hr=>?_,f,.ofF fun i x l v hx hv=>(e6.toF rfl i x l v hx hv).less hDs,e7,fun b n hm=>e8 b n (hsub _ _ _ hm)⟩
    ·rw[hβk]
     have:=e3 hx
     cases hbk:β j with
     |nil=>exact absurd hbk this
     |cons p r=>simp
    ·rw[hβk]at hr
     cases hbk:β j with
     |nil=>rw[hbk]at hr;simp at hr
     |cons p r'=>
      rw[hbk]at hr
      simp only[List.take_succ_cons,List.take_zero,List.cons.injEq]at hr
      obtain⟨hp,hr⟩:=hr
      subst hr
      rw[hp]at hbk
      obtain⟨g1,_,_⟩:=e5 b n r' hbk
      exact⟨g1,fun _ b' n' hm=>by simp at hm,fun b' n' hm=>by simp at hm⟩
   ·rw[hh' j hj]at he
    have hE:=H.ent j e he
    cases e with
    |dead=>exact absurd he (nd j)
    |box cs=>
     obtain⟨b,c,el,g1,g2,g3,g4,g5⟩:=hE
     refine⟨b,c,el,by rw[hβ' j hj];exact g1,g2,g3,g4,fun i v hv=>(g5 i v hv).offK k hDs hh' hβ' fun hm=>?_⟩
     obtain⟨p,hp,hpe⟩:=lookE_pair he
     have:=List.all_eq_true.1 hbx p hp
     rw[hpe]at this
     have hmm:=refsL_at hv hm
     simp only[offE,Bool.not_eq_true',Bool.eq_false_iff]at this
     exact this (by simpa using hmm)
    | arr sz' xs' st'=>
     obtain⟨g1,g2,g3,g4,g5,f',g6,g7,g8⟩:=hE
     refine⟨g1,g2,by rw[hβ' j hj];exact g3,g4,by rw[hβ' j hj];exact g5,f',fun i x l v hx hv=>?_,g7,by rw[hβ' j hj];exact g8⟩
     cases hn:st'.nest with
     |false=>exact⟨.fz _ _ ((g6.toF hn i x l v hx hv).less hDs),fun _=>(g6.toF hn i x l v hx hv).less hDs⟩
     |true=>
      refine⟨(g6.toV i x l v hx hv).offK k hDs hh' hβ' fun hm=>?_,fun h0=>by cases h0⟩
      obtain⟨p,hp,hpe⟩:=lookE_pair he
      have:=List.all_eq_true.1 hbx p hp
      rw[hpe]at this
      simp only[offE,hn,cond_true]at this
      have hmm:=refsL_at hx (refs_cells hv hm)
      simp only[Bool.not_eq_true',Bool.eq_false_iff]at this
      exact this (by simpa using hmm)
  ·rw[lookE_cons]at hj
   split at hj
   ·cases hj
   ·rename_i hne
    rw[hβ' j hne]
    exact H.off j hj
 have hkF:∀b n,(b,n)∉F.β0 k:=fun b n hm=>by
  have:=F.hK k b n hm
  simp only[Bool.eq_false_iff]at hK0
  exact hK0 (by simpa using this)
 refine⟨⟨X,β',hX,H',slot,⟨fun j e he=>?_,KK.size,KK.keep,fun j b n hm=>KK.own j b n (hsub _ _ _ hm),fun j b n hm=>?_,KK.bs,KK.os,KK.tape,KK.output⟩,fun i hi=>?_,hD⟩,fun j=>?_,gs,hl⟩
 ·have hj:j≠k:=fun e'=>by
   subst e'
   have:=F.hh j e he
   simp only[Bool.eq_false_iff]at hK0
   exact hK0 (by simpa using this)
  have:=KK.knd j e he
  cases e with
  |dead=>exact this
  |box cs=>obtain⟨cs',h2⟩:=this;exact⟨cs',by dsimp only;rw[hh' j hj];exact h2⟩
  |arr sz' xs' sl'=>obtain⟨xs2,sl2,h2,h3⟩:=this;exact⟨xs2,sl2,by dsimp only;rw[hh' j hj];exact h2,h3⟩
 ·have hj:j≠k:=fun e'=>by subst e';exact hkF b n hm
  rw[hβ' j hj]
  exact KK.pas j b n hm
 ·exact F.Jst i _ X w w _ (hJ i hi) (Nat.le_refl _) (fun _ _ _=>rfl) (fun b ⟨j,n,hm⟩=> .inl ⟨j,n,hsub _ _ _ hm⟩) (fun b ⟨j,n,hm⟩=>H.lt b (.inr ⟨j,n,hsub _ _ _ hm⟩)) rfl rfl rfl
 ·dsimp only
  by_cases hj:j=k
  ·subst hj;rw[hhk];intro hd;cases hd
  ·rw[hh' j hj];exact nd j
theorem RelS.flag {a:Act} {w:World} (R:RelS F m ⟨tm,h⟩ a w) (k:Nat) {sz:Nat} {xs:List AV} {st:Fl} (fl:Fl) (q1:fl.stale=false→st.stale=false) (q2:fl.nest=false→st.nest=false) (hk:lookE h k=some (.arr sz xs st)):RelS F m ⟨tm,(k,.arr sz xs fl)::h⟩ a w:=by
 obtain⟨⟨X,β,hX,H,Ht,KK,hJ,hD⟩,nd,gs,hl⟩:=R
 have hh':∀j,j≠k→lookE ((k,.arr sz xs fl)::h) j=lookE h j:=fun j hj=>by rw[lookE_cons,if_neg hj]
 have hhk:lookE ((k,.arr sz xs fl)::h) k=some (.arr sz xs fl):=by rw[lookE_cons,if_pos rfl]
 have E:Evo w (Dom X β) (lookE h) β w (Dom X β) (lookE ((k,.arr sz xs fl)::h)) β:=⟨Nat.le_refl _,fun b _ hd=>⟨rfl,hd⟩,fun _ _ _ _=>rfl,fun j e he=>by
  by_cases hj:j=k
  ·subst hj
   rw[hk]at he
   cases he
   exact .inr ⟨⟨xs,fl,hhk,Nat.le_refl _⟩,fun b n hm=>⟨n,Nat.le_refl _,hm⟩⟩
  ·have:=keyRefl (lookE h) β j e he
   rcases this with h1|h1
   ·exact .inl (by rw[hh' j hj];exact h1)
   ·refine .inr ?_
    cases e with
    |dead=>exact h1
    |box cs=>obtain⟨⟨cs',h2⟩,h3⟩:=h1;exact⟨⟨cs',by rw[hh' j hj];exact h2⟩,h3⟩
    |arr sz' xs' st'=>obtain⟨⟨x2,s2,h2,h3⟩,h4⟩:=h1;exact⟨⟨x2,s2,by rw[hh' j hj];exact h2,h3⟩,h4⟩⟩
 have H':HOK X (lookE ((k,.arr sz xs fl)::h)) β w:=by
  refine⟨fun j e he=>?_,fun j hj=>?_,H.disj,H.free,H.lt⟩
  ·by_cases hj:j=k
   ·subst hj
    rw[hhk]at he
    cases he
    obtain⟨e1,e2,e3,e4,e5,f,e6,e7⟩:=H.ent j _ hk
    exact⟨e1,e2,e3,e4,fun b n r hr=>⟨(e5 b n r hr).1,fun h=>(e5 b n r hr).2.1 (q1 h),(e5 b n r hr).2.2⟩,f,fun i x l v hx hv=>⟨(e6.toV i x l v hx hv).evo E,fun h=>(e6.toF (q2 h) i x l v hx hv).evo E.size E.fz⟩,e7⟩
   ·rw[hh' j hj]at he
    exact(H.ent j e he).evo E rfl fun _ _ _=>rfl
  ·rw[lookE_cons]at hj
   split at hj
   ·cases hj
   ·exact H.off j hj
 refine⟨⟨X,β,hX,H',fun t=>(Ht t).evo E,⟨fun j e he=>?_,KK.size,KK.keep,KK.own,KK.pas,KK.bs,KK.os,KK.tape,KK.output⟩,hJ,hD⟩,fun j=>?_,gs,hl⟩
 ·have:=KK.knd j e he
  by_cases hj:j=k
  ·subst hj
   cases e with
   |dead=>exact this
   |box cs=>obtain⟨cs',h2⟩:=this;(try dsimp only at h2);rw[hk]at h2;cases h2
   |arr sz' xs' sl'=>obtain⟨xs2,sl2,h2,h3⟩:=this;(try dsimp only at h2);rw[hk]at h2;cases h2;exact⟨xs,fl,hhk,h3⟩
  ·cases e with
   |dead=>exact this
   |box cs=>obtain⟨cs',h2⟩:=this;exact⟨cs',by dsimp only;rw[hh' j hj];exact h2⟩
   |arr sz' xs' sl'=>obtain⟨xs2,sl2,h2,h3⟩:=this;exact⟨xs2,sl2,by dsimp only;rw[hh' j hj];exact h2,h3⟩
 ·dsimp only
  by_cases hj:j=k
  ·subst hj;rw[hhk];intro hd;cases hd
  ·rw[hh' j hj];exact nd j
theorem sim_stale {c:Code} {Q:Exit→St→Prop} (k:Nat) {sz:Nat} {xs:List AV} {sb:Bool} (hk:lookE h k=some (.arr sz xs ⟨sb,false⟩)) (hs:Sim P F m c ⟨tm,(k,.arr sz xs true)::h⟩ Q):Sim P F m c ⟨tm,h⟩ Q:=
 ⟨fun a w R=>hs.run a w (R.flag k true (fun h=>by cases h) (fun _=>rfl) hk)⟩
theorem sim_nest {c:Code} {Q:Exit→St→Prop} (k:Nat) {sz:Nat} {xs:List AV} {sb:Bool} (hk:lookE h k=some (.arr sz xs ⟨sb,false⟩)) (hs:Sim P F m c ⟨tm,(k,.arr sz xs ⟨sb,true⟩)::h⟩ Q):Sim P F m c ⟨tm,h⟩ Q:=
 ⟨fun a w R=>hs.run a w (R.flag (st:=⟨sb,false⟩) k ⟨sb,true⟩ (fun h=>h) (fun h=>Bool.noConfusion h) hk)⟩
theorem RelS.wkT {a:Act} {w:World} (R:RelS F m ⟨tm,h⟩ a w) (t:Nat) {v v':AV} (hv:look tm t=v) (he:wkV v=v') (hg:∀i,v'≠ .gh i):RelS F m ⟨(t,v')::tm,h⟩ a w:=by
 obtain⟨⟨X,β,hX,H,Ht,KK,hJ,hD⟩,nd,gs,hl⟩:=R
 refine⟨⟨X,β,hX,H,fun j=>?_,KK,fun i hi=>?_,hD⟩,nd,gs,hl⟩
 ·rw[look_cons]
  split
  ·rename_i hj
   subst hj
   have:=(Ht j).wk
   dsimp only at this
   rw[hv,he]at this
   exact this
  ·exact Ht j
 ·rw[look_cons]at hi
  split at hi
  ·exact absurd hi (hg i)
  ·exact hJ i hi
theorem x_wk {ops:Array Oper} {l:List Oper} {fs:List FP} {Q:List FP→St→Prop} (t:Nat) {v v':AV} (hv:look tm t=v) (he:wkV v=v') (hg:v'.isGh=false) (hk:OpsX P F m ops false l ⟨(t,v')::tm,h⟩ fs Q):OpsX P F m ops false l ⟨tm,h⟩ fs Q:=
 ⟨fun a w R=>hk.run a w (R.wkT t hv he fun i hi=>by rw[hi]at hg;cases hg)⟩
theorem sim_wk {c:Code} {Q:Exit→St→Prop} (t:Nat) {v v':AV} (hv:look tm t=v) (he:wkV v=v') (hg:v'.isGh=false) (hk:Sim P F m c ⟨(t,v')::tm,h⟩ Q):Sim P F m c ⟨tm,h⟩ Q:=
 ⟨fun a w R=>hk.run a w (R.wkT t hv he fun i hi=>by rw[hi]at hg;cases hg)⟩
theorem sim_compact {c:Code} {Q:Exit→St→Prop} (k:Nat) (ws:List Nat) {sz:Nat} {xs:List AV} {sb:Bool} (hk:lookE h k=some (.arr sz xs ⟨sb,false⟩)) (hK0:K0.contains k=false) (hws:ws.map (look tm)=ws.map fun _=> .ref k 0 xs.length)
  (htm:tm.all (fun p=>ws.contains p.1|| !p.2.refs.contains k)=true) (hbx:h.all (fun p=>offE k p.2)=true) (hs:Sim P F m c ⟨tm,(k,.arr sz xs false)::h⟩ Q):Sim P F m c ⟨tm,h⟩ Q:=
 ⟨fun a w R=>hs.run a w (R.compact k ws hk hK0 hws htm hbx)⟩
end
def p2 (n:Int):Int:=2 ^ n.toNat
def shrI (m n:Int):Int:=m.fdiv (2 ^ n.toNat)
theorem p2_bd (n:Int) (h:n≤40):1≤p2 n∧p2 n≤1099511627776:=by
 unfold p2
 have h1:(2:Int) ^ n.toNat=((2 ^ n.toNat:Nat):Int):=by simp
 have h2:2 ^ n.toNat≤2 ^ 40:=Nat.pow_le_pow_right (by omega) (by omega)
 have h3:0<2 ^ n.toNat:=Nat.two_pow_pos _
 rw[h1]
 omega
section
variable {P:Program} {tm:List (Nat×AV)} {h:List (Nat×Ent)} {tx ty:Nat} {x y:Operand}
theorem stp_shlI {k':IntKind} {n:Int} (hx:opv (look tm) x= .s (.int .i64 1)) (hy:opv (look tm) y= .s (.int k' n)) (h0:0≤n∧n≤40):Stp P ⟨tm,h⟩ (.binOp .shl tx x y ty) (.s (.int .i64 (p2 n))) [] [] []:=by
 have e:IntKind.i64.wrap (1*2 ^ (min n.toNat IntKind.i64.bits))=p2 n:=by
  have hb:IntKind.i64.bits=64:=rfl
  have h1:=p2_bd n h0.2
  rw[hb,show min n.toNat 64=n.toNat by omega,Int.one_mul]
  exact wrap_in (k:= .i64) ⟨by unfold p2 at h1;show -9223372036854775808≤_;omega,by unfold p2 at h1;show _≤9223372036854775807;omega⟩
 rw[←e]
 exact stp_shift (.inl ⟨rfl,rfl⟩) hx hy h0.1
theorem stp_shrI {k':IntKind} {m n:Int} (hx:opv (look tm) x= .s (.int .i64 m)) (hy:opv (look tm) y= .s (.int k' n)) (h0:0≤n∧n≤40):Stp P ⟨tm,h⟩ (.binOp .shr tx x y ty) (.s (.int .i64 (shrI m n))) [] [] []:=by
 have hb:IntKind.i64.bits=64:=rfl
 refine stp_shift (.inr ⟨rfl,?_⟩) hx hy h0.1
 rw[hb,show min n.toNat 64=n.toNat by omega]
 rfl
end
end
section
section
variable {P:Program} {K0:List Nat} {F:Fr K0} {m:Nat}
theorem sim_join {x y:Code} {Q:Exit→St→Prop} {st:St} (K ts:List Nat) (st1:St) (hK:K0.all (K.contains ·)=true) (h1:Sim P F m x st (fun e s=>e= .normal∧restr K ts s=st1)) (h2:Sim P F m y st1 Q):Sim P F m x st (thenS P F m y Q):=
 ⟨fun a w H=>Code.wpIn_mono (fun e a' w' ⟨s,⟨he,hs⟩,hr⟩=>by subst he;exact⟨st1,h2,hs▸RelS.restr hr K ts hK⟩) (h1.run a w H)⟩
end
section
variable {P:Program} {tm:List (Nat×AV)} {h:List (Nat×Ent)} {tx ty:Nat} {x y:Operand}
theorem stp_strEqV {a b:List Int} {v:Bool} (hx:opv (look tm) x= .s (.string (strOfNums a))) (hy:opv (look tm) y= .s (.string (strOfNums b))) (hv:eqY a b=v):Stp P ⟨tm,h⟩ (.binOp .eql tx x y ty) (.s (.bool v)) [] [] []:=hv▸stp_strEq hx hy
theorem stp_strNeV {a b:List Int} {v:Bool} (hx:opv (look tm) x= .s (.string (strOfNums a))) (hy:opv (look tm) y= .s (.string (strOfNums b))) (hv:eqY a b=v):Stp P ⟨tm,h⟩ (.binOp .neq tx x y ty) (.s (.bool (!v))) [] [] []:=hv▸stp_strNe hx hy
end
section
variable {P:Program} {K0:List Nat} {F:Fr K0} {m:Nat} {TT:List TI} {ops:Array Oper} {dr:Bool} {rest:List Oper} {tm:List (Nat×AV)} {h:List (Nat×Ent)} {fs:List FP} {Q:List FP→St→Prop} {t ty:Nat} {pos:String} {after:Array Edge}
theorem x_mksK (kn:Nat) (hP:TOK P TT) {T e n:Nat} {x y:Operand} {ti te:TI} {kx ky:IntKind} {nx ny:Int} {z:AV} (hx:opv (look tm) x= .s (.int kx nx)) (hy:opv (look tm) y= .s (.int ky ny)) (hT:TT[T]? =some ti) (hd:ti.d= .slice e) (he:TT[e]? =some te)
  (hb:Nat.ble te.bytes 65536=true) (hp:Nat.ble 1 te.size=true) (hzl:Nat.beq te.zero.length te.size=true) (hz1:te.zero.all (·.oneCell')=true) (hzc:Nat.beq (zeroA te).cells.length te.size=true) (hzc2:(zeroA te).cells=te.zero.map .s) (hz:zeroA te=z)
  (hnx:nx=(n:Int)) (hny:nx≤ny) (hmax:ny≤1073741824) (hm:Nat.blt t m=true) (hnn:(lookE h kn).isNone=true)
  {sz:Nat} (hse:te.size=sz) (hk:OpsX P F m ops dr rest ⟨(t,.ref kn 0 n)::tm,(kn,.arr sz (List.replicate n z) false)::h⟩ (⟨true,[kn,kn],[]⟩::fs) Q):OpsX P F m ops dr (⟨some t,.makeSlice T x y,ty,pos,after,none⟩::rest) ⟨tm,h⟩ fs Q:=by
 subst hse hz;exact x_w (nw:=[kn]) (stp_makeSlice hP kn hx hy hT hd he hnx hny hmax hb hp hzl hz1 hzc hzc2) hm (all1 hnn) rfl hk
end
end
end Av
end Go.Proofs.YtaikgchmpieooaaGreat
