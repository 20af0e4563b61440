/- Part 4. -/
import Derived.Test.YtmamjhmoegjapaaGreatQ03
import Derived.Great.FillDense
import Derived.Laws.Tables
import Derived.Laws.MakeOwn
import Derived.Tactics
import Derived.Deep.LoopGhost
import Derived.TacticsIn
import Derived.OrdersIn
import Derived.RangeFuncCalls
import Derived.RangeFuncRecord
import Derived.LoopIn
namespace Go.Proofs.YtmamjhmoegjapaaGreat
namespace Av
set_option linter.all false
section
def PJ (places:Nat->Option (Nat×Nat)):List AV->List (Nat×AV)->Option (List AV)
 |cells,[]=>some cells
 |cells,(i,v)::rest=>match places i with
  |none=>none
  |some (off,size)=>bif Nat.beq v.cells.length size&&(Nat.ble (off+size) cells.length&&v.ok)then PJ places (VH cells off v.cells) rest else none
theorem PK {w:World} {D:Nat->Prop} {h:yH} {β:uB} (places:Nat->Option (Nat×Nat)):∀(parts:List (Nat×AV)) (parts':List (Nat×Value)) (cs:List AV) (c:Array Value) (cs':List AV),PJ places cs parts=some cs'->
  parts'.length=parts.length->(∀(j:Nat) p p',parts[j]? =some p->parts'[j]? =some p'->p'.1=p.1/\zV w D h β p.2 p'.2)->
  c.size=cs.length->(∀i,i<c.size->(c.getD i undef).oneCell'=true)->(∀(i:Nat) u,cs[i]? =some u->zV w D h β u (c.getD i undef))->
  ∃c',Instr.fill places c parts'=some c'/\c'.size=cs'.length/\(∀i,i<c'.size->(c'.getD i undef).oneCell'=true)/\∀(i:Nat) u,cs'[i]? =some u->zV w D h β u (c'.getD i undef)
 | [],parts',cs,c,cs',hf,hl,_,h1,h2,h3=>by
  obtain rfl:parts'=[]:=zYc ES;cases hf;exact⟨c,rfl,h1,h2,h3⟩
 | (i, v)::rest,parts',cs,c,cs',hf,hl,hp,h1,h2,h3=>by
  cases parts' with
  |nil=>simp at hl
  | cons p' rest'=>
   obtain⟨e1,e2⟩:=hp 0 (i,v) p' rfl rfl;obtain⟨i',v'⟩:=p';dsimp only at e1 e2;subst e1;unfold PJ at hf
   cases hpl:places i' with
   |none=>simp[hpl]at hf
   | some q=>
    obtain⟨off,size⟩:=q;simp only[hpl]at hf
    cases hc:Nat.beq v.cells.length size&&(Nat.ble (off+size) cs.length&&v.ok)with
    |false=>simp[hc]at hf
    | true=>
     simp only[hc,zYk]at hf;simp only[zXo]at hc;have q1:=zX4 hc.1;have q2:=zXq hc.2.1;obtain⟨r1,r2,r3⟩:=e2.cells hc.2.2;obtain⟨s1,s2⟩:=Great.foldl_set off v'.cells.toList 0 c
     have hfold:v'.cells.zipIdx.foldl (λcs (x:Value×Nat)=>cs.setIfInBounds (off+x.2) x.1) c=(v'.cells.toList.zipIdx 0).foldl (λcs (x:Value×Nat)=>cs.setIfInBounds (off+x.2) x.1) c:=by
      rw[<-Array.foldl_toList,Array.toList_zipIdx]
     generalize hc2:(v'.cells.toList.zipIdx 0).foldl (λcs (x:Value×Nat)=>cs.setIfInBounds (off+x.2) x.1) c=c2 at*
     have hat:∀k,c2.getD k undef=if off<=k/\k<off+size then v'.cells.getD (k-off) undef else c.getD k undef:=λk=>by
      have hk:=s2 k;simp only[yAd,zZ6]at hk;by_cases hin:off<=k/\k<off+size
      ·rw[zW9 hin];rw[zW9 (by omega)]at hk;apply gW;rw[hk];have:=kP v'.cells (k-off) (by omega);simpa using this
      ·rw[zW8 hin];rw[zW8 (by omega)]at hk;simp[zX5,hk]
     obtain⟨c',t1,t2,t3,t4⟩:=PK places rest rest' (VH cs off v.cells) c2 cs' hf ES (λj p p' hj hj'=>hp (j+1) p p' (by simpa using hj) (by simpa using hj'))
      (by rw[s1,dR];exact h1) (λk hk=>by
       rw[hat];split
       ·exact r2 _ (by omega)
       ·exact h2 k (by omega)) (λk u hu=>by
       rw[ZX _ _ _ _ (by omega),q1]at hu;rw[hat];split
       ·rename_i hin;rw[zW9 hin]at hu;exact r3 _ u hu
       ·rename_i hin;rw[zW8 hin]at hu
        exact h3 k u hu)
     refine⟨c',?_,t2,t3,t4⟩;unfold Instr.fill;simp only[hpl];rw[zW8 wQ,hfold];exact t1
def AN (TT:List TI):List (Nat×Nat)->Option (List (Nat×Nat))
 | []=>some []
 |(o,t)::r=>match TT[t]?,AN TT r with
  |some ti,some l=>some ((o,ti.size)::l)
  |_,_=>none
theorem EJ {P:Program} {TT:List TI} (hP:uL P TT):∀(fs:List Field) (l:List (Nat×Nat)),AN TT (fs.map λf=>(f.offset,f.type))=some l->fs.mapM (λf=>(P.info? f.type).map λi=>(f.offset,i.size))=some l
 | [],l,h=>by simp[AN]at h;simp[h]
 | f::fs,l,h=>by
  simp only[zYi,AN]at h
  cases ht:TT[f.type]? with
  |none=>simp[ht]at h
  | some ti=>
   cases hr:AN TT (fs.map λf=>(f.offset,f.type))with
   |none=>simp[ht,hr]at h
   |some l'=>
    simp[ht,hr]at h;subst h;obtain⟨i,_,_,hi,_,_,_,hs,_⟩:=vV (hP _ _ ht);simp[yC8,hi,EJ hP fs l' hr,hs]
section ops
variable {P:Program} {TT:List TI} {st:St}
def bL (st:St) (ps:Array (Nat×Operand)):List (Nat×AV):=ps.toList.map λp=>(p.1,yL (zG st.tm) p.2)
theorem EK {w:World} {D:Nat->Prop} {h:yH} {β:uB} {op:Op} {tm:Nat->AV} {a:Act} (H:∀t,zV w D h β (tm t) (a.eval (.tmp t))) (hg:∀t,t∈fK op->tm t=zG st.tm t) {ps:Array (Nat×Operand)} (hps:∀p∈ps.toList,p.2∈op.operands)
  (j:Nat) (p:Nat×AV) (p':Nat×Value) (h1:(bL st ps)[j]? =some p) (h2:(ps.map λx=>(x.1,a.eval x.2)).toList[j]? =some p'):p'.1=p.1/\zV w D h β p.2 p'.2:=by
 simp only[bL,zXd,zXn]at h1;obtain⟨q,hq,rfl⟩:=h1;simp only[yCa,zXd,hq,Option.map_some,zYj]at h2;subst h2;exact⟨rfl,jL H hg (hps q (zYt hq)) rfl⟩
theorem EL {w:World} {D:Nat->Prop} {h:yH} {β:uB} (z:Value) (zs:List Value) (hz:z.cells.toList=zs) (h1:zs.all (·.oneCell')=true):
  z.cells.size=(zs.map AV.s).length/\(∀i,i<z.cells.size->(z.cells.getD i undef).oneCell'=true)/\∀(i:Nat) u,(zs.map AV.s)[i]? =some u->zV w D h β u (z.cells.getD i undef):=by
 subst hz;refine⟨by simp,λi hi=>zXm.1 h1 _ (zYt (by simpa using kP _ i hi)),λi u hu=>?_⟩;simp only[zXd,zXn]at hu;obtain⟨v,hv,rfl⟩:=hu;rw[gW ER];exact .fz _ _ (.s _)
theorem zDq (hP:uL P TT) {T:Nat} {ps:Array (Nat×Operand)} {ti:TI} {fs pl:List (Nat×Nat)} {cs:List AV} (hT:TT[T]? =some ti) (hd:ti.d= .str fs) (h1:ti.zero.all (·.oneCell')=true) (hpl:AN TT fs=some pl)
  (hf:PJ (pl[·]?) (ti.zero.map .s) (bL st ps)=some cs):wR P st (.build T ps) (.agg cs) [] [] []:=
 yQ λoo X tm h w β a ho hg hr HH Ht=>by
  obtain⟨dst,op',type,pos,after,guard⟩:=oo;dsimp only at ho;subst ho;obtain⟨i,u,z,hi,hu,hz,hd',_,_,hzz⟩:=vV (hP _ _ hT);obtain⟨fields,rfl,hm⟩:=zI8 (hd'.symm.trans hd);have hpl':=EJ hP fields.toList pl (by rw[hm];exact hpl);obtain⟨z1,z2,z3⟩:=EL (w:=w) (D:=xF X β) (h:=h) (β:=β) z ti.zero hzz.symm h1
  obtain⟨c',f1,f2,f3,f4⟩:=PK (w:=w) (D:=xF X β) (h:=h) (β:=β) (pl[·]?) (bL st ps) (ps.map λx=>(x.1,a.eval x.2)).toList _ _ cs hf (by simp[bL]) (EK (op:= .build T ps) Ht hg λp hp=>by
   simp only[Op.operands,yCz]
   exact zYo.2 ⟨p,hp,rfl⟩) z1 z2 z3
  have hb:P.built T (ps.map λx=>(x.1,a.eval x.2)).toList=some c':=by
   simp only[Program.built,hi,hu,hz,hpl'];simpa using f1
  exact⟨_,by simp only[execOp,Sem.run_bind,run_build w T _ c' hb,Result.andThen_ok,Sem.run_pure],.agg _ _ f2 f3 f4⟩
theorem NQ (hP:uL P TT) {T n e:Nat} {ps:Array (Nat×Operand)} {ti te:TI} {cs:List AV} (hT:TT[T]? =some ti) (hd:ti.d= .arr n e) (he:TT[e]? =some te) (h1:ti.zero.all (·.oneCell')=true)
  (hf:PJ (λi=>some (i*te.size,te.size)) (ti.zero.map .s) (bL st ps)=some cs):wR P st (.build T ps) (.agg cs) [] [] []:=
 yQ λoo X tm h w β a ho hg hr HH Ht=>by
  obtain⟨dst,op',type,pos,after,guard⟩:=oo;dsimp only at ho;subst ho;obtain⟨i,u,z,hi,hu,hz,hd',_,_,hzz⟩:=vV (hP _ _ hT);obtain rfl:=zI7 (hd'.symm.trans hd);obtain⟨ie,_,_,hie,_,_,_,hse,_,_⟩:=vV (hP _ _ he);obtain⟨z1,z2,z3⟩:=EL (w:=w) (D:=xF X β) (h:=h) (β:=β) z ti.zero hzz.symm h1
  obtain⟨c',f1,f2,f3,f4⟩:=PK (w:=w) (D:=xF X β) (h:=h) (β:=β) (λi=>some (i*te.size,te.size)) (bL st ps) (ps.map λx=>(x.1,a.eval x.2)).toList _ _ cs hf (by simp[bL]) (EK (op:= .build T ps) Ht hg λp hp=>by
   simp only[Op.operands,yCz]
   exact zYo.2 ⟨p,hp,rfl⟩) z1 z2 z3
  have hb:P.built T (ps.map λx=>(x.1,a.eval x.2)).toList=some c':=by
   simp only[Program.built,hi,hu,hz,hie,<-hse];exact f1
  exact⟨_,by simp only[execOp,Sem.run_bind,run_build w T _ c' hb,Result.andThen_ok,Sem.run_pure],.agg _ _ f2 f3 f4⟩
theorem PL (ne:Bool) (hP:uL P TT) {T e len:Nat} {ps:Array (Nat×Operand)} {ti te:TI} {xs:List AV} (hT:TT[T]? =some ti) (hd:ti.d= .slice e) (he:TT[e]? =some te) (hp:Nat.ble 1 te.size=true) (hps:bL st ps=(xs.zipIdx 0).map λx=>(x.2,x.1)) (hl:Nat.beq xs.length len=true)
  (hw:xs.all (λx=>Nat.beq x.cells.length te.size&&(x.ok&&(ne||x.nokey)))=true) (hb:Nat.ble (len*te.size) 65536=true) (hzl:Nat.beq te.zero.length te.size=true):
  ∀ (o:Oper) (X:Nat->Prop) (tm:Nat->AV) (h:yH) (w:World) (β:uB) (a:Act),o.op= .buildSlice T len ps->(∀t,t∈fK (.buildSlice T len ps)->tm t=zG st.tm t)->(∀t,zV w (xF X β) h β (tm t) (a.eval (.tmp t)))->
   ∃(C:Array Value) (f:Nat->Nat->Value),(execOp a.eval o).run P w= .ok (.value (.slice (some ⟨w.heap.size,0,none⟩) xs.length xs.length)) (w.alloc (.cells C e))/\C.size=xs.length*te.size/\xs.length<=cC/\xs.length=len/\
    (∀(i:Nat) (x:AV),xs[i]? =some x->x.cells.length=te.size)/\(∀i j,i<xs.length->j<te.size->C[i*te.size+j]? =some (f i j))/\(∀i j,i<xs.length->j<te.size->(f i j).oneCell'=true)/\
    jX w (xF X β) h β ne xs f:=by
 intro o X tm h w β a ho hg Ht;obtain⟨dst,op',type,pos,after,guard⟩:=o;dsimp only at ho;subst ho;have hp:=zXq hp;have hl:=zX4 hl;have hb:=zXq hb;have hzl:=zX4 hzl;subst hl;obtain⟨i,z,hu,hi,hz,e1,e2,e3⟩:=wG hP hT hd he
 have hxs:∀(j:Nat) (x:AV),xs[j]? =some x->x.cells.length=te.size/\x.ok=true/\(ne||x.nokey)=true:=λj x hx=>by
  have:=zXm.1 hw x (zYt hx);simp only[zXo]at this;exact⟨zX4 this.1,this.2⟩
 have hlen:ps.toList.length=xs.length:=by
  have:=zX7 List.length hps;simpa [bL]using this
 let vs:List Value:=ps.toList.map λp=>a.eval p.2
 have hvl:vs.length=xs.length:=by simp[vs];simpa using hlen
 have hpx:∀(j:Nat) (x:AV),xs[j]? =some x->∃p,ps.toList[j]? =some p/\p.1=j/\yL (zG st.tm) p.2=x:=λj x hx=>by
  have hj:=zX7 (·[j]?) hps;simp only[bL,zXd,yBt,hx,Option.map_some,zYe]at hj
  cases hpj:ps.toList[j]? with
  |none=>simp[hpj]at hj
  |some p=>
   simp only[hpj,Option.map_some,zYj,zY7]at hj;exact⟨p,rfl,hj.1,hj.2⟩
 have hvs:∀(j:Nat) (x:AV),xs[j]? =some x->∃v,vs[j]? =some v/\zV w (xF X β) h β x v:=λj x hx=>by
  obtain⟨p,hp1,_,hp3⟩:=hpx j x hx;refine⟨a.eval p.2,by simp only[vs,zXd,hp1,Option.map_some],jL (op:= .buildSlice T xs.length ps) Ht hg ?_ hp3⟩;simp only[Op.operands,yCz];exact zYo.2 ⟨p,zYt hp1,rfl⟩
 have hpe:(ps.map λx=>(x.1,a.eval x.2)).toList=(vs.zipIdx 0).map λx=>(x.2,x.1):=by
  apply zYp;intro j;simp only[yCa,zXd,yBt,vs,zYe];by_cases hj:j<xs.length
  ·obtain⟨p,hp1,hp2,_⟩:=hpx j xs[j] (by simp[hj]);simp[hp1,hp2]
  ·have:ps.toList[j]? =none:=zX0 (by omega);simp[this]
 have hvc:∀v∈vs,v.cells.size=te.size:=λv hv=>by
  obtain⟨j,hj⟩:=yAn hv;have hjx:j<xs.length:=by rw[<-hvl];exact(zXv.1 hj).1
  obtain⟨v',h1,h2⟩:=hvs j xs[j] (by simp[hjx]);rw[hj]at h1;cases h1;obtain⟨q1,q2,_⟩:=hxs j xs[j] (by simp[hjx]);rw[(h2.cells q2).1,q1]
 have hzs:z.cells.size=te.size:=by rw[<-hzl,<-e3];simp
 have hfill:=Great.fill_whole (s:=te.size) (by omega) vs ((Array.range (xs.length*te.size)).map (z.cells[· % z.cells.size]!)) hvc (by simp[hvl]);have hflat:=Great.flat_get (s:=te.size) (by omega) vs hvc;generalize hC:(vs.flatMap λv=>v.cells.toList).toArray=C at hfill
 have hCs:C.size=xs.length*te.size:=by
  rw[<-hC]
  have:∀l:List Value,(∀v∈l,v.cells.size=te.size)->(l.flatMap λv=>v.cells.toList).length=l.length*te.size:=by
   intro l
   induction l with
   |nil=>simp
   |cons v l ih=>
    intro hv;rw[List.flatMap_cons,zXb,ih λu hu=>hv u (by simp[hu])];have:=hv v zS;simp only[zZ6,this,zXl,zYb,zY9];omega
  simpa [hvl]using this vs hvc
 have hrun:(execOp a.eval ⟨dst,.buildSlice T xs.length ps,type,pos,after,guard⟩).run P w= .ok (.value (.slice (some ⟨w.heap.size,0,none⟩) xs.length xs.length)) (w.alloc (.cells C e)):=by
  have h24:¬xs.length*te.size>2 ^ 24:=by omega
  have hs:=uQ (hP _ _ he) w;simp only[execOp,Instr.buildSlice,Sem.run_bind,EX w hu,Result.andThen_ok,hs];by_cases h0:xs.length*te.size=0
  ·have hx0:xs=[]:=by
    rcases Nat.mul_eq_zero.1 h0 with h|h
    ·exact zYc h
    ·omega
   subst hx0
   have hps0:ps= #[]:=by
    have:ps.toList.length=0:=by simpa using hlen
    exact Array.eq_empty_of_size_eq_zero EU
   subst hps0;have hC0:C= #[]:=by simpa using hCs
   subst hC0;simp[Instr.fill,newRow,Array.range_zero']
  ·have hpe':(ps.map λx=>(x.1,a.eval x.2)).toList=(vs.zipIdx 0).map λx=>(x.2,x.1):=hpe
   simp only[zW8 h24,Sem.run_pure,Result.andThen_ok,zW8 h0,Sem.run_bind,zeroValue,typeInfo,run_program,hi,hz,hpe'];rw[hfill];simp[newRow]
 have hcells:∀(j:Nat) (x:AV),xs[j]? =some x->∃v,vs[j]? =some v/\v.cells.size=te.size/\(∀q,q<te.size->C[j*te.size+q]? =some (v.cells.getD q undef))/\(∀q,q<te.size->(v.cells.getD q undef).oneCell'=true)/\
   ∀(q:Nat) u,x.cells[q]? =some u->zV w (xF X β) h β u (v.cells.getD q undef)/\(ne=false->xE w (xF X β) u (v.cells.getD q undef)):=λj x hx=>by
  obtain⟨v,h1,h2⟩:=hvs j x hx;obtain⟨q1,q2,q3⟩:=hxs j x hx;obtain⟨r1,r2,r3⟩:=h2.cells q2;refine⟨v,h1,by omega,λq hq=>?_,λq hq=>r2 q (by omega),λq u hu=>⟨r3 q u hu,λhn=>(r3 q u hu).toF ?_⟩⟩
  ·have hd':(j*te.size+q)/te.size=j:=Nat.div_eq_of_lt_le (by omega) (by rw[zYb,zY9];omega);have hm':(j*te.size+q) % te.size=q:=by rw[yBr,yBz];exact zZt hq
   have:=hflat (j*te.size+q);rw[hd',hm',h1]at this;rw[<-hC];simp only[zZz,this,Option.bind_some];exact kP _ _ (by omega)
  ·rw[hn,yAr]at q3
   cases x<;>first
    |(simp[AV.cells]at hu;cases q<;>simp at hu;subst hu;exact q3)
    |(exact kO (by simpa [AV.nokey,AV.cells]using q3) hu)
 refine⟨C,λj q=>(vs.getD j undef).cells.getD q undef,hrun,hCs,?_,rfl,λj x hx=>(hxs j x hx).1,?_,?_,?_⟩
 ·have:xs.length*1<=xs.length*te.size:=Nat.mul_le_mul_left _ hp;unfold cC;omega
 ·intro j q hj hq;obtain⟨v,h1,_,h3,_⟩:=hcells j xs[j] (by simp[hj]);have:vs.getD j undef=v:=by simp[List.getD,h1]
  dsimp only;rw[this];exact h3 q hq
 ·intro j q hj hq;obtain⟨v,h1,_,_,h4,_⟩:=hcells j xs[j] (by simp[hj]);have:vs.getD j undef=v:=by simp[List.getD,h1]
  dsimp only;rw[this];exact h4 q hq
 ·intro j x q u hx hu;obtain⟨v,h1,_,_,_,h5⟩:=hcells j x hx;have:vs.getD j undef=v:=by simp[List.getD,h1]
  dsimp only;rw[this];exact h5 q u hu
theorem yJ (hP:uL P TT) {T e len:Nat} {ps:Array (Nat×Operand)} {ti te:TI} {xs:List AV} (k:Nat) (hT:TT[T]? =some ti) (hd:ti.d= .slice e) (he:TT[e]? =some te) (hp:Nat.ble 1 te.size=true) (hps:bL st ps=(xs.zipIdx 0).map λx=>(x.2,x.1)) (hl:Nat.beq xs.length len=true)
  (hw:xs.all (λx=>Nat.beq x.cells.length te.size&&(x.ok&&x.nokey))=true) (hb:Nat.ble (len*te.size) 65536=true) (hzl:Nat.beq te.zero.length te.size=true):
  wR P st (.buildSlice T len ps) (.ref k 0 len) [(k,.arr te.size xs false)] [] [k]:=by
 refine⟨?_⟩;intro X tm h hg _ hn o a w β ho HH Ht;obtain⟨C,f,hrun,hCs,hmx,hl',q1,q2,q3,q4⟩:=PL false hP hT hd he hp hps hl hw hb hzl o X tm h w β a ho hg Ht;rw[hrun];subst hl';obtain⟨β',G,hv⟩:=xM.newArr HH (hn k zS) C e te.size xs xs.length f (zXq hp) hmx (zXc _) (by rw[hCs]) (DA hCs (zXq hp) q2 q3) q1 q2 q3 (q4.toF rfl);exact⟨β',G,hv⟩
theorem SA (hP:uL P TT) {T e len:Nat} {ps:Array (Nat×Operand)} {ti te:TI} {xs:List AV} (k:Nat) (hT:TT[T]? =some ti) (hd:ti.d= .slice e) (he:TT[e]? =some te) (hp:Nat.ble 1 te.size=true) (hps:bL st ps=(xs.zipIdx 0).map λx=>(x.2,x.1)) (hl:Nat.beq xs.length len=true)
  (hw:xs.all (λx=>Nat.beq x.cells.length te.size&&x.ok)=true) (hb:Nat.ble (len*te.size) 65536=true) (hzl:Nat.beq te.zero.length te.size=true):
  wR P st (.buildSlice T len ps) (.ref k 0 len) [(k,.arr te.size xs ⟨false,true⟩)] [] [k]:=by
 refine⟨?_⟩;intro X tm h hg _ hn o a w β ho HH Ht;obtain⟨C,f,hrun,hCs,hmx,hl',q1,q2,q3,q4⟩:=PL true hP hT hd he hp hps hl (by simpa using hw) hb hzl o X tm h w β a ho hg Ht;rw[hrun];subst hl';obtain⟨β',G,hv⟩:=xM.newArrN HH (hn k zS) C e te.size xs xs.length f (zXq hp) hmx (zXc _) (by rw[hCs]) (DA hCs (zXq hp) q2 q3) q1 q2 q3 (q4.toV);exact⟨β',G,hv⟩
theorem SD (hP:uL P TT) {T e len:Nat} {ps:Array (Nat×Operand)} {ti te:TI} {xs:List AV} (hT:TT[T]? =some ti) (hd:ti.d= .slice e) (he:TT[e]? =some te) (hp:Nat.ble 1 te.size=true) (hps:bL st ps=(xs.zipIdx 0).map λx=>(x.2,x.1)) (hl:Nat.beq xs.length len=true)
  (hw:xs.all (λx=>Nat.beq x.cells.length te.size&&(x.ok&&x.nokey))=true) (hb:Nat.ble (len*te.size) 65536=true) (hzl:Nat.beq te.zero.length te.size=true):
  wR P st (.buildSlice T len ps) (.sl true xs) [] [] []:=by
 refine⟨?_⟩;intro X tm h hg _ hn o a w β ho HH Ht;obtain⟨C,f,hrun,hCs,hmx,hl',q1,q2,q3,q4⟩:=PL false hP hT hd he hp hps hl hw hb hzl o X tm h w β a ho hg Ht;rw[hrun];rw[dE];exact⟨β,xM.newFz HH C e,.fz _ _ (xE.newArr HH C e te.size xs xs.length f (zXq hp) hmx (zXc _) q1 q2 q3 (q4.toF rfl))⟩
def vU (ti:TI):AV:=bif ti.d.agg then .agg (ti.zero.map .s)else match ti.zero with
 | [v]=> .s v
 |_=> .bot
theorem YO (hP:uL P TT) {T e n:Nat} {x y:Operand} {ti te:TI} {kx ky:IntKind} {nx ny:Int} (k:Nat) (hx:yL (zG st.tm) x= .s (.int kx nx)) (hy:yL (zG st.tm) y= .s (.int ky ny)) (hT:TT[T]? =some ti) (hd:ti.d= .slice e) (he:TT[e]? =some te)
  (hnx:nx=(n:Int)) (hny:nx<=ny) (hmax:ny<=1073741824) (hb:Nat.ble te.bytes 65536=true) (hp:Nat.ble 1 te.size=true) (hzl:Nat.beq te.zero.length te.size=true) (hz1:te.zero.all (·.oneCell')=true) (hzc:Nat.beq (vU te).cells.length te.size=true) (hzc2:(vU te).cells=te.zero.map .s):
  wR P st (.makeSlice T x y) (.ref k 0 n) [(k,.arr te.size (List.replicate n (vU te)) false)] [] [k]:=by
 refine⟨?_⟩;intro X tm h hg _ hn o a w β ho HH Ht;obtain⟨dst,op',type,pos,after,guard⟩:=o;dsimp only at ho;subst ho;have h1:=vI Ht hg (x:=x) uE hx;have h2:=vI Ht hg (x:=y) uE hy;have hp:=zXq hp;have hb:=zXq hb;have hzl:=zX4 hzl;have hzc:=zX4 hzc;subst hnx;obtain⟨i,z,hu,hi,hz,e1,e2,e3⟩:=wG hP hT hd he
 have hbytes:(i.bytes:Int)*ny<=281474976710656:=by
  obtain⟨m,rfl⟩:=zZ2 (show 0<=ny by omega);have:i.bytes*m<=65536*1073741824:=yAe (by omega) (by omega);have h3:(i.bytes:Int)*(m:Int)=((i.bytes*m:Nat):Int):=by simp
  rw[h3];omega
 have hrun:=run_make (P:=P) w T e i z hu hi hz kx ky (n:Int) ny (by omega) hny hbytes (by omega)
 have hex:(execOp a.eval ⟨dst,.makeSlice T x y,type,pos,after,guard⟩).run P w= .ok (.value (.slice (some ⟨w.heap.size,0,none⟩) n ny.toNat)) (w.alloc (.cells (madeCells z.cells (ny.toNat*i.size)) e)):=by
  simp only[execOp,h1,h2,Sem.run_bind,hrun,Result.andThen_ok,Sem.run_pure];rfl
 rw[hex];have hzs:z.cells.size=te.size:=by rw[<-hzl,<-e3];simp
 have hrl:(List.replicate n (vU te)).length=n:=by simp
 have hat:∀(j:Nat) v,(List.replicate n (vU te))[j]? =some v->v=vU te:=λj v hv=>by
  rw[zY4]at hv;split at hv
  ·exact(zZr hv).symm
  ·cases hv
 have hzat:∀j,j<te.size->∃v,te.zero[j]? =some v/\z.cells.getD j undef=v:=λj hj=>by
  have:=kP z.cells j (by omega);refine⟨_,?_,rfl⟩;rw[<-e3];simpa using this
 have:=xM.newArr HH (hn k zS) (madeCells z.cells (ny.toNat*i.size)) e te.size (List.replicate n (vU te)) ny.toNat (λ_ j=>z.cells.getD j undef) hp (by rw[hrl];unfold cC;omega) (by rw[hrl];omega) (by rw[size_madeCells,e1]) (uR.get (uR.made (λv hv=>zXm.1 hz1 v PR) (by omega) _))
  (λj v hv=>by rw[hat j v hv];exact hzc) (λi' j hi' hj=>by
   rw[hrl]at hi'
   have hlt:i'*te.size+j<ny.toNat*te.size:=by
    have:=zXt te.size (show i'+1<=ny.toNat by omega);rw[zYb,zY9]at this;omega
   have hm':(i'*te.size+j) % te.size=j:=by rw[yBr,yBz];exact zZt hj
   simp only[madeCells,e1,yCq,yCd,hlt,yCy,Option.map_some,hzs,hm']
   congr 1
   have hj':j<z.cells.size:=by omega
   simp[zX5,hj']) (λi' j _ hj=>by
   obtain⟨v,hv,hv'⟩:=hzat j hj;rw[hv']
   exact zXm.1 hz1 v (zYt hv)) (λi' v j u hv hu=>by
   rw[hat i' v hv,hzc2]at hu;simp only[zXd,zXn]at hu;obtain⟨q,hq,rfl⟩:=hu;have hj:j<te.size:=by rw[<-hzl];exact(zXv.1 hq).1
   obtain⟨v',hv1,hv2⟩:=hzat j hj;rw[hv2];rw[hq]at hv1;cases hv1
   exact .s _)
 obtain⟨β',G,hv⟩:=this;rw[hrl]at hv;exact⟨β',G,hv⟩
theorem zN8 {T1 T2:Nat} {x y:Operand} {k:IntKind} {m n:Int} (hx:yL (zG st.tm) x= .s (.int k m)) (hy:yL (zG st.tm) y= .s (.int k n)):wR P st (.call ⟨.builtin .max, #[x,y], #[T1,T2]⟩) (.s (.int k (max m n))) [] [] []:=
 yQ λoo X tm h w β a ho hg hr HH Ht=>by
  obtain⟨dst,op',type,pos,after,guard⟩:=oo;dsimp only at ho;subst ho;have h1:=vI Ht hg (x:=x) qF hx;have h2:=vI Ht hg (x:=y) qF hy;refine⟨.int k (max m n),?_,.fz _ _ (.s _)⟩;have:(if n>m then n else m)=max m n:=by omega
  simp[execOp,resolve,invoke,builtin,Builtin.max_,Builtin.max2,h1,h2,this]
theorem zN9 {T1 T2:Nat} {x y:Operand} {k:IntKind} {m n:Int} (hx:yL (zG st.tm) x= .s (.int k m)) (hy:yL (zG st.tm) y= .s (.int k n)):wR P st (.call ⟨.builtin .min, #[x,y], #[T1,T2]⟩) (.s (.int k (min m n))) [] [] []:=
 yQ λoo X tm h w β a ho hg hr HH Ht=>by
  obtain⟨dst,op',type,pos,after,guard⟩:=oo;dsimp only at ho;subst ho;have h1:=vI Ht hg (x:=x) qF hx;have h2:=vI Ht hg (x:=y) qF hy;refine⟨.int k (min m n),?_,.fz _ _ (.s _)⟩;have:(if n<m then n else m)=min m n:=by omega
  simp[execOp,resolve,invoke,builtin,Builtin.min_,Builtin.min2,h1,h2,this]
def XP (h:yH):AV->Bool
 | .sl true _=>true
 | .sl false (_::_)=>true
 | .ref k _ (_+1)=>match h k with
  |some (.arr _ _ _)=>true
  |_=>false
 |_=>false
theorem TO (hP:uL P TT) {T e:Nat} {ti:TI} (hT:TT[T]? =some ti) (hd:ti.d= .slice e) (w:World) (b:Option Addr) (n c:Nat):(Op.equal T (.slice b n c) (.slice none 0 0)).run P w= .ok b.isNone w:=by
 obtain⟨_,u,_,_,hu,_,hd',_⟩:=vV (hP _ _ hT);obtain rfl:=vQ (hd'.symm.trans hd)
 show(Op.equalIn (9999+1) T _ _).run P w=_
 unfold Op.equalIn
 cases b<;>simp[EX w hu]
theorem yW (hP:uL P TT) {T ty e:Nat} {x:Operand} {ti:TI} {xv:AV} {op:BinOp} {v:Bool} (hop:op= .eql/\v=false∨op= .neq/\v=true) (hx:yL (zG st.tm) x=xv) (hT:TT[T]? =some ti) (hd:ti.d= .slice e) (hn:XP (zC st.h) xv=true):
  wR P st (.binOp op T x (.const (.slice none 0 0)) ty) (.s (.bool v)) [] (PM xv) []:=
 yQ λoo X tm h w β a ho hg hr HH Ht=>by
  obtain⟨dst,op',type,pos,after,guard⟩:=oo;dsimp only at ho;subst ho;have h1:=jL Ht hg (x:=x) uE hx
  obtain⟨b,n,c,hc⟩:∃b n c,a.eval x= .slice (some b) n c:=by
   generalize a.eval x=cx at h1
   cases h1 with
   |fz _ _ hf=>
    cases hf with
    |nil a cap=>simp[XP]at hn
    |nil1 a cap=>exact⟨_,_,_,rfl⟩
    |sl _ _ b o sz cap f hne hL hc hh=>exact⟨_,_,_,rfl⟩
    |_=>simp[XP]at hn
   |ref _ _ _ _ _ _ _ _ _ _ _ _ _ _=>exact⟨_,_,_,rfl⟩
   |ref0 _ _ _ _ _ _ _ _=>simp[XP]at hn
   |dref k off len _ hk _=>
    have:=hr k (by simp[PM])
    cases len with
    |zero=>simp[XP]at hn
    |succ m=>simp[XP,<-this,hk]at hn
   |_=>simp[XP]at hn
  have he:=TO hP hT hd w (some b) n c;refine⟨.bool v,?_,.fz _ _ (.s _)⟩
  rcases hop with⟨rfl,rfl⟩|⟨rfl,rfl⟩<;>simp[execOp,hc,show a.eval (.const (.slice none 0 0))= .slice none 0 0 from rfl,eqGuard,binOp,he]
theorem XQ (hP:uL P TT) {T ty e:Nat} {x:Operand} {ti:TI} {op:BinOp} {v:Bool} {n c:Nat} (hop:op= .eql/\v=true∨op= .neq/\v=false) (hx:yL (zG st.tm) x= .s (.slice none n c)) (hT:TT[T]? =some ti) (hd:ti.d= .slice e):
  wR P st (.binOp op T x (.const (.slice none 0 0)) ty) (.s (.bool v)) [] [] []:=
 yQ λoo X tm h w β a ho hg hr HH Ht=>by
  obtain⟨dst,op',type,pos,after,guard⟩:=oo;dsimp only at ho;subst ho;have hc:=vI Ht hg (x:=x) uE hx;have he:=TO hP hT hd w none n c;refine⟨.bool v,?_,.fz _ _ (.s _)⟩
  rcases hop with⟨rfl,rfl⟩|⟨rfl,rfl⟩<;>simp[execOp,hc,show a.eval (.const (.slice none 0 0))= .slice none 0 0 from rfl,eqGuard,binOp,he]
theorem TP {op:BinOp} {tx ty:Nat} {x y:Operand} {p q:ByteArray} {v:Bool} (hx:yL (zG st.tm) x= .s (.string p)) (hy:yL (zG st.tm) y= .s (.string q))
  (hop:op= .eql/\v=(p.toList==q.toList)∨op= .neq/\v= !(p.toList==q.toList)):wR P st (.binOp op tx x y ty) (.s (.bool v)) [] [] []:=
 yQ λo X tm h w β a ho hg _ _ Ht=>by
  obtain⟨dst,op',type,pos,after,guard⟩:=o;dsimp only at ho;subst ho;have h1:=vI Ht hg (x:=x) uE hx;have h2:=vI Ht hg (x:=y) uE hy;refine⟨.bool v,?_,.fz _ _ (.s _)⟩
  rcases hop with⟨rfl,rfl⟩|⟨rfl,rfl⟩<;>simp[execOp,h1,h2,eqGuard,binOp,Op.stringOp]
end ops
end
section
def Own (β:uB) (b:Nat):Prop:=∃k n,(b,n)∈β k
abbrev GS:Nat:=1000000
def MQ (ro:Option Nat):Fence:={Fence.wide with round:=ro}
structure Fr (K0:List Nat) where
 X:Nat->Prop
 w0:World
 β0:uB
 h0:yH
 hK:∀k b n,(b,n)∈β0 k->k∈K0
 hh:∀k e,h0 k=some e->k∈K0
 ro:Option Nat
 it:Bool
 V:Nat->Prop
 J:Nat->(Nat->Prop)->(Nat->Prop)->World->Prop
 Jst:∀i O X w w' O',J i O X w->w.heap.size<=w'.heap.size->(∀b,b<w.heap.size->¬O b->w'.heap[b]? =w.heap[b]?)->(∀b,O' b->O b∨w.heap.size<=b)->(∀b,O' b->b<w'.heap.size)->w'.os=w.os->w'.tape=w.tape->w'.output=w.output->J i O' X w'
def zWx (h:yH) (k:Nat):xN->Prop
 | .box _=>∃cs,h k=some (.box cs)
 | .arr sz xs _=>∃xs' st,h k=some (.arr sz xs' st)/\xs.length<=xs'.length
 | .dead=>False
variable {K0:List Nat}
structure gA (F:Fr K0) (h:yH) (β:uB) (w:World):Prop where
 knd:∀k e,F.h0 k=some e->zWx h k e
 size:F.w0.heap.size<=w.heap.size
 keep:∀b,b<F.w0.heap.size->¬F.V b->(∀k n,(b,n)∉F.β0 k)->w.heap[b]? =F.w0.heap[b]?
 own:∀k b n,(b,n)∈β k->(∃k' n',(b,n')∈F.β0 k')∨F.w0.heap.size<=b
 pas:∀k b n,(b,n)∈F.β0 k->∃n',n<=n'/\(b,n')∈β k
 bs:∀k b n,(b,n)∈F.β0 k->xX w b=xX F.w0 b
 os:w.os=F.w0.os
 tape:w.tape=F.w0.tape
 output:w.output=F.w0.output
def vX:List (Nat×xN)->Bool
 | []=>true
 |(_,.dead)::_=>false
 |_::r=>vX r
theorem qD:∀{d:List (Nat×xN)} {k:Nat},vX d=true->zC d k≠some .dead
 | [],k,_=>by simp[zC]
 |(j,e)::r,k,h=>by
  unfold zC
  cases e with
  |dead=>simp[vX]at h
  |box cs=>cases Nat.beq k j<;>simp;exact qD (by simpa [vX]using h)
  |arr a b c=>cases Nat.beq k j<;>simp;exact qD (by simpa [vX]using h)
def zPw (β β':uB):Prop:=∀k b n,(b,n)∈β k->∃n',n<=n'/\(b,n')∈β' k
theorem xM.lives {X:Nat->Prop} {w w':World} {h h':yH} {β β':uB} (H:kI X h β w) (G:xM X w h β w' h' β') (hd:∀k,h' k≠some .dead):zPw β β':=by
 intro k b n hm
 cases he:h k with
 |none=>rw[H.off k he]at hm;simp at hm
 | some e=>
  rcases G.key k e he with h1|h1
  ·exact absurd h1 (hd k)
  ·cases e with
   |dead=>exact h1.elim
   |box cs=>exact⟨n,zXc _,h1.2 b n hm⟩
   |arr sz xs st=>exact h1.2 b n hm
theorem gA.goes {F:Fr K0} {X:Nat->Prop} {β β':uB} {w w':World} {h h':yH} (K:gA F h β w) (G:xM X w h β w' h' β') (nd:∀k,h' k≠some .dead) (hl:zPw β β'):gA F h' β' w' where
 knd k e he:=by
  have h1:=K.knd k e he
  cases e with
  |dead=>exact h1
  |box cs=>
   obtain⟨cs',h2⟩:=h1;exact((G.key k _ h2).resolve_left (nd k)).1
  |arr sz xs st=>
   obtain⟨xs',st',h2,h3⟩:=h1;obtain⟨xs'',st'',h4,h5⟩:=((G.key k _ h2).resolve_left (nd k)).1;exact⟨xs'',st'',h4,zYg h3 h5⟩
 size:=zYg K.size G.size
 keep b hb hi hn:=by
  rw[G.keep b (zYh hb K.size),K.keep b hb hi hn];intro k n hm
  rcases K.own k b n hm with⟨k',n',h1⟩|h1
  ·exact hn _ _ h1
  ·omega
 own k b n hm:=by
  rcases G.own k b n hm with⟨k',n',h1⟩|h1
  ·exact K.own k' b n' h1
  ·exact .inr (zYg K.size h1)
 pas k b n hm:=by
  obtain⟨n',h1,h2⟩:=K.pas k b n hm;obtain⟨n'',h3,h4⟩:=hl k b n' h2;exact⟨n'',zYg h1 h3,h4⟩
 bs k b n hm:=by
  obtain⟨n',_,h2⟩:=K.pas k b n hm;rw[G.bs k b n' h2,K.bs k b n hm]
 os:=G.os.trans K.os
 tape:=G.tape.trans K.tape
 output:=G.output.trans K.output
def DOK (X:Nat->Prop) (F:Fr K0) (ds:List Deferred) (w:World):Prop:=
 ∃bs:List Nat,ds=bs.map (λb=>{target:= .collected b,args:= #[]})/\(F.it=true->bs=[])/\bs.Nodup/\∀b,b∈bs->X b/\F.w0.heap.size<=b/\w.heap[b]? =some (.deferred (some []))
theorem DOK.goes {X:Nat->Prop} {F:Fr K0} {ds:List Deferred} {w w':World} {h h':yH} {β β':uB} (H:kI X h β w) (D:DOK X F ds w) (G:xM X w h β w' h' β'):DOK X F ds w':=by
 obtain⟨bs,h1,h0,h2,h3⟩:=D;refine⟨bs,h1,h0,h2,λb hb=>?_⟩;obtain⟨q1,q2,q3⟩:=h3 b hb;exact⟨q1,q2,by rw[G.keep b (H.lt b (.inl q1)) λk n hm=>H.free k b n hm q1];exact q3⟩
theorem Fr.go {F:Fr K0} {X:Nat->Prop} {w w':World} {h h':yH} {β β':uB} {i:Nat} (G:xM X w h β w' h' β') (hj:F.J i (Own β) X w):F.J i (Own β') X w':=
 F.Jst i _ X w w' _ hj G.size (λb hb hn=>G.keep b hb λk n hm=>hn ⟨k,n,hm⟩) (λb ⟨k,n,hm⟩=>(G.own k b n hm).imp (λ⟨k',n',h⟩=>⟨k',n',h⟩) id) (λb ⟨k,n,hm⟩=>G.hok.lt b (.inr ⟨k,n,hm⟩)) G.os G.tape G.output
def XOK (F:Fr K0) (X:Nat->Prop):Prop:=(∀b,F.X b->X b)/\∀b,X b->F.X b∨F.w0.heap.size<=b
structure YF (F:Fr K0) (m:Nat) (tm:Nat->AV) (h:yH) (a:Act) (w:World):Prop where
 ex:∃X β,XOK F X/\kI X h β w/\(∀t,zV w (xF X β) h β (tm t) (a.eval (.tmp t)))/\gA F h β w/\(∀i,tm GS= .gh i->F.J i (Own β) X w)/\DOK X F a.defers w
 nd:∀k,h k≠some .dead
 gs:m<=GS
 len:a.tmps.size=m
def wH (F:Fr K0) (m:Nat) (st:St):Act->World->Prop:=YF F m (zG st.tm) (zC st.h)
theorem yN (t:Nat) (v:AV) (tm:List (Nat×AV)) (j:Nat):zG ((t,v)::tm) j=if j=t then v else zG tm j:=by
 conv=>lhs;unfold zG
 by_cases h:j=t
 ·subst h;simp
 ·rw[zW8 h,ZZ h];rfl
theorem xI (t:Nat) (v:xN) (tm:List (Nat×xN)) (j:Nat):zC ((t,v)::tm) j=if j=t then some v else zC tm j:=by
 conv=>lhs;unfold zC
 by_cases h:j=t
 ·subst h;simp
 ·rw[zW8 h,ZZ h];rfl
theorem wU:∀(d h:List (Nat×xN)),zC (d++h)=over d (zC h)
 | [],_=>rfl
 |(k,e)::r,h=>by
  funext j
  have ih:=congrFun (wU r h) j;simp only[zZx,over,xI]at *; split
  ·rfl
  ·exact ih
theorem bN.wp {P:Program} {ro:Option Nat} {o:Oper} {a:Act} {w:World} {K:Act->World->Prop} {Q:Exit->Act->World->Prop} {N:Value->World->Prop} (hd:bN P N ((execOp a.eval o).run P w)) (h:∀c w',N c w'->K (a.put o.dst c) w'):o.wpIn (MQ ro) 0 P a w K Q:=by
 have hs:(o.semAt (MQ ro).round a.eval).run P w=(execOp a.eval o).run P w:=by
  show(o.semAt ro a.eval).run P w=_
  cases ro with
  |none=>rfl
  | some l=>
   by_cases hdf:∃c,o.op= .defer c
   ·exfalso;obtain⟨c,hc⟩:=hdf;revert hd;unfold execOp;rw[hc];simp only[Sem.run_bind]
    cases (resolve a.eval c o.type).run P w<;>simp[Result.andThen,bN]
   ·rw[Oper.semAt_some l _ _ λc hc=>hdf ⟨c,hc⟩]
 refine⟨λ_ _=>trivial,?_⟩;rw[hs];generalize (execOp a.eval o).run P w=r at hd
 cases r with
 |halt x w'=>exact hd.elim
 | ok n w'=>
  cases n with
  |value c=>exact h _ _ hd
  |skip=>exact h _ _ hd
  |enter f args=>
   refine⟨λhx=>by simp[MQ,Fence.wide]at hx,?_⟩;exact callsIn_wide.2 (Calls.mono hd λe w'' ⟨c,he,hn⟩=>by subst he;exact h _ _ hn)
  |_=>exact hd.elim
theorem YF.put {F:Fr K0} {X:Nat->Prop} {m:Nat} {tm:Nat->AV} {h h':yH} {a:Act} {w w':World} {β β':uB} (hX:XOK F X) (H:kI X h β w) (hv:∀t,zV w (xF X β) h β (tm t) (a.eval (.tmp t))) (K:gA F h β w) (hJ:∀i,tm GS= .gh i->F.J i (Own β) X w) (hd:DOK X F a.defers w) (gs:m<=GS) (hl:a.tmps.size=m)
  (G:xM X w h β w' h' β') (nd:∀k,h' k≠some .dead) {v:AV} {c:Value} (hc:zV w' (xF X β') h' β' v c) (dst:Option Nat) (hm:∀d,dst=some d->d<m):
  YF F m (λt=>if dst=some t then v else tm t) h' (a.put dst c) w':=by
 refine⟨⟨X,β',hX,G.hok,λt=>?_,K.goes G nd (G.lives H nd),λi hi=>?_,by have:=hd.goes H G;cases dst<;>exact this⟩,nd,gs,by cases dst<;>simp[Act.put,hl]⟩
 ·split
  ·rename_i ht;subst ht;have:t<a.tmps.size:=by rw[hl];exact hm t rfl
   have e:(a.put (some t) c).eval (.tmp t)=c:=by simp[Act.put,Act.eval,this]
   rw[e];exact hc
  ·rename_i ht;rw[Act.eval_put (λd hd e=>ht (by rw[hd];injection e with e;rw[e]))];exact(hv t).evo G.evo
 ·rw[zW8 (λe=>by have:=hm GS e;omega)]at hi;exact F.go G (hJ i hi)
theorem wR.rel {P:Program} {st:St} {o:Oper} {v:AV} {d:List (Nat×xN)} {r nw:List Nat} (hs:wR P st o.op v d r nw) {F:Fr K0} {m:Nat} {tm:Nat->AV} {h:yH} {a:Act} {w:World} (H:YF F m tm h a w)
  (h1:∀t,t∈fK o.op->tm t=zG st.tm t) (h2:∀k,k∈r->h k=zC st.h k) (h3:∀k,k∈nw->h k=none) (hd:vX d=true) (hm:∀t,o.dst=some t->t<m) {K:Act->World->Prop} {Q:Exit->Act->World->Prop}
  (hK:∀a' w',YF F m (λt=>if o.dst=some t then v else tm t) (over d h) a' w'->K a' w'):o.wpIn (MQ F.ro) 0 P a w K Q:=by
 obtain⟨⟨X,β,hX,HH,Ht,KK,hJ,hD⟩,nd,gs,hl⟩:=H;refine bN.wp (hs.run X tm h h1 h2 h3 o a w β rfl HH Ht) ?_;rintro c w' ⟨β',G,hc⟩
 have nd':∀k,over d h k≠some .dead:=λk=>by
  unfold over;split
  ·rename_i e he;intro h4;cases h4;exact qD hd he
  ·exact nd k
 exact hK _ _ (YF.put hX HH Ht KK hJ hD gs hl G nd' hc o.dst hm)
theorem SE {F:Fence} {n:Nat} {P:Program} {Q:Exit->Act->World->Prop} {a:Act} {w:World} {c:Code} (I:Nat->Act->World->Prop) (n₀:Nat) (h₀:I n₀ a w)
  (round:∀k a w,I k a w->c.wpIn F n P (Exit.then (λa' w'=>∃k',k'<k/\I k' a' w') Q) a w):(Code.loop c).wpIn F n P Q a w:=by
 refine wpIn_loop (λa w=>∃k,I k a w) (λa w=>leastOf (λk=>I k a w)) ⟨n₀,h₀⟩ ?_;intro a w hI;refine wpIn_mono (round _ a w (leastOf_spec hI).1) ?_;intro e a' w' hq
 cases e with
 |normal=>
  obtain⟨n',hlt,hI'⟩:=hq;exact show(∃n,I n a' w')/\leastOf (λn=>I n a' w')<leastOf (λn=>I n a w)from⟨⟨n',hI'⟩,Nat.lt_of_le_of_lt ((leastOf_spec ⟨n',hI'⟩).2 n' hI') hlt⟩
 |_=>exact hq
structure uC (P:Program) (F:Fr K0) (m:Nat) (c:Code) (st:St) (Q:Exit->St->Prop):Prop where
 run:∀a w,wH F m st a w->c.wpIn (MQ F.ro) 0 P (λe a' w'=>∃st',Q e st'/\wH F m st' a' w') a w
def HG (P:Program) (F:Fr K0) (m:Nat) (ops:Array Oper) (l:List Oper) (st:St) (Q:St->Prop):Prop:=
 ∀a w,wH F m st a w->wpListIn (MQ F.ro) 0 P ops (λe a' w'=>e= .normal/\∃st',Q st'/\wH F m st' a' w') l a w
section
variable {P:Program} {F:Fr K0} {m:Nat} {Q:Exit->St->Prop} {st:St}
theorem uC.mono {c:Code} {Q':Exit->St->Prop} (h:uC P F m c st Q) (hq:∀e s,Q e s->Q' e s):uC P F m c st Q':=
 ⟨λa w H=>Code.wpIn_mono (λ_ _ _ ⟨s,h1,h2⟩=>⟨s,hq _ _ h1,h2⟩) (h.run a w H)⟩
theorem yX (h:Q .normal st):uC P F m .skip st Q:=⟨λ_ _ H=>wpIn_skip ⟨st,h,H⟩⟩
theorem yU (h:Q .ret st):uC P F m .ret st Q:=⟨λ_ _ H=>wpIn_ret ⟨st,h,H⟩⟩
theorem xA {id:Nat} (h:Q (.exit id) st):uC P F m (.exit id) st Q:=⟨λ_ _ H=>wpIn_exit ⟨st,h,H⟩⟩
def MR (P:Program) (F:Fr K0) (m:Nat) (y:Code) (Q:Exit->St->Prop):Exit->St->Prop
 | .normal,s=>uC P F m y s Q
 |e,s=>Q e s
theorem xS {x y:Code} (h:uC P F m x st (MR P F m y Q)):uC P F m (.seq x y) st Q:=⟨λa w H=>
 wpIn_seq (Code.wpIn_mono (λe a' w' ⟨s,h1,h2⟩=>by
  cases e with
  |normal=>exact uC.run h1 a' w' h2
  |_=>exact⟨s,h1,h2⟩) (h.run a w H))⟩
theorem xJ {c:Operand} {x y:Code} {t:Bool} (hc:yL (zG st.tm) c= .s (.bool t)) (h1:t=true->uC P F m x st Q) (h2:t=false->uC P F m y st Q):uC P F m (.cond c x y) st Q:=⟨λa w H=>by
 have hv:a.eval c= .bool t:=by
  obtain⟨⟨_,β,_,_,Ht,_⟩,_⟩:=H;have:=RM Ht c;rw[hc]at this;exact this.s_inv
 exact wpIn_cond_split hv (λh=>(h1 h).run a w H) (λh=>(h2 h).run a w H)⟩
theorem zX {c:Operand} {x y:Code} (hc:yL (zG st.tm) c= .s (.bool true)) (h:uC P F m x st Q):uC P F m (.cond c x y) st Q:=xJ hc (λ_=>h) (λh=>by cases h)
theorem zQ {c:Operand} {x y:Code} (hc:yL (zG st.tm) c= .s (.bool false)) (h:uC P F m y st Q):uC P F m (.cond c x y) st Q:=xJ hc (λh=>by cases h) (λ_=>h)
def inB (id:Nat) (Q:Exit->St->Prop):Exit->St->Prop
 | .exit id',s=>bif Nat.beq id' id then Q .normal s else Q (.exit id') s
 |e,s=>Q e s
theorem yS {id:Nat} {c:Code} (h:uC P F m c st (inB id Q)):uC P F m (.block id c) st Q:=⟨λa w H=>
 wpIn_block (Code.wpIn_mono (λe a' w' ⟨s,h1,h2⟩=>by
  cases e with
  |exit id'=>
   simp only[Exit.inBlock];split
   ·rename_i he;subst he;simp only[inB,zDu,zYk]at h1;exact⟨s,h1,h2⟩
   ·rename_i he;simp only[inB,ZZ he,zY8]at h1;exact⟨s,h1,h2⟩
  |_=>exact⟨s,h1,h2⟩) (h.run a w H))⟩
theorem AO {id:Nat} {l:List Oper} (h:HG P F m l.toArray l st (Q .normal)):uC P F m (.region id l.toArray false) st Q:=⟨λa w H=>
 Code.wpIn_mono (λe a' w' ⟨he,s,h1,h2⟩=>by subst he;exact⟨s,h1,h2⟩) (wpIn_region_lit (h a w H))⟩
end
end
end Av
end Go.Proofs.YtmamjhmoegjapaaGreat
