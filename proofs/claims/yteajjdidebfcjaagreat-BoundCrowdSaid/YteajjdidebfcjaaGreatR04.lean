/- Part 4. -/
import Derived.Test.YteajjdidebfcjaaGreatR03
import Derived.Great.FillDense
import Derived.Laws.Tables
import Derived.Laws.MakeOwn
import Derived.Tactics
import Derived.Deep.LoopGhost
import Derived.TacticsIn
import Derived.OrdersIn
import Derived.RangeFuncCalls
import Derived.RangeFuncRecord
import Derived.LoopIn
namespace Go.Proofs.YteajjdidebfcjaaGreat
namespace Av
set_option linter.all false
section
def PV (places:Nat->Option (Nat×Nat)):List AV->List (Nat×AV)->Option (List AV)
 |cells,[]=>some cells
 |cells,(i,v)::rest=>match places i with
  |none=>none
  |some (off,size)=>bif Nat.beq v.cells.length size&&(Nat.ble (off+size) cells.length&&v.ok)then PV places (VJ cells off v.cells) rest else none
theorem PW {w:World} {D:Nat->Prop} {h:yC} {β:vP} (places:Nat->Option (Nat×Nat)):∀(parts:List (Nat×AV)) (parts':List (Nat×Value)) (cs:List AV) (c:Array Value) (cs':List AV),PV places cs parts=some cs'->
  parts'.length=parts.length->(∀(j:Nat) p p',parts[j]? =some p->parts'[j]? =some p'->p'.1=p.1/\zQ w D h β p.2 p'.2)->
  c.size=cs.length->(∀i,i<c.size->(c.getD i undef).oneCell'=true)->(∀(i:Nat) u,cs[i]? =some u->zQ w D h β u (c.getD i undef))->
  ∃c',Instr.fill places c parts'=some c'/\c'.size=cs'.length/\(∀i,i<c'.size->(c'.getD i undef).oneCell'=true)/\∀(i:Nat) u,cs'[i]? =some u->zQ w D h β u (c'.getD i undef)
 | [],parts',cs,c,cs',hf,hl,_,h1,h2,h3=>by
  obtain rfl:parts'=[]:=yBa CG;cases hf;exact⟨c,rfl,h1,h2,h3⟩
 | (i, v)::rest,parts',cs,c,cs',hf,hl,hp,h1,h2,h3=>by
  cases parts' with
  |nil=>simp at hl
  | cons p' rest'=>
   obtain⟨e1,e2⟩:=hp 0 (i,v) p' Z Z;obtain⟨i',v'⟩:=p';dsimp only at e1 e2;subst e1;unfold PV at hf
   cases hpl:places i' with
   |none=>simp[hpl]at hf
   | some q=>
    obtain⟨off,size⟩:=q;simp only[hpl]at hf
    cases hc:Nat.beq v.cells.length size&&(Nat.ble (off+size) cs.length&&v.ok)with
    |false=>simp[hc]at hf
    | true=>
     simp only[hc,yBn]at hf;simp only[yAk]at hc;have q1:=yA2 hc.1;have q2:=yAq hc.2.1;obtain⟨r1,r2,r3⟩:=e2.cells hc.2.2;obtain⟨s1,s2⟩:=Great.foldl_set off v'.cells.toList 0 c
     have hfold:v'.cells.zipIdx.foldl (λcs (x:Value×Nat)=>cs.setIfInBounds (off+x.2) x.1) c=(v'.cells.toList.zipIdx 0).foldl (λcs (x:Value×Nat)=>cs.setIfInBounds (off+x.2) x.1) c:=by
      rw[<-Array.foldl_toList,Array.toList_zipIdx]
     generalize hc2:(v'.cells.toList.zipIdx 0).foldl (λcs (x:Value×Nat)=>cs.setIfInBounds (off+x.2) x.1) c=c2 at*
     have hat:∀k,c2.getD k undef=if off<=k/\k<off+size then v'.cells.getD (k-off) undef else c.getD k undef:=λk=>by
      have hk:=s2 k;simp only[yDd,yDh]at hk;by_cases hin:off<=k/\k<off+size
      ·rw[zZ8 hin];rw[zZ8 (by omega)]at hk;apply gI;rw[hk];have:=kF v'.cells (k-off) (by omega);simpa using this
      ·rw[zZ7 hin];rw[zZ7 (by omega)]at hk;simp[yAy,hk]
     obtain⟨c',t1,t2,t3,t4⟩:=PW places rest rest' (VJ cs off v.cells) c2 cs' hf CG (λj p p' hj hj'=>hp (j+1) p p' (by simpa using hj) (by simpa using hj'))
      (by rw[s1,dB];exact h1) (λk hk=>by
       rw[hat];split
       ·exact r2 _ (by omega)
       ·exact h2 k (by omega)) (λk u hu=>by
       rw[ZA _ _ _ _ (by omega),q1]at hu;rw[hat];split
       ·rename_i hin;rw[zZ8 hin]at hu;exact r3 _ u hu
       ·rename_i hin;rw[zZ7 hin]at hu
        exact h3 k u hu)
     refine⟨c',?_,t2,t3,t4⟩;unfold Instr.fill;simp only[hpl];rw[zZ7 vA,hfold];exact t1
def zAx (TT:List TI):List (Nat×Nat)->Option (List (Nat×Nat))
 | []=>some []
 |(o,t)::r=>match TT[t]?,zAx TT r with
  |some ti,some l=>some ((o,ti.size)::l)
  |_,_=>none
theorem DX {P:Program} {TT:List TI} (hP:uI P TT):∀(fs:List Field) (l:List (Nat×Nat)),zAx TT (fs.map λf=>(f.offset,f.type))=some l->fs.mapM (λf=>(P.info? f.type).map λi=>(f.offset,i.size))=some l
 | [],l,h=>by simp[zAx]at h;simp[h]
 | f::fs,l,h=>by
  simp only[yBb,zAx]at h
  cases ht:TT[f.type]? with
  |none=>simp[ht]at h
  | some ti=>
   cases hr:zAx TT (fs.map λf=>(f.offset,f.type))with
   |none=>simp[ht,hr]at h
   |some l'=>
    simp[ht,hr]at h;subst h;obtain⟨i,_,_,hi,_,_,_,hs,_⟩:=wN (hP _ _ ht);simp[yGc,hi,DX hP fs l' hr,hs]
section ops
variable {P:Program} {TT:List TI} {st:St}
def cO (st:St) (ps:Array (Nat×Operand)):List (Nat×AV):=ps.toList.map λp=>(p.1,yJ (zG st.tm) p.2)
def DY {w:World} {D:Nat->Prop} {h:yC} {β:vP} {op:Op} {tm:Nat->AV} {a:Act} (H:∀t,zQ w D h β (tm t) (a.eval (.tmp t))) (hg:∀t,t∈fA op->tm t=zG st.tm t) {ps:Array (Nat×Operand)} (hps:∀p∈ps.toList,p.2∈op.operands)
  (j:Nat) (p:Nat×AV) (p':Nat×Value) (h1:(cO st ps)[j]? =some p) (h2:(ps.map λx=>(x.1,a.eval x.2)).toList[j]? =some p'):p'.1=p.1/\zQ w D h β p.2 p'.2:=by
 simp only[cO,yAa,yAo]at h1;obtain⟨q,hq,rfl⟩:=h1;simp only[yFh,yAa,hq,Option.map_some,yBj]at h2;subst h2;exact⟨rfl,hH H hg (hps q (yBx hq)) Z⟩
def DZ {w:World} {D:Nat->Prop} {h:yC} {β:vP} (z:Value) (zs:List Value) (hz:z.cells.toList=zs) (h1:zs.all (·.oneCell')=true):
  z.cells.size=(zs.map AV.s).length/\(∀i,i<z.cells.size->(z.cells.getD i undef).oneCell'=true)/\∀(i:Nat) u,(zs.map AV.s)[i]? =some u->zQ w D h β u (z.cells.getD i undef):=by
 subst hz;refine⟨by simp,λi hi=>yAm.1 h1 _ (yBx (by simpa using kF _ i hi)),λi u hu=>?_⟩;simp only[yAa,yAo]at hu;obtain⟨v,hv,rfl⟩:=hu;rw[gI LK];exact .fz _ _ (.s _)
def zE9 (hP:uI P TT) {T:Nat} {ps:Array (Nat×Operand)} {ti:TI} {fs pl:List (Nat×Nat)} {cs:List AV} (hT:TT[T]? =some ti) (hd:ti.d= .str fs) (h1:ti.zero.all (·.oneCell')=true) (hpl:zAx TT fs=some pl)
  (hf:PV (pl[·]?) (ti.zero.map .s) (cO st ps)=some cs):wM P st (.build T ps) (.agg cs) [] [] []:=
 yK λoo X tm h w β a ho hg hr HH Ht=>by
  obtain⟨dst,op',type,pos,after,guard⟩:=oo;dsimp only at ho;subst ho;obtain⟨i,u,z,hi,hu,hz,hd',_,_,hzz⟩:=wN (hP _ _ hT);obtain⟨fields,rfl,hm⟩:=HA (hd'.symm.trans hd);have hpl':=DX hP fields.toList pl (by rw[hm];exact hpl);obtain⟨z1,z2,z3⟩:=DZ (w:=w) (D:=xK X β) (h:=h) (β:=β) z ti.zero hzz.symm h1
  obtain⟨c',f1,f2,f3,f4⟩:=PW (w:=w) (D:=xK X β) (h:=h) (β:=β) (pl[·]?) (cO st ps) (ps.map λx=>(x.1,a.eval x.2)).toList _ _ cs hf (by simp[cO]) (DY (op:= .build T ps) Ht hg λp hp=>by
   simp only[Op.operands,yF2]
   exact yA5.2 ⟨p,hp,rfl⟩) z1 z2 z3
  have hb:P.built T (ps.map λx=>(x.1,a.eval x.2)).toList=some c':=by
   simp only[Program.built,hi,hu,hz,hpl'];simpa using f1
  exact⟨_,by simp only[execOp,Sem.run_bind,run_build w T _ c' hb,Result.andThen_ok,Sem.run_pure],.agg _ _ f2 f3 f4⟩
def MB (hP:uI P TT) {T n e:Nat} {ps:Array (Nat×Operand)} {ti te:TI} {cs:List AV} (hT:TT[T]? =some ti) (hd:ti.d= .arr n e) (he:TT[e]? =some te) (h1:ti.zero.all (·.oneCell')=true)
  (hf:PV (λi=>some (i*te.size,te.size)) (ti.zero.map .s) (cO st ps)=some cs):wM P st (.build T ps) (.agg cs) [] [] []:=
 yK λoo X tm h w β a ho hg hr HH Ht=>by
  obtain⟨dst,op',type,pos,after,guard⟩:=oo;dsimp only at ho;subst ho;obtain⟨i,u,z,hi,hu,hz,hd',_,_,hzz⟩:=wN (hP _ _ hT);obtain rfl:=zL7 (hd'.symm.trans hd);obtain⟨ie,_,_,hie,_,_,_,hse,_,_⟩:=wN (hP _ _ he);obtain⟨z1,z2,z3⟩:=DZ (w:=w) (D:=xK X β) (h:=h) (β:=β) z ti.zero hzz.symm h1
  obtain⟨c',f1,f2,f3,f4⟩:=PW (w:=w) (D:=xK X β) (h:=h) (β:=β) (λi=>some (i*te.size,te.size)) (cO st ps) (ps.map λx=>(x.1,a.eval x.2)).toList _ _ cs hf (by simp[cO]) (DY (op:= .build T ps) Ht hg λp hp=>by
   simp only[Op.operands,yF2]
   exact yA5.2 ⟨p,hp,rfl⟩) z1 z2 z3
  have hb:P.built T (ps.map λx=>(x.1,a.eval x.2)).toList=some c':=by
   simp only[Program.built,hi,hu,hz,hie,<-hse];exact f1
  exact⟨_,by simp only[execOp,Sem.run_bind,run_build w T _ c' hb,Result.andThen_ok,Sem.run_pure],.agg _ _ f2 f3 f4⟩
theorem PX (ne:Bool) (hP:uI P TT) {T e len:Nat} {ps:Array (Nat×Operand)} {ti te:TI} {xs:List AV} (hT:TT[T]? =some ti) (hd:ti.d= .slice e) (he:TT[e]? =some te) (hp:Nat.ble 1 te.size=true) (hps:cO st ps=(xs.zipIdx 0).map λx=>(x.2,x.1)) (hl:Nat.beq xs.length len=true)
  (hw:xs.all (λx=>Nat.beq x.cells.length te.size&&(x.ok&&(ne||x.nokey)))=true) (hb:Nat.ble (len*te.size) 65536=true) (hzl:Nat.beq te.zero.length te.size=true):
  ∀ (o:Oper) (X:Nat->Prop) (tm:Nat->AV) (h:yC) (w:World) (β:vP) (a:Act),o.op= .buildSlice T len ps->(∀t,t∈fA (.buildSlice T len ps)->tm t=zG st.tm t)->(∀t,zQ w (xK X β) h β (tm t) (a.eval (.tmp t)))->
   ∃(C:Array Value) (f:Nat->Nat->Value),(execOp a.eval o).run P w= .ok (.value (.slice (some ⟨w.heap.size,0,none⟩) xs.length xs.length)) (w.alloc (.cells C e))/\C.size=xs.length*te.size/\xs.length<=cQ/\xs.length=len/\
    (∀(i:Nat) (x:AV),xs[i]? =some x->x.cells.length=te.size)/\(∀i j,i<xs.length->j<te.size->C[i*te.size+j]? =some (f i j))/\(∀i j,i<xs.length->j<te.size->(f i j).oneCell'=true)/\
    jN w (xK X β) h β ne xs f:=by
 intro o X tm h w β a ho hg Ht;obtain⟨dst,op',type,pos,after,guard⟩:=o;dsimp only at ho;subst ho;have hp:=yAq hp;have hl:=yA2 hl;have hb:=yAq hb;have hzl:=yA2 hzl;subst hl;obtain⟨i,z,hu,hi,hz,e1,e2,e3⟩:=wW hP hT hd he
 have hxs:∀(j:Nat) (x:AV),xs[j]? =some x->x.cells.length=te.size/\x.ok=true/\(ne||x.nokey)=true:=λj x hx=>by
  have:=yAm.1 hw x (yBx hx);simp only[yAk]at this;exact⟨yA2 this.1,this.2⟩
 have hlen:ps.toList.length=xs.length:=by
  have:=yA6 List.length hps;simpa [cO]using this
 let vs:List Value:=ps.toList.map λp=>a.eval p.2
 have hvl:vs.length=xs.length:=by simp[vs];simpa using hlen
 have hpx:∀(j:Nat) (x:AV),xs[j]? =some x->∃p,ps.toList[j]? =some p/\p.1=j/\yJ (zG st.tm) p.2=x:=λj x hx=>by
  have hj:=yA6 (·[j]?) hps;simp only[cO,yAa,yEx,hx,Option.map_some,yBu]at hj
  cases hpj:ps.toList[j]? with
  |none=>simp[hpj]at hj
  |some p=>
   simp only[hpj,Option.map_some,yBj,yB1]at hj;exact⟨p,rfl,hj.1,hj.2⟩
 have hvs:∀(j:Nat) (x:AV),xs[j]? =some x->∃v,vs[j]? =some v/\zQ w (xK X β) h β x v:=λj x hx=>by
  obtain⟨p,hp1,_,hp3⟩:=hpx j x hx;refine⟨a.eval p.2,by simp only[vs,yAa,hp1,Option.map_some],hH (op:= .buildSlice T xs.length ps) Ht hg ?_ hp3⟩;simp only[Op.operands,yF2];exact yA5.2 ⟨p,yBx hp1,rfl⟩
 have hpe:(ps.map λx=>(x.1,a.eval x.2)).toList=(vs.zipIdx 0).map λx=>(x.2,x.1):=by
  apply yBi;intro j;simp only[yFh,yAa,yEx,vs,yBu];by_cases hj:j<xs.length
  ·obtain⟨p,hp1,hp2,_⟩:=hpx j xs[j] (by simp[hj]);simp[hp1,hp2]
  ·have:ps.toList[j]? =none:=yAz (by omega);simp[this]
 have hvc:∀v∈vs,v.cells.size=te.size:=λv hv=>by
  obtain⟨j,hj⟩:=yDw hv;have hjx:j<xs.length:=by rw[<-hvl];exact(yAu.1 hj).1
  obtain⟨v',h1,h2⟩:=hvs j xs[j] (by simp[hjx]);rw[hj]at h1;cases h1;obtain⟨q1,q2,_⟩:=hxs j xs[j] (by simp[hjx]);rw[(h2.cells q2).1,q1]
 have hzs:z.cells.size=te.size:=by rw[<-hzl,<-e3];simp
 have hfill:=Great.fill_whole (s:=te.size) (by omega) vs ((Array.range (xs.length*te.size)).map (z.cells[· % z.cells.size]!)) hvc (by simp[hvl]);have hflat:=Great.flat_get (s:=te.size) (by omega) vs hvc;generalize hC:(vs.flatMap λv=>v.cells.toList).toArray=C at hfill
 have hCs:C.size=xs.length*te.size:=by
  rw[<-hC]
  have:∀l:List Value,(∀v∈l,v.cells.size=te.size)->(l.flatMap λv=>v.cells.toList).length=l.length*te.size:=by
   intro l
   induction l with
   |nil=>simp
   |cons v l ih=>
    intro hv;rw[List.flatMap_cons,yAd,ih λu hu=>hv u (by simp[hu])];have:=hv v zU;simp only[yDh,this,yAl,yBk,yCa];omega
  simpa [hvl]using this vs hvc
 have hrun:(execOp a.eval ⟨dst,.buildSlice T xs.length ps,type,pos,after,guard⟩).run P w= .ok (.value (.slice (some ⟨w.heap.size,0,none⟩) xs.length xs.length)) (w.alloc (.cells C e)):=by
  have h24:¬xs.length*te.size>2 ^ 24:=by omega
  have hs:=uQ (hP _ _ he) w;simp only[execOp,Instr.buildSlice,Sem.run_bind,dU w hu,Result.andThen_ok,hs];by_cases h0:xs.length*te.size=0
  ·have hx0:xs=[]:=by
    rcases Nat.mul_eq_zero.1 h0 with h|h
    ·exact yBa h
    ·omega
   subst hx0
   have hps0:ps= #[]:=by
    have:ps.toList.length=0:=by simpa using hlen
    exact Array.eq_empty_of_size_eq_zero LO
   subst hps0;have hC0:C= #[]:=by simpa using hCs
   subst hC0;simp[Instr.fill,newRow,Array.range_zero']
  ·have hpe':(ps.map λx=>(x.1,a.eval x.2)).toList=(vs.zipIdx 0).map λx=>(x.2,x.1):=hpe
   simp only[zZ7 h24,Sem.run_pure,Result.andThen_ok,zZ7 h0,Sem.run_bind,zeroValue,typeInfo,run_program,hi,hz,hpe'];rw[hfill];simp[newRow]
 have hcells:∀(j:Nat) (x:AV),xs[j]? =some x->∃v,vs[j]? =some v/\v.cells.size=te.size/\(∀q,q<te.size->C[j*te.size+q]? =some (v.cells.getD q undef))/\(∀q,q<te.size->(v.cells.getD q undef).oneCell'=true)/\
   ∀(q:Nat) u,x.cells[q]? =some u->zQ w (xK X β) h β u (v.cells.getD q undef)/\(ne=false->xH w (xK X β) u (v.cells.getD q undef)):=λj x hx=>by
  obtain⟨v,h1,h2⟩:=hvs j x hx;obtain⟨q1,q2,q3⟩:=hxs j x hx;obtain⟨r1,r2,r3⟩:=h2.cells q2;refine⟨v,h1,by omega,λq hq=>?_,λq hq=>r2 q (by omega),λq u hu=>⟨r3 q u hu,λhn=>(r3 q u hu).toF ?_⟩⟩
  ·have hd':(j*te.size+q)/te.size=j:=Nat.div_eq_of_lt_le (by omega) (by rw[yBk,yCa];omega);have hm':(j*te.size+q) % te.size=q:=by rw[yEv,yE5];exact yC0 hq
   have:=hflat (j*te.size+q);rw[hd',hm',h1]at this;rw[<-hC];simp only[yDa,this,Option.bind_some];exact kF _ _ (by omega)
  ·rw[hn,yDm]at q3
   cases x<;>first
    |(simp[AV.cells]at hu;cases q<;>simp at hu;subst hu;exact q3)
    |(exact kE (by simpa [AV.nokey,AV.cells]using q3) hu)
 refine⟨C,λj q=>(vs.getD j undef).cells.getD q undef,hrun,hCs,?_,rfl,λj x hx=>(hxs j x hx).1,?_,?_,?_⟩
 ·have:xs.length*1<=xs.length*te.size:=Nat.mul_le_mul_left _ hp;unfold cQ;omega
 ·intro j q hj hq;obtain⟨v,h1,_,h3,_⟩:=hcells j xs[j] (by simp[hj]);have:vs.getD j undef=v:=by simp[List.getD,h1]
  dsimp only;rw[this];exact h3 q hq
 ·intro j q hj hq;obtain⟨v,h1,_,_,h4,_⟩:=hcells j xs[j] (by simp[hj]);have:vs.getD j undef=v:=by simp[List.getD,h1]
  dsimp only;rw[this];exact h4 q hq
 ·intro j x q u hx hu;obtain⟨v,h1,_,_,_,h5⟩:=hcells j x hx;have:vs.getD j undef=v:=by simp[List.getD,h1]
  dsimp only;rw[this];exact h5 q u hu
def yH (hP:uI P TT) {T e len:Nat} {ps:Array (Nat×Operand)} {ti te:TI} {xs:List AV} (k:Nat) (hT:TT[T]? =some ti) (hd:ti.d= .slice e) (he:TT[e]? =some te) (hp:Nat.ble 1 te.size=true) (hps:cO st ps=(xs.zipIdx 0).map λx=>(x.2,x.1)) (hl:Nat.beq xs.length len=true)
  (hw:xs.all (λx=>Nat.beq x.cells.length te.size&&(x.ok&&x.nokey))=true) (hb:Nat.ble (len*te.size) 65536=true) (hzl:Nat.beq te.zero.length te.size=true):
  wM P st (.buildSlice T len ps) (.ref k 0 len) [(k,.arr te.size xs false)] [] [k]:=by
 refine⟨?_⟩;intro X tm h hg _ hn o a w β ho HH Ht;obtain⟨C,f,hrun,hCs,hmx,hl',q1,q2,q3,q4⟩:=PX false hP hT hd he hp hps hl hw hb hzl o X tm h w β a ho hg Ht;rw[hrun];subst hl';obtain⟨β',G,hv⟩:=yX.newArr HH (hn k zU) C e te.size xs xs.length f (yAq hp) hmx (yAb _) (by rw[hCs]) (CM hCs (yAq hp) q2 q3) q1 q2 q3 (q4.toF Z);exact⟨β',G,hv⟩
def SI (hP:uI P TT) {T e len:Nat} {ps:Array (Nat×Operand)} {ti te:TI} {xs:List AV} (k:Nat) (hT:TT[T]? =some ti) (hd:ti.d= .slice e) (he:TT[e]? =some te) (hp:Nat.ble 1 te.size=true) (hps:cO st ps=(xs.zipIdx 0).map λx=>(x.2,x.1)) (hl:Nat.beq xs.length len=true)
  (hw:xs.all (λx=>Nat.beq x.cells.length te.size&&x.ok)=true) (hb:Nat.ble (len*te.size) 65536=true) (hzl:Nat.beq te.zero.length te.size=true):
  wM P st (.buildSlice T len ps) (.ref k 0 len) [(k,.arr te.size xs ⟨false,true⟩)] [] [k]:=by
 refine⟨?_⟩;intro X tm h hg _ hn o a w β ho HH Ht;obtain⟨C,f,hrun,hCs,hmx,hl',q1,q2,q3,q4⟩:=PX true hP hT hd he hp hps hl (by simpa using hw) hb hzl o X tm h w β a ho hg Ht;rw[hrun];subst hl';obtain⟨β',G,hv⟩:=yX.newArrN HH (hn k zU) C e te.size xs xs.length f (yAq hp) hmx (yAb _) (by rw[hCs]) (CM hCs (yAq hp) q2 q3) q1 q2 q3 (q4.toV);exact⟨β',G,hv⟩
def SJ (hP:uI P TT) {T e len:Nat} {ps:Array (Nat×Operand)} {ti te:TI} {xs:List AV} (hT:TT[T]? =some ti) (hd:ti.d= .slice e) (he:TT[e]? =some te) (hp:Nat.ble 1 te.size=true) (hps:cO st ps=(xs.zipIdx 0).map λx=>(x.2,x.1)) (hl:Nat.beq xs.length len=true)
  (hw:xs.all (λx=>Nat.beq x.cells.length te.size&&(x.ok&&x.nokey))=true) (hb:Nat.ble (len*te.size) 65536=true) (hzl:Nat.beq te.zero.length te.size=true):
  wM P st (.buildSlice T len ps) (.sl true xs) [] [] []:=by
 refine⟨?_⟩;intro X tm h hg _ hn o a w β ho HH Ht;obtain⟨C,f,hrun,hCs,hmx,hl',q1,q2,q3,q4⟩:=PX false hP hT hd he hp hps hl hw hb hzl o X tm h w β a ho hg Ht;rw[hrun];rw[kU];exact⟨β,yX.newFz HH C e,.fz _ _ (xH.newArr HH C e te.size xs xs.length f (yAq hp) hmx (yAb _) q1 q2 q3 (q4.toF Z))⟩
def vU (ti:TI):AV:=bif ti.d.agg then .agg (ti.zero.map .s)else match ti.zero with
 | [v]=> .s v
 |_=> .bot
theorem ZV (hP:uI P TT) {T e n:Nat} {x y:Operand} {ti te:TI} {kx ky:IntKind} {nx ny:Int} (k:Nat) (hx:yJ (zG st.tm) x= .s (.int kx nx)) (hy:yJ (zG st.tm) y= .s (.int ky ny)) (hT:TT[T]? =some ti) (hd:ti.d= .slice e) (he:TT[e]? =some te)
  (hnx:nx=(n:Int)) (hny:nx<=ny) (hmax:ny<=1073741824) (hb:Nat.ble te.bytes 65536=true) (hp:Nat.ble 1 te.size=true) (hzl:Nat.beq te.zero.length te.size=true) (hz1:te.zero.all (·.oneCell')=true) (hzc:Nat.beq (vU te).cells.length te.size=true) (hzc2:(vU te).cells=te.zero.map .s):
  wM P st (.makeSlice T x y) (.ref k 0 n) [(k,.arr te.size (List.replicate n (vU te)) false)] [] [k]:=by
 refine⟨?_⟩;intro X tm h hg _ hn o a w β ho HH Ht;obtain⟨dst,op',type,pos,after,guard⟩:=o;dsimp only at ho;subst ho;have h1:=vF Ht hg (x:=x) vY hx;have h2:=vF Ht hg (x:=y) vY hy;have hp:=yAq hp;have hb:=yAq hb;have hzl:=yA2 hzl;have hzc:=yA2 hzc;subst hnx;obtain⟨i,z,hu,hi,hz,e1,e2,e3⟩:=wW hP hT hd he
 have hbytes:(i.bytes:Int)*ny<=281474976710656:=by
  obtain⟨m,rfl⟩:=yDf (show 0<=ny by omega);have:i.bytes*m<=65536*1073741824:=yC9 (by omega) (by omega);have h3:(i.bytes:Int)*(m:Int)=((i.bytes*m:Nat):Int):=by simp
  rw[h3];omega
 have hrun:=run_make (P:=P) w T e i z hu hi hz kx ky (n:Int) ny (by omega) hny hbytes (by omega)
 have hex:(execOp a.eval ⟨dst,.makeSlice T x y,type,pos,after,guard⟩).run P w= .ok (.value (.slice (some ⟨w.heap.size,0,none⟩) n ny.toNat)) (w.alloc (.cells (madeCells z.cells (ny.toNat*i.size)) e)):=by
  simp only[execOp,h1,h2,Sem.run_bind,hrun,Result.andThen_ok,Sem.run_pure];rfl
 rw[hex];have hzs:z.cells.size=te.size:=by rw[<-hzl,<-e3];simp
 have hrl:(List.replicate n (vU te)).length=n:=by simp
 have hat:∀(j:Nat) v,(List.replicate n (vU te))[j]? =some v->v=vU te:=λj v hv=>by
  rw[yB2]at hv;split at hv
  ·exact(yCs hv).symm
  ·cases hv
 have hzat:∀j,j<te.size->∃v,te.zero[j]? =some v/\z.cells.getD j undef=v:=λj hj=>by
  have:=kF z.cells j (by omega);refine⟨_,?_,rfl⟩;rw[<-e3];simpa using this
 have:=yX.newArr HH (hn k zU) (madeCells z.cells (ny.toNat*i.size)) e te.size (List.replicate n (vU te)) ny.toNat (λ_ j=>z.cells.getD j undef) hp (by rw[hrl];unfold cQ;omega) (by rw[hrl];omega) (by rw[size_madeCells,e1]) (qD.get (qD.made (λv hv=>yAm.1 hz1 v OD) (by omega) _))
  (λj v hv=>by rw[hat j v hv];exact hzc) (λi' j hi' hj=>by
   rw[hrl]at hi'
   have hlt:i'*te.size+j<ny.toNat*te.size:=by
    have:=yA0 te.size (show i'+1<=ny.toNat by omega);rw[yBk,yCa]at this;omega
   have hm':(i'*te.size+j) % te.size=j:=by rw[yEv,yE5];exact yC0 hj
   simp only[madeCells,e1,yFt,yFl,hlt,yE2,Option.map_some,hzs,hm']
   congr 1
   have hj':j<z.cells.size:=by omega
   simp[yAy,hj']) (λi' j _ hj=>by
   obtain⟨v,hv,hv'⟩:=hzat j hj;rw[hv']
   exact yAm.1 hz1 v (yBx hv)) (λi' v j u hv hu=>by
   rw[hat i' v hv,hzc2]at hu;simp only[yAa,yAo]at hu;obtain⟨q,hq,rfl⟩:=hu;have hj:j<te.size:=by rw[<-hzl];exact(yAu.1 hq).1
   obtain⟨v',hv1,hv2⟩:=hzat j hj;rw[hv2];rw[hq]at hv1;cases hv1
   exact .s _)
 obtain⟨β',G,hv⟩:=this;rw[hrl]at hv;exact⟨β',G,hv⟩
def zQg {T1 T2:Nat} {x y:Operand} {k:IntKind} {m n:Int} (hx:yJ (zG st.tm) x= .s (.int k m)) (hy:yJ (zG st.tm) y= .s (.int k n)):wM P st (.call ⟨.builtin .max, #[x,y], #[T1,T2]⟩) (.s (.int k (max m n))) [] [] []:=
 yK λoo X tm h w β a ho hg hr HH Ht=>by
  obtain⟨dst,op',type,pos,after,guard⟩:=oo;dsimp only at ho;subst ho;have h1:=vF Ht hg (x:=x) kH hx;have h2:=vF Ht hg (x:=y) kH hy;refine⟨.int k (max m n),?_,.fz _ _ (.s _)⟩;have:(if n>m then n else m)=max m n:=by omega
  simp[execOp,resolve,invoke,builtin,Builtin.max_,Builtin.max2,h1,h2,this]
def zQh {T1 T2:Nat} {x y:Operand} {k:IntKind} {m n:Int} (hx:yJ (zG st.tm) x= .s (.int k m)) (hy:yJ (zG st.tm) y= .s (.int k n)):wM P st (.call ⟨.builtin .min, #[x,y], #[T1,T2]⟩) (.s (.int k (min m n))) [] [] []:=
 yK λoo X tm h w β a ho hg hr HH Ht=>by
  obtain⟨dst,op',type,pos,after,guard⟩:=oo;dsimp only at ho;subst ho;have h1:=vF Ht hg (x:=x) kH hx;have h2:=vF Ht hg (x:=y) kH hy;refine⟨.int k (min m n),?_,.fz _ _ (.s _)⟩;have:(if n<m then n else m)=min m n:=by omega
  simp[execOp,resolve,invoke,builtin,Builtin.min_,Builtin.min2,h1,h2,this]
def XE (h:yC):AV->Bool
 | .sl true _=>true
 | .sl false (_::_)=>true
 | .ref k _ (_+1)=>match h k with
  |some (.arr _ _ _)=>true
  |_=>false
 |_=>false
def TR (hP:uI P TT) {T e:Nat} {ti:TI} (hT:TT[T]? =some ti) (hd:ti.d= .slice e) (w:World) (b:Option Addr) (n c:Nat):(Op.equal T (.slice b n c) (.slice none 0 0)).run P w= .ok b.isNone w:=by
 obtain⟨_,u,_,_,hu,_,hd',_⟩:=wN (hP _ _ hT);obtain rfl:=vN (hd'.symm.trans hd)
 show(Op.equalIn (9999+1) T _ _).run P w=_
 unfold Op.equalIn
 cases b<;>simp[dU w hu]
def xE (hP:uI P TT) {T ty e:Nat} {x:Operand} {ti:TI} {xv:AV} {op:BinOp} {v:Bool} (hop:op= .eql/\v=false∨op= .neq/\v=true) (hx:yJ (zG st.tm) x=xv) (hT:TT[T]? =some ti) (hd:ti.d= .slice e) (hn:XE (zC st.h) xv=true):
  wM P st (.binOp op T x (.const (.slice none 0 0)) ty) (.s (.bool v)) [] (PY xv) []:=
 yK λoo X tm h w β a ho hg hr HH Ht=>by
  obtain⟨dst,op',type,pos,after,guard⟩:=oo;dsimp only at ho;subst ho;have h1:=hH Ht hg (x:=x) vY hx
  obtain⟨b,n,c,hc⟩:∃b n c,a.eval x= .slice (some b) n c:=by
   generalize a.eval x=cx at h1
   cases h1 with
   |fz _ _ hf=>
    cases hf with
    |nil a cap=>simp[XE]at hn
    |nil1 a cap=>exact⟨_,_,_,rfl⟩
    |sl _ _ b o sz cap f hne hL hc hh=>exact⟨_,_,_,rfl⟩
    |_=>simp[XE]at hn
   |ref _ _ _ _ _ _ _ _ _ _ _ _ _ _=>exact⟨_,_,_,rfl⟩
   |ref0 _ _ _ _ _ _ _ _=>simp[XE]at hn
   |dref k off len _ hk _=>
    have:=hr k (by simp[PY])
    cases len with
    |zero=>simp[XE]at hn
    |succ m=>simp[XE,<-this,hk]at hn
   |_=>simp[XE]at hn
  have he:=TR hP hT hd w (some b) n c;refine⟨.bool v,?_,.fz _ _ (.s _)⟩
  rcases hop with⟨rfl,rfl⟩|⟨rfl,rfl⟩<;>simp[execOp,hc,show a.eval (.const (.slice none 0 0))= .slice none 0 0 from Z,eqGuard,binOp,he]
def zAy (hP:uI P TT) {T ty e:Nat} {x:Operand} {ti:TI} {op:BinOp} {v:Bool} {n c:Nat} (hop:op= .eql/\v=true∨op= .neq/\v=false) (hx:yJ (zG st.tm) x= .s (.slice none n c)) (hT:TT[T]? =some ti) (hd:ti.d= .slice e):
  wM P st (.binOp op T x (.const (.slice none 0 0)) ty) (.s (.bool v)) [] [] []:=
 yK λoo X tm h w β a ho hg hr HH Ht=>by
  obtain⟨dst,op',type,pos,after,guard⟩:=oo;dsimp only at ho;subst ho;have hc:=vF Ht hg (x:=x) vY hx;have he:=TR hP hT hd w none n c;refine⟨.bool v,?_,.fz _ _ (.s _)⟩
  rcases hop with⟨rfl,rfl⟩|⟨rfl,rfl⟩<;>simp[execOp,hc,show a.eval (.const (.slice none 0 0))= .slice none 0 0 from Z,eqGuard,binOp,he]
def TU {op:BinOp} {tx ty:Nat} {x y:Operand} {p q:ByteArray} {v:Bool} (hx:yJ (zG st.tm) x= .s (.string p)) (hy:yJ (zG st.tm) y= .s (.string q))
  (hop:op= .eql/\v=(p.toList==q.toList)∨op= .neq/\v= !(p.toList==q.toList)):wM P st (.binOp op tx x y ty) (.s (.bool v)) [] [] []:=
 yK λo X tm h w β a ho hg _ _ Ht=>by
  obtain⟨dst,op',type,pos,after,guard⟩:=o;dsimp only at ho;subst ho;have h1:=vF Ht hg (x:=x) vY hx;have h2:=vF Ht hg (x:=y) vY hy;refine⟨.bool v,?_,.fz _ _ (.s _)⟩
  rcases hop with⟨rfl,rfl⟩|⟨rfl,rfl⟩<;>simp[execOp,h1,h2,eqGuard,binOp,Op.stringOp]
end ops
end
section
def Own (β:vP) (b:Nat):Prop:=∃k n,(b,n)∈β k
abbrev GS:Nat:=1000000
def fen (ro:Option Nat):Fence:={Fence.wide with round:=ro}
structure Fr (K0:List Nat) where
 X:Nat->Prop
 w0:World
 β0:vP
 h0:yC
 hK:∀k b n,(b,n)∈β0 k->k∈K0
 hh:∀k e,h0 k=some e->k∈K0
 ro:Option Nat
 it:Bool
 V:Nat->Prop
 J:Nat->(Nat->Prop)->(Nat->Prop)->World->Prop
 Jst:∀i O X w w' O',J i O X w->w.heap.size<=w'.heap.size->(∀b,b<w.heap.size->¬O b->w'.heap[b]? =w.heap[b]?)->(∀b,O' b->O b∨w.heap.size<=b)->(∀b,O' b->b<w'.heap.size)->w'.os=w.os->w'.tape=w.tape->w'.output=w.output->J i O' X w'
def zZv (h:yC) (k:Nat):xN->Prop
 | .box _=>∃cs,h k=some (.box cs)
 | .obj _=>∃cs,h k=some (.obj cs)
 | .arr sz xs _=>∃xs' st,h k=some (.arr sz xs' st)/\xs.length<=xs'.length
 | .dead=>False
variable {K0:List Nat}
structure jY (F:Fr K0) (h:yC) (β:vP) (w:World):Prop where
 knd:∀k e,F.h0 k=some e->zZv h k e
 size:F.w0.heap.size<=w.heap.size
 keep:∀b,b<F.w0.heap.size->¬F.V b->(∀k n,(b,n)∉F.β0 k)->w.heap[b]? =F.w0.heap[b]?
 own:∀k b n,(b,n)∈β k->(∃k' n',(b,n')∈F.β0 k')∨F.w0.heap.size<=b
 pas:∀k b n,(b,n)∈F.β0 k->∃n',n<=n'/\(b,n')∈β k
 bs:∀k b n,(b,n)∈F.β0 k->wB w b=wB F.w0 b
 os:w.os=F.w0.os
 tape:w.tape=F.w0.tape
 output:w.output=F.w0.output
def vJ:List (Nat×xN)->Bool
 | []=>true
 |(_,.dead)::_=>false
 |_::r=>vJ r
theorem uG:∀{d:List (Nat×xN)} {k:Nat},vJ d=true->zC d k≠some .dead
 | [],k,_=>by simp[zC]
 |(j,e)::r,k,h=>by
  unfold zC
  cases e with
  |dead=>simp[vJ]at h
  |box cs=>cases Nat.beq k j<;>simp;exact uG (by simpa [vJ]using h)
  |obj cs=>cases Nat.beq k j<;>simp;exact uG (by simpa [vJ]using h)
  |arr a b c=>cases Nat.beq k j<;>simp;exact uG (by simpa [vJ]using h)
def zSp (β β':vP):Prop:=∀k b n,(b,n)∈β k->∃n',n<=n'/\(b,n')∈β' k
theorem yX.lives {X:Nat->Prop} {w w':World} {h h':yC} {β β':vP} (H:qV X h β w) (G:yX X w h β w' h' β') (hd:∀k,h' k≠some .dead):zSp β β':=by
 intro k b n hm
 cases he:h k with
 |none=>rw[H.off k he]at hm;simp at hm
 | some e=>
  rcases G.key k e he with h1|h1
  ·exact absurd h1 (hd k)
  ·cases e with
   |dead=>exact h1.elim
   |box cs=>exact⟨n,yAb _,h1.2 b n hm⟩
   |obj cs=>exact⟨n,yAb _,h1.2 b n hm⟩
   |arr sz xs st=>exact h1.2 b n hm
theorem jY.goes {F:Fr K0} {X:Nat->Prop} {β β':vP} {w w':World} {h h':yC} (K:jY F h β w) (G:yX X w h β w' h' β') (nd:∀k,h' k≠some .dead) (hl:zSp β β'):jY F h' β' w' where
 knd k e he:=by
  have h1:=K.knd k e he
  cases e with
  |dead=>exact h1
  |box cs=>
   obtain⟨cs',h2⟩:=h1;exact((G.key k _ h2).resolve_left (nd k)).1
  |obj cs=>
   obtain⟨cs',h2⟩:=h1;exact((G.key k _ h2).resolve_left (nd k)).1
  |arr sz xs st=>
   obtain⟨xs',st',h2,h3⟩:=h1;obtain⟨xs'',st'',h4,h5⟩:=((G.key k _ h2).resolve_left (nd k)).1;exact⟨xs'',st'',h4,yBm h3 h5⟩
 size:=yBm K.size G.size
 keep b hb hi hn:=by
  rw[G.keep b (yBl hb K.size),K.keep b hb hi hn];intro k n hm
  rcases K.own k b n hm with⟨k',n',h1⟩|h1
  ·exact hn _ _ h1
  ·omega
 own k b n hm:=by
  rcases G.own k b n hm with⟨k',n',h1⟩|h1
  ·exact K.own k' b n' h1
  ·exact .inr (yBm K.size h1)
 pas k b n hm:=by
  obtain⟨n',h1,h2⟩:=K.pas k b n hm;obtain⟨n'',h3,h4⟩:=hl k b n' h2;exact⟨n'',yBm h1 h3,h4⟩
 bs k b n hm:=by
  obtain⟨n',_,h2⟩:=K.pas k b n hm;rw[G.bs k b n' h2,K.bs k b n hm]
 os:=G.os.trans K.os
 tape:=G.tape.trans K.tape
 output:=G.output.trans K.output
def DOK (X:Nat->Prop) (F:Fr K0) (ds:List Deferred) (w:World):Prop:=
 ∃bs:List Nat,ds=bs.map (λb=>{target:= .collected b,args:= #[]})/\(F.it=true->bs=[])/\bs.Nodup/\∀b,b∈bs->X b/\F.w0.heap.size<=b/\w.heap[b]? =some (.deferred (some []))
theorem DOK.goes {X:Nat->Prop} {F:Fr K0} {ds:List Deferred} {w w':World} {h h':yC} {β β':vP} (H:qV X h β w) (D:DOK X F ds w) (G:yX X w h β w' h' β'):DOK X F ds w':=by
 obtain⟨bs,h1,h0,h2,h3⟩:=D;refine⟨bs,h1,h0,h2,λb hb=>?_⟩;obtain⟨q1,q2,q3⟩:=h3 b hb;exact⟨q1,q2,by rw[G.keep b (H.lt b (.inl q1)) λk n hm=>H.free k b n hm q1];exact q3⟩
theorem Fr.go {F:Fr K0} {X:Nat->Prop} {w w':World} {h h':yC} {β β':vP} {i:Nat} (G:yX X w h β w' h' β') (hj:F.J i (Own β) X w):F.J i (Own β') X w':=
 F.Jst i _ X w w' _ hj G.size (λb hb hn=>G.keep b hb λk n hm=>hn ⟨k,n,hm⟩) (λb ⟨k,n,hm⟩=>(G.own k b n hm).imp (λ⟨k',n',h⟩=>⟨k',n',h⟩) id) (λb ⟨k,n,hm⟩=>G.hok.lt b (.inr ⟨k,n,hm⟩)) G.os G.tape G.output
def XOK (F:Fr K0) (X:Nat->Prop):Prop:=(∀b,F.X b->X b)/\∀b,X b->F.X b∨F.w0.heap.size<=b
structure XF (F:Fr K0) (m:Nat) (tm:Nat->AV) (h:yC) (a:Act) (w:World):Prop where
 ex:∃X β,XOK F X/\qV X h β w/\(∀t,zQ w (xK X β) h β (tm t) (a.eval (.tmp t)))/\jY F h β w/\(∀i,tm GS= .gh i->F.J i (Own β) X w)/\DOK X F a.defers w
 nd:∀k,h k≠some .dead
 gs:m<=GS
 len:a.tmps.size=m
def xV (F:Fr K0) (m:Nat) (st:St):Act->World->Prop:=XF F m (zG st.tm) (zC st.h)
def yF (t:Nat) (v:AV) (tm:List (Nat×AV)) (j:Nat):zG ((t,v)::tm) j=if j=t then v else zG tm j:=by
 conv=>lhs;unfold zG
 by_cases h:j=t
 ·subst h;simp
 ·rw[zZ7 h,ZD h];rfl
def yQ (t:Nat) (v:xN) (tm:List (Nat×xN)) (j:Nat):zC ((t,v)::tm) j=if j=t then some v else zC tm j:=by
 conv=>lhs;unfold zC
 by_cases h:j=t
 ·subst h;simp
 ·rw[zZ7 h,ZD h];rfl
theorem wQ:∀(d h:List (Nat×xN)),zC (d++h)=over d (zC h)
 | [],_=>rfl
 |(k,e)::r,h=>by
  funext j
  have ih:=congrFun (wQ r h) j;simp only[yCu,over,yQ]at *; split
  ·rfl
  ·exact ih
theorem dH.wp {P:Program} {ro:Option Nat} {o:Oper} {a:Act} {w:World} {K:Act->World->Prop} {Q:Exit->Act->World->Prop} {N:Value->World->Prop} (hd:dH P N ((execOp a.eval o).run P w)) (h:∀c w',N c w'->K (a.put o.dst c) w'):o.wpIn (fen ro) 0 P a w K Q:=by
 have hs:(o.semAt (fen ro).round a.eval).run P w=(execOp a.eval o).run P w:=by
  show(o.semAt ro a.eval).run P w=_
  cases ro with
  |none=>rfl
  | some l=>
   by_cases hdf:∃c,o.op= .defer c
   ·exfalso;obtain⟨c,hc⟩:=hdf;revert hd;unfold execOp;rw[hc];simp only[Sem.run_bind]
    cases (resolve a.eval c o.type).run P w<;>simp[Result.andThen,dH]
   ·rw[Oper.semAt_some l _ _ λc hc=>hdf ⟨c,hc⟩]
 refine⟨λ_ _=>trivial,?_⟩;rw[hs];generalize (execOp a.eval o).run P w=r at hd
 cases r with
 |halt x w'=>exact hd.elim
 | ok n w'=>
  cases n with
  |value c=>exact h _ _ hd
  |skip=>exact h _ _ hd
  |enter f args=>
   refine⟨λhx=>by simp[fen,Fence.wide]at hx,?_⟩;exact callsIn_wide.2 (Calls.mono hd λe w'' ⟨c,he,hn⟩=>by subst he;exact h _ _ hn)
  |_=>exact hd.elim
theorem XF.put {F:Fr K0} {X:Nat->Prop} {m:Nat} {tm:Nat->AV} {h h':yC} {a:Act} {w w':World} {β β':vP} (hX:XOK F X) (H:qV X h β w) (hv:∀t,zQ w (xK X β) h β (tm t) (a.eval (.tmp t))) (K:jY F h β w) (hJ:∀i,tm GS= .gh i->F.J i (Own β) X w) (hd:DOK X F a.defers w) (gs:m<=GS) (hl:a.tmps.size=m)
  (G:yX X w h β w' h' β') (nd:∀k,h' k≠some .dead) {v:AV} {c:Value} (hc:zQ w' (xK X β') h' β' v c) (dst:Option Nat) (hm:∀d,dst=some d->d<m):
  XF F m (λt=>if dst=some t then v else tm t) h' (a.put dst c) w':=by
 refine⟨⟨X,β',hX,G.hok,λt=>?_,K.goes G nd (G.lives H nd),λi hi=>?_,by have:=hd.goes H G;cases dst<;>exact this⟩,nd,gs,by cases dst<;>simp[Act.put,hl]⟩
 ·split
  ·rename_i ht;subst ht;have:t<a.tmps.size:=by rw[hl];exact hm t Z
   have e:(a.put (some t) c).eval (.tmp t)=c:=by simp[Act.put,Act.eval,this]
   rw[e];exact hc
  ·rename_i ht;rw[Act.eval_put (λd hd e=>ht (by rw[hd];injection e with e;rw[e]))];exact(hv t).evo G.evo
 ·rw[zZ7 (λe=>by have:=hm GS e;omega)]at hi;exact F.go G (hJ i hi)
theorem wM.rel {P:Program} {st:St} {o:Oper} {v:AV} {d:List (Nat×xN)} {r nw:List Nat} (hs:wM P st o.op v d r nw) {F:Fr K0} {m:Nat} {tm:Nat->AV} {h:yC} {a:Act} {w:World} (H:XF F m tm h a w)
  (h1:∀t,t∈fA o.op->tm t=zG st.tm t) (h2:∀k,k∈r->h k=zC st.h k) (h3:∀k,k∈nw->h k=none) (hd:vJ d=true) (hm:∀t,o.dst=some t->t<m) {K:Act->World->Prop} {Q:Exit->Act->World->Prop}
  (hK:∀a' w',XF F m (λt=>if o.dst=some t then v else tm t) (over d h) a' w'->K a' w'):o.wpIn (fen F.ro) 0 P a w K Q:=by
 obtain⟨⟨X,β,hX,HH,Ht,KK,hJ,hD⟩,nd,gs,hl⟩:=H;refine dH.wp (hs.run X tm h h1 h2 h3 o a w β rfl HH Ht) ?_;rintro c w' ⟨β',G,hc⟩
 have nd':∀k,over d h k≠some .dead:=λk=>by
  unfold over;split
  ·rename_i e he;intro h4;cases h4;exact uG hd he
  ·exact nd k
 exact hK _ _ (XF.put hX HH Ht KK hJ hD gs hl G nd' hc o.dst hm)
def SO {F:Fence} {n:Nat} {P:Program} {Q:Exit->Act->World->Prop} {a:Act} {w:World} {c:Code} (I:Nat->Act->World->Prop) (n₀:Nat) (h₀:I n₀ a w)
  (round:∀k a w,I k a w->c.wpIn F n P (Exit.then (λa' w'=>∃k',k'<k/\I k' a' w') Q) a w):(Code.loop c).wpIn F n P Q a w:=by
 refine wpIn_loop (λa w=>∃k,I k a w) (λa w=>leastOf (λk=>I k a w)) ⟨n₀,h₀⟩ ?_;intro a w hI;refine wpIn_mono (round _ a w (leastOf_spec hI).1) ?_;intro e a' w' hq
 cases e with
 |normal=>
  obtain⟨n',hlt,hI'⟩:=hq;exact show(∃n,I n a' w')/\leastOf (λn=>I n a' w')<leastOf (λn=>I n a w)from⟨⟨n',hI'⟩,Nat.lt_of_le_of_lt ((leastOf_spec ⟨n',hI'⟩).2 n' hI') hlt⟩
 |_=>exact hq
structure vK (P:Program) (F:Fr K0) (m:Nat) (c:Code) (st:St) (Q:Exit->St->Prop):Prop where
 run:∀a w,xV F m st a w->c.wpIn (fen F.ro) 0 P (λe a' w'=>∃st',Q e st'/\xV F m st' a' w') a w
def GN (P:Program) (F:Fr K0) (m:Nat) (ops:Array Oper) (l:List Oper) (st:St) (Q:St->Prop):Prop:=
 ∀a w,xV F m st a w->wpListIn (fen F.ro) 0 P ops (λe a' w'=>e= .normal/\∃st',Q st'/\xV F m st' a' w') l a w
section
variable {P:Program} {F:Fr K0} {m:Nat} {Q:Exit->St->Prop} {st:St}
theorem vK.mono {c:Code} {Q':Exit->St->Prop} (h:vK P F m c st Q) (hq:∀e s,Q e s->Q' e s):vK P F m c st Q':=
 ⟨λa w H=>Code.wpIn_mono (λ_ _ _ ⟨s,h1,h2⟩=>⟨s,hq _ _ h1,h2⟩) (h.run a w H)⟩
def xA (h:Q .normal st):vK P F m .skip st Q:=⟨λ_ _ H=>wpIn_skip ⟨st,h,H⟩⟩
def yT (h:Q .ret st):vK P F m .ret st Q:=⟨λ_ _ H=>wpIn_ret ⟨st,h,H⟩⟩
def xF {id:Nat} (h:Q (.exit id) st):vK P F m (.exit id) st Q:=⟨λ_ _ H=>wpIn_exit ⟨st,h,H⟩⟩
def ZW (P:Program) (F:Fr K0) (m:Nat) (y:Code) (Q:Exit->St->Prop):Exit->St->Prop
 | .normal,s=>vK P F m y s Q
 |e,s=>Q e s
def xS {x y:Code} (h:vK P F m x st (ZW P F m y Q)):vK P F m (.seq x y) st Q:=⟨λa w H=>
 wpIn_seq (Code.wpIn_mono (λe a' w' ⟨s,h1,h2⟩=>by
  cases e with
  |normal=>exact vK.run h1 a' w' h2
  |_=>exact⟨s,h1,h2⟩) (h.run a w H))⟩
def xL {c:Operand} {x y:Code} {t:Bool} (hc:yJ (zG st.tm) c= .s (.bool t)) (h1:t=true->vK P F m x st Q) (h2:t=false->vK P F m y st Q):vK P F m (.cond c x y) st Q:=⟨λa w H=>by
 have hv:a.eval c= .bool t:=by
  obtain⟨⟨_,β,_,_,Ht,_⟩,_⟩:=H;have:=gJ Ht c;rw[hc]at this;exact this.s_inv
 exact wpIn_cond_split hv (λh=>(h1 h).run a w H) (λh=>(h2 h).run a w H)⟩
def zY {c:Operand} {x y:Code} (hc:yJ (zG st.tm) c= .s (.bool true)) (h:vK P F m x st Q):vK P F m (.cond c x y) st Q:=xL hc (λ_=>h) (λh=>by cases h)
def zS {c:Operand} {x y:Code} (hc:yJ (zG st.tm) c= .s (.bool false)) (h:vK P F m y st Q):vK P F m (.cond c x y) st Q:=xL hc (λh=>by cases h) (λ_=>h)
def inB (id:Nat) (Q:Exit->St->Prop):Exit->St->Prop
 | .exit id',s=>bif Nat.beq id' id then Q .normal s else Q (.exit id') s
 |e,s=>Q e s
def yW {id:Nat} {c:Code} (h:vK P F m c st (inB id Q)):vK P F m (.block id c) st Q:=⟨λa w H=>
 wpIn_block (Code.wpIn_mono (λe a' w' ⟨s,h1,h2⟩=>by
  cases e with
  |exit id'=>
   simp only[Exit.inBlock];split
   ·rename_i he;subst he;simp only[inB,zFd,yBn]at h1;exact⟨s,h1,h2⟩
   ·rename_i he;simp only[inB,ZD he,yB5]at h1;exact⟨s,h1,h2⟩
  |_=>exact⟨s,h1,h2⟩) (h.run a w H))⟩
def zAz {id:Nat} {l:List Oper} (h:GN P F m l.toArray l st (Q .normal)):vK P F m (.region id l.toArray false) st Q:=⟨λa w H=>
 Code.wpIn_mono (λe a' w' ⟨he,s,h1,h2⟩=>by subst he;exact⟨s,h1,h2⟩) (wpIn_region_lit (h a w H))⟩
end
end
end Av
end Go.Proofs.YteajjdidebfcjaaGreat
