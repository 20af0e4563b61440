/- Part 2. -/
import Derived.Test.YteajjdidebfcjaaGreatR01
namespace Go.Proofs.YteajjdidebfcjaaGreat
namespace Av
set_option linter.all false
section
def AV.one:AV->Bool
 | .s v=>v.oneCell'
 | .sl _ _| .slc _ _| .ref _ _ _| .ptr _ _ _| .fp _ _ _| .fn _ _| .fm _ _=>true
 |_=>false
def AV.ok:AV->Bool
 | .agg _=>true
 |v=>v.one
mutual
def AV.nokey:AV->Bool
 | .bot| .s _| .sl _ _| .slc _ _| .fp _ _ _| .fm _ _=>true
 | .agg cs=>xY cs
 |_=>false
def xY:List AV->Bool
 | []=>true
 |v::r=>v.nokey&&xY r
end
theorem kE:∀{cs:List AV} {i:Nat} {v:AV},xY cs=true->cs[i]? =some v->v.nokey=true
 | [],_,_,_,h=>by simp at h
 |x::r,0,v,hk,h=>by simp at h;subst h;simp[xY]at hk;exact hk.1
 |x::r,i+1,v,hk,h=>by simp[xY]at hk;exact kE hk.2 IY
def VJ {α:Type}:List α->Nat->List α->List α
 |cs,_,[]=>cs
 |cs,o,v::vs=>VJ (cs.set o v) (o+1) vs
theorem dB {α:Type}:∀(vs cs:List α) (o:Nat),(VJ cs o vs).length=cs.length
 | [],_,_=>rfl
 |v::vs,cs,o=>by rw[VJ,dB vs,yBv]
theorem ZA {α:Type}:∀(vs cs:List α) (o j:Nat),o+vs.length<=cs.length->(VJ cs o vs)[j]? =if o<=j/\j<o+vs.length then vs[j-o]? else cs[j]?
 | [],cs,o,j,_=>by rw[VJ,zZ7 zU]
 | v::vs,cs,o,j,h=>by
  simp at h;rw[VJ,ZA vs _ _ _ vA];by_cases h1:o+1<=j/\j<o+1+vs.length
  ·rw[zZ8 h1,zZ8 vA,show j-o=(j-(o+1))+1 by omega];simp
  ·rw[zZ7 h1];by_cases h2:j=o
   ·subst h2;rw[zZ8 zU,yBq (by omega),yB9];rfl
   ·rw[zZ7 vA,yD8 (by omega)]
section
variable {w:World} {D:Nat->Prop} {h:yC} {β:vP}
def gI {c:Array Value} {i:Nat} {v:Value} (h:c[i]? =some v):c.getD i undef=v:=by simp[yAy,h]
def kF (c:Array Value) (i:Nat) (h:i<c.size):c[i]? =some (c.getD i undef):=by
 obtain⟨u,hu⟩:∃u,c[i]? =some u:=⟨c[i],by simp[h]⟩;rw[gI hu];exact hu
theorem xH.one_of {v:AV} {c:Value} (hv:xH w D v c) (h1:v.one=true):c.oneCell'=true:=by
 cases hv<;>first|rfl|(simp[AV.one]at h1;done)|simpa [AV.one]using h1
theorem zQ.one_of {v:AV} {c:Value} (hv:zQ w D h β v c) (h1:v.one=true):c.oneCell'=true:=by
 cases hv with
 |fz _ _ hf=>exact hf.one_of h1
 |dref _ _ _ _ _ h2=>exact h2
 |dptr _ _ _ _ _ h2=>exact h2
 |agg _ _ _ _ _=>simp[AV.one]at h1
 |tup _ _ _ _=>simp[AV.one]at h1
 |_=>rfl
theorem zQ.cells {v:AV} {c:Value} (hv:zQ w D h β v c) (h1:v.ok=true):
  c.cells.size=v.cells.length/\(∀i,i<c.cells.size->(c.cells.getD i undef).oneCell'=true)/\∀(i:Nat) u,v.cells[i]? =some u->zQ w D h β u (c.cells.getD i undef):=by
 by_cases ha:v.isAgg=true
 ·cases v<;>simp[AV.isAgg]at ha
  rename_i cs
  cases hv with
  |fz _ _ hf=>
   cases hf with
   |agg _ c hl h2 hh=>exact⟨hl,h2,λi u hu=> .fz _ _ (hh i u hu)⟩
  |agg _ c hl h2 hh=>exact⟨hl,h2,hh⟩
 ·have ho:v.one=true:=by cases v<;>first|exact h1|(simp[AV.isAgg]at ha)
  have hc:=hv.one_of ho
  have e1:c.cells= #[c]:=by cases c<;>first|rfl|(simp[Value.oneCell']at hc)
  have e2:v.cells=[v]:=by cases v<;>first|rfl|(simp[AV.isAgg]at ha)
  rw[e1,e2];refine⟨rfl,λi hi=>?_,λi u hu=>?_⟩
  ·obtain rfl:i=0:=by simpa using hi
   exact hc
  ·cases i with
   |zero=>simp at hu;subst hu;exact hv
   |succ i=>simp at hu
theorem zQ.toF:∀{v:AV} {c:Value},zQ w D h β v c->v.nokey=true->xH w D v c:=by
 intro v c hv
 induction hv with
 |fz _ _ hf=>exact λ_=>hf
 |agg cs c hl h1 _ ih=>exact λhk=> .agg cs c hl h1 λi v hi=>ih i v hi (kE (by simpa [AV.nokey]using hk) hi)
 |_=>intro hk;simp[AV.nokey]at hk
def Row (w:World) (D:Nat->Prop) (h:yC) (β:vP) (row:List AV) (b o:Nat):Prop:=
 ∀(j:Nat) u,row[j]? =some u->∃c,w.cell? ⟨b,o+j,none⟩=some c/\c.oneCell'=true/\zQ w D h β u c
def uP {b:Nat} {c:Array Value} {el:Nat} {fr:Nat×Nat} (hb:w.heap[b]? =some (.cells c el fr)) (j:Nat):w.cell? ⟨b,j,none⟩=c[j]? :=by simp[World.cell?,hb]
def RR {X:Nat->Prop} (H:qV X h β w) {k off:Nat} {cs:List AV} (hk:h k=some (.box cs)) {i:Nat} {c:Value} (hv:zQ w D h β (.ptr k i off) c):
  ∃b,c= .pointer (some ⟨b,off,none⟩)/\i=0/\Row w (xK X β) h β cs b 0:=by
 cases hv with
 |fz _ _ hf=>cases hf
 |dptr _ _ _ _ hd _=>rw[hk]at hd;cases hd
 |parr _ _ _ _ _ _ _ _ hd _ _ _=>rw[hk]at hd;cases hd
 |pbox _ _ cs' b n hk' hb=>
  obtain⟨b',c,el,h1,h2,h3,h4,h5⟩:=H.ent k _ hk;rw[h1]at hb;simp at hb;obtain⟨rfl,rfl⟩:=hb;refine⟨b,rfl,rfl,λj u hu=>?_⟩;have hj:j<c.size:=by rw[h3];exact(yAu.1 hu).1
  exact⟨c.getD j undef,by rw[uP h2,yBu];exact kF c j hj,h4 j hj,h5 j u hu⟩
def zDk {X:Nat->Prop} (H:qV X h β w) {k i off sz:Nat} {xs:List AV} {st:Fl} (hk:h k=some (.arr sz xs st)) {x:AV} (hx:xs[i]? =some x) {c:Value} (hv:zQ w D h β (.ptr k i off) c):
  ∃b n,c= .pointer (some ⟨b,i*sz+off,none⟩)/\(b,n)∈β k/\off<sz/\x.cells.length=sz/\Row w (xK X β) h β x.cells b (i*sz):=by
 cases hv with
 |fz _ _ hf=>cases hf
 |dptr _ _ _ _ hd _=>rw[hk]at hd;cases hd
 |pbox _ _ _ _ _ hd _=>rw[hk]at hd;cases hd
 |parr _ _ _ sz' xs' st' b n hk' hb hi ho=>
  rw[hk]at hk';cases hk';obtain⟨_,_,_,hw,_,f,h6,h7,h8⟩:=H.ent k _ hk;obtain⟨c,el,h9,_,h11,_⟩:=h8 b n hb;have hsz:=hw i x hx;refine⟨b,n,rfl,hb,ho,hsz,λj u hu=>?_⟩;have hj:j<sz:=by rw[<-hsz];exact(yAu.1 hu).1
  exact⟨f i j,by rw[uP h9];exact h11 i j hi hj,h7 i j (yAu.1 hx).1 hj,h6.toV i x j u hx hu⟩
def zLz {X:Nat->Prop} (H:qV X h β w) {k i off sz:Nat} {xs:List AV} {st:Fl} (hk:h k=some (.arr sz xs st)) {x:AV} (hx:xs[i]? =some x) {c:Value} (hv:zQ w D h β (.ptr k i off) c):
  ∃b n,c= .pointer (some ⟨b,i*sz+off,none⟩)/\(b,n)∈β k/\off<sz/\x.cells.length=sz/\Row w (xK X β) h β x.cells b (i*sz)/\i<n:=by
 cases hv with
 |fz _ _ hf=>cases hf
 |dptr _ _ _ _ hd _=>rw[hk]at hd;cases hd
 |pbox _ _ _ _ _ hd _=>rw[hk]at hd;cases hd
 |parr _ _ _ sz' xs' st' b n hk' hb hi ho=>
  rw[hk]at hk';cases hk';obtain⟨_,_,_,hw,_,f,h6,h7,h8⟩:=H.ent k _ hk;obtain⟨c,el,h9,_,h11,_⟩:=h8 b n hb;have hsz:=hw i x hx;refine⟨b,n,rfl,hb,ho,hsz,λj u hu=>?_,hi⟩;have hj:j<sz:=by rw[<-hsz];exact(yAu.1 hu).1
  exact⟨f i j,by rw[uP h9];exact h11 i j hi hj,h7 i j (yAu.1 hx).1 hj,h6.toV i x j u hx hu⟩
def zVy {xs:List AV} {i off:Nat} {x:AV} (hx:xs[i]? =some x) {c:Value} (hv:zQ w D h β (.fp xs i off) c):
  ∃b o,c= .pointer (some ⟨b,o+off,none⟩)/\off<x.cells.length/\Row w D h β x.cells b o:=by
 cases hv with
 | fz _ _ hf=>
  cases hf with
  |fp _ b o sz _ _ f hL hi ho hh=>
   have hsz:=hL.wide i x hx;refine⟨b,o+i*sz,rfl,by omega,λj u hu=>?_⟩;have hj:j<sz:=by rw[<-hsz];exact(yAu.1 hu).1
   exact⟨f i j,hL.cell i j hi hj,hL.one i j hi hj,.fz _ _ (hh i x j u hx hu)⟩
end
def ldv (agg:Bool) (n:Nat) (row:List AV) (off:Nat):Option AV:=
 bif agg then(bif Nat.ble (off+n) row.length then some (.agg ((row.drop off).take n))else none)else row[off]?
def IV {P:Program} {TT:List TI} (hP:uI P TT) {T:Nat} {ti:TI} (hT:TT[T]? =some ti) {w:World} {D:Nat->Prop} {h:yC} {β:vP} {row:List AV} {b o off:Nat} (hR:Row w D h β row b o) {v:AV}
  (hv:ldv ti.d.agg ti.size row off=some v):∃c,(loadVar T ⟨b,o+off,none⟩).run P w= .ok c w/\zQ w D h β v c:=by
 have ha:=IZ (hP _ _ hT) w;have hs:=uQ (hP _ _ hT) w;unfold ldv at hv
 have hadd:∀j,(⟨b,o+off,none⟩:Addr).add j=⟨b,o+(off+j),none⟩:=λj=>by unfold Addr.add;split<;>simp_all<;>omega
 cases hb:ti.d.agg with
 |false=>
  simp only[hb,yB5]at hv;obtain⟨c,h1,_,h3⟩:=hR off v hv;exact⟨c,by simp[loadVar,ha,hb,h1],h3⟩
 | true=>
  simp only[hb,yBn]at hv
  cases hle:Nat.ble (off+ti.size) row.length with
  |false=>simp[hle]at hv
  | true=>
   have hle':=yAq hle;simp only[hle,yBn,yBj]at hv;subst hv
   have hc:∀j,∃c,j<ti.size->∃u,row[off+j]? =some u/\w.cell? ((⟨b,o+off,none⟩:Addr).add j)=some c/\c.oneCell'=true/\zQ w D h β u c:=λj=>by
    by_cases hj:j<ti.size
    ·obtain⟨u,hu⟩:∃u,row[off+j]? =some u:=⟨row[off+j],by simp⟩;obtain⟨c,h1,h2,h3⟩:=hR (off+j) u hu;exact⟨c,λ_=>⟨u,hu,by rw[hadd];exact h1,h2,h3⟩⟩
    ·exact⟨undef,λh=>absurd h hj⟩
   obtain⟨f,hf⟩:∃f:Nat->Value,∀j,j<ti.size->∃u,row[off+j]? =some u/\w.cell? ((⟨b,o+off,none⟩:Addr).add j)=some (f j)/\(f j).oneCell'=true/\zQ w D h β u (f j):=
    ⟨λj=>(hc j).choose,λj hj=>(hc j).choose_spec hj⟩
   have hl:=run_loadCells (P:=P) w ⟨b,o+off,none⟩ ti.size f λj hj=>(hf j hj).choose_spec.2.1
   have hat:∀i,i<ti.size->(((List.range ti.size).map f).toArray).getD i undef=f i:=λi hi=>gI VP
   refine⟨.agg ((List.range ti.size).map f).toArray,by simp[loadVar,ha,hb,hs,hl],.agg _ _ vA (λi hi=>?_) λi u hu=>?_⟩
   ·have hi':i<ti.size:=by simpa using hi
    rw[hat i hi'];exact(hf i hi').choose_spec.2.2.1
   ·rw[yBz]at hu;split at hu
    ·rename_i hi;rw[hat i hi];obtain⟨u',h1,_,_,h3⟩:=hf i hi;rw[yCf,h1]at hu;cases hu;exact h3
    ·cases hu
section ops
variable {P:Program} {TT:List TI} {st:St} (hP:uI P TT)
def kW {T:Nat} {x:Operand} {v:AV} (k:Nat) (hx:yJ (zG st.tm) x=v) (h1:v.ok=true):wM P st (.box T x) (.ptr k 0 0) [(k,.box v.cells)] [] [k]:=by
 refine⟨?_⟩;intro X tm h hg _ hn o a w β ho HH Ht;obtain⟨dst,op',type,pos,after,guard⟩:=o;dsimp only at ho;subst ho;obtain⟨hl,ho,hv⟩:=(hH Ht hg (x:=x) vY hx).cells h1;obtain⟨β',G,hp⟩:=yX.newBox HH (hn k zU) (a.eval x).cells T v.cells hl ho hv
 have hr:(execOp a.eval ⟨dst,.box T x,type,pos,after,guard⟩).run P w= .ok (.value (.pointer (some ⟨w.heap.size,0,none⟩))) (w.alloc (.cells (a.eval x).cells T)):=by
  simp[execOp,Instr.box,newVar,newRow]
 rw[hr];exact⟨β',G,hp⟩
include hP in
def ZB {T:Nat} {ti:TI} (k:Nat) (hT:TT[T]? =some ti) (h1:ti.zero.all (·.oneCell')=true):wM P st (.alloc T) (.ptr k 0 0) [(k,.box (ti.zero.map .s))] [] [k]:=by
 refine⟨?_⟩;intro X tm h hg _ hn o a w β ho HH Ht;obtain⟨dst,op',type,pos,after,guard⟩:=o;dsimp only at ho;subst ho;obtain⟨z,hz,hzz⟩:=zL6 (hP _ _ hT) w
 obtain⟨β',G,hp⟩:=yX.newBox HH (hn k zU) z.cells T (ti.zero.map .s) (by simp[<-hzz]) (λi hi=>by
   have:=yAm.1 h1 (z.cells.getD i undef) (by rw[<-hzz];exact yBx (by simpa using kF _ i hi))
   exact this) (λi v hv=>by
   simp only[yAa,yAo]at hv;obtain⟨u,hu,rfl⟩:=hv;rw[<-hzz]at hu;rw[gI (by simpa using hu)]
   exact .fz _ _ (.s _))
 have hr:(execOp a.eval ⟨dst,.alloc T,type,pos,after,guard⟩).run P w= .ok (.value (.pointer (some ⟨w.heap.size,0,none⟩))) (w.alloc (.cells z.cells T)):=by
  simp[execOp,Instr.alloc,hz,newVar,newRow]
 rw[hr];exact⟨β',G,hp⟩
include hP in
def IW {T:Nat} {x:Operand} {k off:Nat} {cs:List AV} {v:AV} {ti:TI} (hx:yJ (zG st.tm) x= .ptr k 0 off) (hk:zC st.h k=some (.box cs)) (hT:TT[T]? =some ti)
  (hv:ldv ti.d.agg ti.size cs off=some v):wM P st (.load T x) v [] [k] []:=
 yK λo X tm h w β a ho hg hr HH Ht=>by
  obtain⟨dst,op',type,pos,after,guard⟩:=o;dsimp only at ho;subst ho;have h1:=hH Ht hg (x:=x) vY hx;have hk':=(hr k zU).trans hk;obtain⟨b,hc,_,hR⟩:=RR HH hk' h1;obtain⟨c,h2,h3⟩:=IV hP hT hR hv;rw[yBu]at h2;exact⟨c,by simp[execOp,Instr.loadAt,hc,Instr.sureAddr,h2],h3⟩
include hP in
def fG {T:Nat} {x:Operand} {k i off sz:Nat} {xs:List AV} {sl:Fl} {y v:AV} {ti:TI} (hx:yJ (zG st.tm) x= .ptr k i off) (hk:zC st.h k=some (.arr sz xs sl)) (hy:xs[i]? =some y) (hT:TT[T]? =some ti)
  (hv:ldv ti.d.agg ti.size y.cells off=some v):wM P st (.load T x) v [] [k] []:=
 yK λo X tm h w β a ho hg hr HH Ht=>by
  obtain⟨dst,op',type,pos,after,guard⟩:=o;dsimp only at ho;subst ho;have h1:=hH Ht hg (x:=x) vY hx;have hk':=(hr k zU).trans hk;obtain⟨b,n,hc,_,_,_,hR⟩:=zDk HH hk' hy h1;obtain⟨c,h2,h3⟩:=IV hP hT hR hv;exact⟨c,by simp[execOp,Instr.loadAt,hc,Instr.sureAddr,h2],h3⟩
include hP in
def aI {T:Nat} {x:Operand} {i off:Nat} {xs:List AV} {y v:AV} {ti:TI} (hx:yJ (zG st.tm) x= .fp xs i off) (hy:xs[i]? =some y) (hT:TT[T]? =some ti)
  (hv:ldv ti.d.agg ti.size y.cells off=some v):wM P st (.load T x) v [] [] []:=
 yK λo X tm h w β a ho hg hr HH Ht=>by
  obtain⟨dst,op',type,pos,after,guard⟩:=o;dsimp only at ho;subst ho;have h1:=hH Ht hg (x:=x) vY hx;obtain⟨b,o,hc,_,hR⟩:=zVy hy h1;obtain⟨c,h2,h3⟩:=IV hP hT hR hv;exact⟨c,by simp[execOp,Instr.loadAt,hc,Instr.sureAddr,h2],h3⟩
end ops
def zL0 {P:Program} {TT:List TI} (hP:uI P TT) {T:Nat} {ti:TI} (hT:TT[T]? =some ti) {w:World} {b:Nat} {c:Array Value} {el:Nat} (hb:w.heap[b]? =some (.cells c el (0,0))) {off:Nat} {x:Value} (hn:x.cells.size=ti.size)
  (ho:off+ti.size<=c.size) (h1:∀i,i<x.cells.size->(x.cells.getD i undef).oneCell'=true):
  ∃c':Array Value,(storeVar T ⟨b,off,none⟩ x).run P w= .ok () (w.setRow b c')/\c'.size=c.size/\∀j,c'.getD j undef=if off<=j/\j<off+ti.size then x.cells.getD (j-off) undef else c.getD j undef:=by
 have hs:=uQ (hP _ _ hT) w
 have hst:=run_storeCells_at P b off el x.cells.toList 0 c w hb vA (λv hv=>by
  obtain⟨i,hi,rfl⟩:=yCh hv;have:=h1 i OB
  simpa [yAy,show i<x.cells.size by simpa using hi]using this)
 refine⟨_,by simp only[storeVar,Sem.run_bind,hs,Result.andThen_ok,hn,yC7,yEs,yFi,hst];rfl,?_,λj=>?_⟩
 ·simp;omega
 ·simp only[yDd,yDh,hn,yAy,yDa];by_cases h2:off<=j/\j<off+ti.size
  ·rw[zZ8 h2,yBe vA,yA1 vA];simp[show min off c.size=off by omega]
  ·rw[zZ7 h2];by_cases h3:j<off
   ·rw[yBe vA,yBe vA,yBz,zZ8 h3];simp
   ·rw[yA1 vA,yCf];have e:off+ti.size+(j-(List.take off c.toList++x.cells.toList).length)=j:=by simp[hn];omega
    rw[e];simp
def kG {w:World} {b:Nat} {c c':Array Value} {el:Nat} {fr:Nat×Nat} (hb:w.heap[b]? =some (.cells c el fr)) (hs:c'.size=c.size) (j:Nat):wB (w.setRow b c') j=wB w j:=by
 unfold wB World.shape?;by_cases h:j=b
 ·subst h;rw[setRow_heap w _ _ _ _ _ hb,hb];simp[hs]
 ·rw[setRow_other w b j c' h]
section ops
variable {P:Program} {TT:List TI} {st:St} (hP:uI P TT)
include hP in
def MC {T:Nat} {p x:Operand} {k off:Nat} {cs:List AV} {v:AV} {ti:TI} (hp:yJ (zG st.tm) p= .ptr k 0 off) (hx:yJ (zG st.tm) x=v) (hk:zC st.h k=some (.box cs)) (hT:TT[T]? =some ti)
  (h1:v.ok=true) (h2:Nat.beq v.cells.length ti.size=true) (h3:Nat.ble (off+ti.size) cs.length=true):wM P st (.store T p x) .bot [(k,.box (VJ cs off v.cells))] [k] []:=by
 refine⟨?_⟩;intro X tm h hg hr _ o a w β ho HH Ht;obtain⟨dst,op',type,pos,after,guard⟩:=o;dsimp only at ho;subst ho;have hk':=(hr k zU).trans hk;have h2:=yA2 h2;have h3:=yAq h3;have hp':=hH Ht hg (x:=p) vY hp;obtain⟨hl,hon,hv⟩:=(hH Ht hg (x:=x) vY hx).cells h1;obtain⟨b,c,el,e1,e2,e3,e4,e5⟩:=HH.ent k _ hk';obtain⟨b',hc,_,_⟩:=RR HH hk' hp'
 obtain rfl:b'=b:=by
  generalize a.eval p=cp at*
  cases hp' with
  |fz _ _ hf=>cases hf
  |dptr _ _ _ _ hd _=>rw[hk']at hd;cases hd
  |parr _ _ _ _ _ _ _ _ hd _ _ _=>rw[hk']at hd;cases hd
  |pbox _ _ cs' b'' n hk'' hb=>
   rw[e1]at hb;simp at hb;simp at hc;rw[<-hc,hb.1]
 obtain⟨c',hrun,hsz,hat⟩:=zL0 hP hT e2 (off:=off) (x:=a.eval x) (by omega) (by omega) hon
 have hr:(execOp a.eval ⟨dst,.store T p x,type,pos,after,guard⟩).run P w= .ok .skip (w.setRow b' c'):=by
  simp[execOp,Instr.storeAt,hc,Instr.sureAddr,hrun]
 rw[hr]
 refine⟨dI β k (β k),yX.step HH k _ _ zU (λj hj hn=>setRow_other w b' j c' (λe=>hn 0 (by rw[e1,e];simp))) Z Z Z (λb n hm=> .inl ⟨n,hm⟩) (λb n _=>kG e2 hsz b)
  (λe he=>by rw[hk']at he;cases he;exact .inr ⟨⟨_,rfl⟩,λ_ _ hm=>hm⟩) λE=>⟨b',c',el,by rw[zZ];exact e1,setRow_heap w _ _ _ _ _ e2,by rw[dB];omega,λi hi=>?_,λi u hu=>?_⟩,.fz _ _ (.bot _)⟩
 ·rw[hat];split
  ·exact hon _ (by omega)
  ·exact e4 i (by omega)
 ·rw[ZA _ _ _ _ (by omega)]at hu;rw[hat];rw[h2]at hu;split
  ·rename_i hi;rw[zZ8 hi]at hu;exact(hv _ u hu).evo E
  ·rename_i hi;rw[zZ7 hi]at hu;exact(e5 i u hu).evo E
def IX (x:AV) (off:Nat) (cs:List AV):AV:=match x with
 | .agg ds=> .agg (VJ ds off cs)
 |_=>match cs with
  | [v]=>v
  |_=> .bot
def zA0 {x:AV} {off:Nat} {cs:List AV} (h:off+cs.length<=x.cells.length) (h0:1<=cs.length) (hg:cs.all (λv=>!v.isAgg)=true):(IX x off cs).cells=VJ x.cells off cs:=by
  cases x<;>first
    |rfl
    | (simp only[AV.cells,yAl,yBr]at h
       match cs,h0,h,hg with
       | [v],_,h,hg=>
         simp at hg h;subst h
         cases v<;>first|rfl|(simp[AV.isAgg]at hg))
include hP in
theorem ZY {T:Nat} {p x:Operand} {k i off sz:Nat} {xs:List AV} {y v:AV} {ti:TI} {nest:Bool} (hp:yJ (zG st.tm) p= .ptr k i off) (hx:yJ (zG st.tm) x=v) (hk:zC st.h k=some (.arr sz xs ⟨false,nest⟩)) (hy:xs[i]? =some y) (hT:TT[T]? =some ti)
  (h1:v.ok=true) (h2:Nat.beq v.cells.length ti.size=true) (h3:Nat.ble (off+ti.size) y.cells.length=true) (h4:(nest||v.nokey)=true) (h5:Nat.ble 1 ti.size=true) (h6:v.cells.all (λv=>!v.isAgg)=true):
  wM P st (.store T p x) .bot [(k,.arr sz (xs.set i (IX y off v.cells)) ⟨false,nest⟩)] [k] []:=by
 refine⟨?_⟩;intro X tm h hg hr _ o a w β ho HH Ht;obtain⟨dst,op',type,pos,after,guard⟩:=o;dsimp only at ho;subst ho;have hk':=(hr k zU).trans hk;have h2:=yA2 h2;have h3:=yAq h3;have h5:=yAq h5;have hp':=hH Ht hg (x:=p) vY hp;have hxv:=hH Ht hg (x:=x) vY hx;obtain⟨hl,hon,hv⟩:=hxv.cells h1
 have hvF:nest=false->∀(j:Nat) u,v.cells[j]? =some u->xH w (xK X β) u ((a.eval x).cells.getD j undef):=λhn j u hu=>(hv j u hu).toF (by
  rw[hn,yDm]at h4
  cases v<;>first
   |(simp[AV.cells]at hu;cases j<;>simp at hu;subst hu;exact h4)
   |(exact kE (by simpa [AV.nokey,AV.cells]using h4) hu))
 obtain⟨b,n,hc,hm,hof,hyl,_,hni⟩:=zLz HH hk' hy hp';obtain⟨g1,g2,g3,g4,g5,f,g6,g7,g8⟩:=HH.ent k _ hk';have hi:i<xs.length:=(yAu.1 hy).1
 obtain⟨rr,hbk,hnx,hr0⟩:∃rr,β k=(b,n)::rr/\n=xs.length/\∀b' n',(b',n')∈rr->n'=0:=by
  cases hbk:β k with
  |nil=>rw[hbk]at hm;simp at hm
  |cons q r=>
   obtain⟨b0,n0⟩:=q;obtain⟨e1,e2,_⟩:=g5 b0 n0 r hbk;have e2:=e2 Z;rw[hbk]at hm;simp at hm
   rcases hm with⟨rfl,rfl⟩|hm
   ·exact⟨r,rfl,e1,e2⟩
   ·have:=e2 b n hm;omega
 subst hnx;obtain⟨c,el,e2,e3,e4,e5⟩:=g8 b _ hm
 have hmul:i*sz+sz<=xs.length*sz:=by
  have:=yA0 sz (show i+1<=xs.length by omega)
  rwa [yBk,yCa]at this
 obtain⟨c',hrun,hsz,hat⟩:=zL0 hP hT e2 (off:=i*sz+off) (x:=a.eval x) (by omega) (by omega) hon
 have hr:(execOp a.eval ⟨dst,.store T p x,type,pos,after,guard⟩).run P w= .ok .skip (w.setRow b c'):=by
  simp[execOp,Instr.storeAt,hc,Instr.sureAddr,hrun]
 rw[hr];have hpc:=zA0 (x:=y) (off:=off) (cs:=v.cells) (by omega) (by omega) h6;have hlen:(xs.set i (IX y off v.cells)).length=xs.length:=by simp
 have hget:∀(i':Nat) (x':AV),(xs.set i (IX y off v.cells))[i']? =some x'->(i'=i/\x'=IX y off v.cells)∨(i'≠i/\xs[i']? =some x'):=by
  intro i' x' hx';by_cases hii:i'=i
  ·subst hii;rw[yBq hi]at hx';exact .inl ⟨rfl,(yCs hx').symm⟩
  ·rw[yD8 (λe=>hii e.symm)]at hx';exact .inr ⟨hii,hx'⟩
 let f':Nat->Nat->Value:=λi' j=>if i'=i/\off<=j/\j<off+ti.size then(a.eval x).cells.getD (j-off) undef else f i' j
 refine⟨dI β k (β k),yX.step HH k _ _ zU (λj hj hn=>setRow_other w b j c' (λe=>hn xs.length zDo)) Z Z Z (λb n hm=> .inl ⟨n,hm⟩) (λb n _=>kG e2 hsz b)
  (λe he=>by rw[hk']at he;cases he;exact .inr ⟨⟨_,_,rfl,by simp⟩,λ_ n hm=>⟨n,yAb _,hm⟩⟩) λE=>⟨g1,by simpa using g2,λ_=>by rw[zZ,hbk];simp,λi' x' hx'=>?_,λb' n' r hb'=>?_,f',λi' x' j u hx' hu=>?_,λi' j hi' hj=>?_,λb' n' hb'=>?_⟩,.fz _ _ (.bot _)⟩
 ·rcases hget i' x' hx' with⟨_,rfl⟩|⟨_,h⟩
  ·rw[hpc,dB];exact hyl
  ·exact g4 i' x' h
 ·rw[zZ,hbk]at hb';simp at hb';obtain⟨⟨rfl,rfl⟩,rfl⟩:=hb';refine⟨by simp,λ_=>hr0,λb' n' hm=>by have:=hr0 b' n' hm;simp;omega⟩
 ·rcases hget i' x' hx' with⟨rfl,rfl⟩|⟨hii,h⟩
  ·rw[hpc,ZA _ _ _ _ (by omega)]at hu;simp only[f',true_and];rw[h2]at hu;split
   ·rename_i hj;rw[zZ8 hj]at hu;exact⟨(hv _ u hu).evo E,λhn=>(hvF hn _ u hu).evo E.size E.fz⟩
   ·rename_i hj;rw[zZ7 hj]at hu;exact⟨(g6 i' y j u hy hu).1.evo E,λhn=>((g6 i' y j u hy hu).2 hn).evo E.size E.fz⟩
  ·simp only[f',hii,yGj,yFi];exact⟨(g6 i' x' j u h hu).1.evo E,λhn=>((g6 i' x' j u h hu).2 hn).evo E.size E.fz⟩
 ·simp only[f'];split
  ·exact hon _ (by omega)
  ·exact g7 i' j (by simpa using hi') hj
 ·have hone2:∀q,q<c'.size->(c'.getD q undef).oneCell'=true:=λq hq=>by
   rw[hat];split
   ·exact hon _ (by omega)
   ·exact e5 q (by omega)
  rw[zZ,hbk]at hb';simp at hb'
  rcases hb' with⟨rfl,rfl⟩|hb'
  case inr=>
   obtain rfl:=hr0 b' n' hb';by_cases hbb:b'=b
   ·subst hbb;exact⟨c',el,setRow_heap w _ _ _ _ _ e2,by omega,λi' j hi' _=>by omega,hone2⟩
   ·obtain⟨c2,el2,q1,q2,_,q4⟩:=g8 b' 0 (by rw[hbk];simp[hb']);exact⟨c2,el2,(setRow_other w b b' c' hbb).trans q1,q2,λi' j hi' _=>by omega,q4⟩
  refine⟨c',el,setRow_heap w _ _ _ _ _ e2,by omega,λi' j hi' hj=>?_,hone2⟩
  have hlt:i'*sz+j<c'.size:=by
   have:=yA0 sz (show i'+1<=xs.length by omega);rw[yBk,yCa]at this;omega
  rw[kF c' _ hlt,hat]
  congr 1
  have hiff:(i*sz+off<=i'*sz+j/\i'*sz+j<i*sz+off+ti.size)↔(i'=i/\off<=j/\j<off+ti.size):=by
   constructor
   ·rintro⟨q1,q2⟩
    have hii:i'=i:=by
     rcases Nat.lt_trichotomy i' i with h|h|h
     ·have:=yA0 sz (show i'+1<=i by omega);rw[yBk,yCa]at this;omega
     ·exact h
     ·have:=yA0 sz (show i+1<=i' by omega);rw[yBk,yCa]at this;omega
    subst hii;exact⟨rfl,by omega,by omega⟩
   ·rintro⟨rfl,q1,q2⟩;omega
  simp only[f',hiff];split
  ·rename_i hq;obtain⟨rfl,q1,q2⟩:=hq
   congr 1
   omega
  ·exact gI (e4 i' j hi' hj)
end ops
end
section
section ops
variable {P:Program} {TT:List TI} {st:St} (hP:uI P TT)
def CB {P:Program} {TT:List TI} (hP:uI P TT) {T f o ft:Nat} {ti:TI} {fs:List (Nat×Nat)} (hT:TT[T]? =some ti) (hd:ti.d= .str fs) (hf:fs[f]? =some (o,ft)) (w:World):
  ∃(fields:Array Field) (fd:Field),(underlying T).run P w= .ok (.struct fields) w/\fields[f]? =some fd/\fd.offset=o/\fd.type=ft:=by
 obtain⟨u,hu,hd'⟩:=xW (hP _ _ hT) w;obtain⟨fields,rfl,hm⟩:=HA (hd'.trans hd);rw[<-hm]at hf;simp only[yAa,yAo,yB1]at hf;obtain⟨fd,h1,h2,h3⟩:=hf;exact⟨fields,fd,hu,by simpa using h1,h2,h3⟩
def aJ {P:Program} {TT:List TI} (hP:uI P TT) {T f o ft:Nat} {ti tf:TI} {fs:List (Nat×Nat)} (hT:TT[T]? =some ti) (hd:ti.d= .str fs) (hf:fs[f]? =some (o,ft)) (hft:TT[ft]? =some tf) (hz:Nat.ble 1 tf.size=true) (w:World) (b q:Nat):
  (Instr.fieldAt T (.pointer (some ⟨b,q,none⟩)) f).run P w= .ok (.pointer (some ⟨b,q+o,none⟩)) w:=by
 obtain⟨fields,fd,h1,h2,h3,h4⟩:=CB hP hT hd hf w;have hs:=uQ (hP _ _ hft) w;have hz:=yAq hz;have hz':¬tf.size=0:=by omega
 have hadd:(⟨b,q,none⟩:Addr).add o=⟨b,q+o,none⟩:=by unfold Addr.add;split<;>simp_all
 simp[Instr.fieldAt,h1,h2,Instr.sureAddr,fieldPlace,h3,h4,hs,hz',hadd]
def aK (b q n:Nat):(⟨b,q,none⟩:Addr).add n=⟨b,q+n,none⟩:=by unfold Addr.add;split<;>simp_all
include hP in
def VK {T f k off o ft:Nat} {x:Operand} {ti tf:TI} {fs:List (Nat×Nat)} {cs:List AV} (hx:yJ (zG st.tm) x= .ptr k 0 off) (hk:zC st.h k=some (.box cs)) (hT:TT[T]? =some ti) (hd:ti.d= .str fs) (hf:fs[f]? =some (o,ft))
  (hft:TT[ft]? =some tf) (hz:Nat.ble 1 tf.size=true):wM P st (.fieldAddr T x f) (.ptr k 0 (off+o)) [] [k] []:=
 yK λoo X tm h w β a ho hg hr HH Ht=>by
  obtain⟨dst,op',type,pos,after,guard⟩:=oo;dsimp only at ho;subst ho;have h1:=hH Ht hg (x:=x) vY hx;have hk':=(hr k zU).trans hk;have hfa:=λb=>aJ hP hT hd hf hft hz w b off
  generalize he:a.eval x=cx at h1
  cases h1 with
  |fz _ _ hf=>cases hf
  |dptr _ _ _ _ hd _=>rw[hk']at hd;cases hd
  |parr _ _ _ _ _ _ _ _ hd _ _ _=>rw[hk']at hd;cases hd
  |pbox _ _ cs' b n hk'' hb=>exact⟨_,by simp[execOp,he,hfa],.pbox k _ cs' b n hk'' hb⟩
include hP in
def VL {T f k i off o ft sz:Nat} {x:Operand} {ti tf:TI} {fs:List (Nat×Nat)} {xs:List AV} {sl:Fl} (hx:yJ (zG st.tm) x= .ptr k i off) (hk:zC st.h k=some (.arr sz xs sl)) (hT:TT[T]? =some ti) (hd:ti.d= .str fs) (hf:fs[f]? =some (o,ft))
  (hft:TT[ft]? =some tf) (hz:Nat.ble 1 tf.size=true) (hle:Nat.blt (off+o) sz=true):wM P st (.fieldAddr T x f) (.ptr k i (off+o)) [] [k] []:=
 yK λoo X tm h w β a ho hg hr HH Ht=>by
  obtain⟨dst,op',type,pos,after,guard⟩:=oo;dsimp only at ho;subst ho;have h1:=hH Ht hg (x:=x) vY hx;have hk':=(hr k zU).trans hk;have hfa:=λb q=>aJ hP hT hd hf hft hz w b q
  have hle:off+o<sz:=yAq hle;generalize he:a.eval x=cx at h1
  cases h1 with
  |fz _ _ hf=>cases hf
  |dptr _ _ _ _ hd _=>rw[hk']at hd;cases hd
  |pbox _ _ _ _ _ hd _=>rw[hk']at hd;cases hd
  |parr _ _ _ sz' xs' st' b n hk'' hb hi ho=>
   have h2:=hk'';rw[hk']at h2;cases h2;exact⟨_,by simp[execOp,he,hfa];rfl,by rw[yFg];exact .parr k i (off+o) sz xs sl b n hk'' hb hi hle⟩
include hP in
def UU {T f i off o ft:Nat} {x:Operand} {ti tf:TI} {fs:List (Nat×Nat)} {xs:List AV} {y:AV} (hx:yJ (zG st.tm) x= .fp xs i off) (hy:xs[i]? =some y) (hT:TT[T]? =some ti) (hd:ti.d= .str fs) (hf:fs[f]? =some (o,ft))
  (hft:TT[ft]? =some tf) (hz:Nat.ble 1 tf.size=true) (hle:Nat.blt (off+o) y.cells.length=true):wM P st (.fieldAddr T x f) (.fp xs i (off+o)) [] [] []:=
 yK λoo X tm h w β a ho hg hr HH Ht=>by
  obtain⟨dst,op',type,pos,after,guard⟩:=oo;dsimp only at ho;subst ho;have h1:=hH Ht hg (x:=x) vY hx;have hfa:=λb q=>aJ hP hT hd hf hft hz w b q
  have hle:off+o<y.cells.length:=yAq hle;generalize he:a.eval x=cx at h1
  cases h1 with
  | fz _ _ hf=>
   cases hf with
   |fp _ b q sz _ _ f hL hi ho hh=>
    have hsz:=hL.wide i y hy;exact⟨_,by simp[execOp,he,hfa];rfl,.fz _ _ (by rw[yFg];exact .fp xs b q sz i (off+o) f hL hi (by omega) hh)⟩
include hP in
def TW {T e:Nat} {ti te:TI} (hT:TT[T]? =some ti) (hd:ti.d= .slice e) (he:TT[e]? =some te) (w:World) (b q len cap:Nat) (k:IntKind) (i:Int) (h0:0<=i) (hi:i<len):
  (Instr.indexAt T (.slice (some ⟨b,q,none⟩) len cap) (.int k i)).run P w= .ok (.pointer (some ⟨b,q+i.toNat*te.size,none⟩)) w:=by
 obtain⟨u,hu,hd'⟩:=xW (hP _ _ hT) w;obtain rfl:=vN (hd'.trans hd);have hs:=uQ (hP _ _ he) w;simp[Instr.indexAt,asIntOf,hu,h0,hi,hs,aK]
include hP in
def UV {T e:Nat} {x ix:Operand} {ti te:TI} {nn:Bool} {xs:List AV} {y:AV} {k:IntKind} {i:Int} (hx:yJ (zG st.tm) x= .sl nn xs) (hi:yJ (zG st.tm) ix= .s (.int k i)) (hT:TT[T]? =some ti) (hd:ti.d= .slice e) (he:TT[e]? =some te)
  (h0:0<=i) (hy:xs[i.toNat]? =some y) (hs:Nat.beq y.cells.length te.size=true) (hz:Nat.ble 1 te.size=true):wM P st (.indexAddr T x ix) (.fp xs i.toNat 0) [] [] []:=
 yK λoo X tm h w β a ho hg hr HH Ht=>by
  obtain⟨dst,op',type,pos,after,guard⟩:=oo;dsimp only at ho;subst ho;have h1:=hH Ht hg (x:=x) vY hx;have h2:=vF Ht hg (x:=ix) vY hi;have hs:=yA2 hs;have hz:=yAq hz;have hlt:i.toNat<xs.length:=(yAu.1 hy).1;generalize he':a.eval x=cx at h1
  cases h1 with
  | fz _ _ hf=>
   cases hf with
   |nil a cap=>simp at hlt
   |nil1 a cap=>simp at hlt
   |sl _ _ b o sz cap f hne hL hc hh=>
    have hsz:=hL.wide _ y hy;refine⟨_,by simp only[execOp,he',h2,Sem.run_bind,TW hP hT hd he w b o xs.length cap k i h0 (by omega),Result.andThen_ok,Sem.run_pure];rfl,.fz _ _ ?_⟩;have:=xH.fp xs b o sz i.toNat 0 f hL hlt (by omega) hh
    rwa [yDd,<-hsz,hs]at this
include hP in
def VM {T e:Nat} {x ix:Operand} {ti te:TI} {key off len sz:Nat} {xs:List AV} {sl:Fl} {k:IntKind} {i:Int} (hx:yJ (zG st.tm) x= .ref key off len) (hi:yJ (zG st.tm) ix= .s (.int k i)) (hk:zC st.h key=some (.arr sz xs sl)) (hT:TT[T]? =some ti) (hd:ti.d= .slice e) (he:TT[e]? =some te)
  (h0:0<=i) (hl:i<len) (hs:Nat.beq sz te.size=true):wM P st (.indexAddr T x ix) (.ptr key (off+i.toNat) 0) [] [key] []:=
 yK λoo X tm h w β a ho hg hr HH Ht=>by
  obtain⟨dst,op',type,pos,after,guard⟩:=oo;dsimp only at ho;subst ho;have h1:=hH Ht hg (x:=x) vY hx;have h2:=vF Ht hg (x:=ix) vY hi;have hk':=(hr key zU).trans hk;have hs:=yA2 hs;have hp:=(HH.ent key _ hk').1;generalize he':a.eval x=cx at h1
  cases h1 with
  |fz _ _ hf=>cases hf
  |dref _ _ _ _ hd _=>rw[hk']at hd;cases hd
  |ref0 _ _ _ _ _ _ _ _=>simp at hl;omega
  |ref _ _ _ sz' xs' st' b n cap hk'' hb hn hc hsz=>
   have h3:=hk'';rw[hk']at h3;cases h3;refine⟨_,by simp only[execOp,he',h2,Sem.run_bind,TW hP hT hd he w b _ len cap k i h0 hl,Result.andThen_ok,Sem.run_pure];rfl,?_⟩;have:=zQ.parr (w:=w) (D:=xK X β) key (off+i.toNat) 0 sz xs sl b n hk'' hb (by omega) (by omega);rw[yBk,yDd]at this;rw[<-hs];exact this
include hP in
def VN {T e n:Nat} {x ix:Operand} {ti te:TI} {key off:Nat} {cs:List AV} {k:IntKind} {i:Int} (hx:yJ (zG st.tm) x= .ptr key 0 off) (hi:yJ (zG st.tm) ix= .s (.int k i)) (hk:zC st.h key=some (.box cs)) (hT:TT[T]? =some ti) (hd:ti.d= .arr n e) (he:TT[e]? =some te)
  (h0:0<=i) (hl:i<n):wM P st (.indexAddr T x ix) (.ptr key 0 (off+i.toNat*te.size)) [] [key] []:=
 yK λoo X tm h w β a ho hg hr HH Ht=>by
  obtain⟨dst,op',type,pos,after,guard⟩:=oo;dsimp only at ho;subst ho;have h1:=hH Ht hg (x:=x) vY hx;have h2:=vF Ht hg (x:=ix) vY hi;have hk':=(hr key zU).trans hk;obtain⟨u,hu,hd'⟩:=xW (hP _ _ hT) w;obtain rfl:=zL7 (hd'.trans hd);have hs:=uQ (hP _ _ he) w;generalize he':a.eval x=cx at h1
  cases h1 with
  |fz _ _ hf=>cases hf
  |dptr _ _ _ _ hd _=>rw[hk']at hd;cases hd
  |parr _ _ _ _ _ _ _ _ hd _ _ _=>rw[hk']at hd;cases hd
  |pbox _ _ cs' b q hk'' hb=>
   exact⟨.pointer (some ⟨b,off+i.toNat*te.size,none⟩),by simp[execOp,Instr.indexAt,asIntOf,hu,Instr.sureAddr,h0,hl,hs,aK,he',h2],.pbox key _ cs' b q hk'' hb⟩
def zL1 {P:Program} {TT:List TI} (hP:uI P TT) {T:Nat} {ti:TI} (hT:TT[T]? =some ti) {w:World} {D:Nat->Prop} {h:yC} {β:vP} {cs:List AV} {c:Value} (hv:zQ w D h β (.agg cs) c) {off:Nat} {v:AV} (hl:ldv ti.d.agg ti.size cs off=some v):
  ∃(ca:Array Value) (u:Value),c= .agg ca/\(part T ca off).run P w= .ok u w/\zQ w D h β v u:=by
 obtain⟨h1,h2,h3⟩:=hv.cells Z;have ha:=IZ (hP _ _ hT) w;have hs:=uQ (hP _ _ hT) w
 obtain⟨ca,rfl⟩:∃ca,c= .agg ca:=by
  cases hv with
  |fz _ _ hf=>cases hf with|agg _ c=>exact⟨c,rfl⟩
  |agg _ c=>exact⟨c,rfl⟩
 simp only[Value.cells,AV.cells]at h1 h2 h3;unfold ldv at hl
 cases hb:ti.d.agg with
 |false=>
  simp only[hb,yB5]at hl;have hlt:off<ca.size:=by rw[h1];exact(yAu.1 hl).1
  exact⟨ca,ca.getD off undef,rfl,by simp only[part,Sem.run_bind,ha,hb,Result.andThen_ok,kF ca off hlt,yE6,yFi,Sem.run_pure],h3 _ _ hl⟩
 | true=>
  simp only[hb,yBn]at hl
  cases hle:Nat.ble (off+ti.size) cs.length with
  |false=>simp[hle]at hl
  | true=>
   have hle':=yAq hle;simp only[hle,yBn,yBj]at hl;subst hl
   have hat:∀i,i<ti.size->(ca.extract off (off+ti.size)).getD i undef=ca.getD (off+i) undef:=λi hi=>by
    apply gI;rw[Array.getElem?_extract];rw[zZ8 (by omega)];exact kF ca _ (by omega)
   refine⟨ca,.agg (ca.extract off (off+ti.size)),rfl,by simp only[part,Sem.run_bind,ha,hb,Result.andThen_ok,yE2,hs,Sem.run_pure],.agg _ _ vA (λi hi=>?_) λi u hu=>?_⟩
   ·have hi':i<ti.size:=by simp at hi;omega
    rw[hat i hi'];exact h2 _ (by omega)
   ·rw[yBz]at hu;split at hu
    ·rename_i hi;rw[hat i hi];rw[yCf]at hu;exact h3 _ _ hu
    ·cases hu
def zFa (hP:uI P TT) {T f o ft:Nat} {x:Operand} {ti tf:TI} {fs:List (Nat×Nat)} {cs:List AV} {v:AV} (hx:yJ (zG st.tm) x= .agg cs) (hT:TT[T]? =some ti) (hd:ti.d= .str fs) (hf:fs[f]? =some (o,ft))
  (hft:TT[ft]? =some tf) (hv:ldv tf.d.agg tf.size cs o=some v):wM P st (.field T x f) v [] [] []:=
 yK λoo X tm h w β a ho hg hr HH Ht=>by
  obtain⟨dst,op',type,pos,after,guard⟩:=oo;dsimp only at ho;subst ho;have h1:=hH Ht hg (x:=x) vY hx;obtain⟨fields,fd,e1,e2,e3,e4⟩:=CB hP hT hd hf w;obtain⟨ca,u,hc,hr,hu⟩:=zL1 hP hft h1 hv;exact⟨u,by simp[execOp,hc,Instr.field,e1,e2,asAgg,e3,e4,hr],hu⟩
def UW {x:Operand} {k off:Nat} {cs:List AV} (hx:yJ (zG st.tm) x= .ptr k 0 off) (hk:zC st.h k=some (.box cs)):wM P st (.nilCheck x) (.ptr k 0 off) [] [k] []:=
 yK λoo X tm h w β a ho hg hr HH Ht=>by
  obtain⟨dst,op',type,pos,after,guard⟩:=oo;dsimp only at ho;subst ho;have h1:=hH Ht hg (x:=x) vY hx;have hk':=(hr k zU).trans hk;obtain⟨b,hc,_,_⟩:=RR HH hk' h1;rw[hc]at h1;exact⟨_,by simp[execOp,hc],h1⟩
def jZ {x:Operand} {k i off sz:Nat} {xs:List AV} {sl:Fl} {y:AV} (hx:yJ (zG st.tm) x= .ptr k i off) (hk:zC st.h k=some (.arr sz xs sl)) (hy:xs[i]? =some y):wM P st (.nilCheck x) (.ptr k i off) [] [k] []:=
 yK λoo X tm h w β a ho hg hr HH Ht=>by
  obtain⟨dst,op',type,pos,after,guard⟩:=oo;dsimp only at ho;subst ho;have h1:=hH Ht hg (x:=x) vY hx;have hk':=(hr k zU).trans hk;obtain⟨b,n,hc,_,_,_,_⟩:=zDk HH hk' hy h1;rw[hc]at h1;exact⟨_,by simp[execOp,hc],h1⟩
def zA1 (hP:uI P TT) {T e:Nat} {x:Operand} {ti:TI} {nn:Bool} {xs:List AV} (hx:yJ (zG st.tm) x= .sl nn xs) (hT:TT[T]? =some ti) (hd:ti.d= .slice e):
  wM P st (.call ⟨.builtin .len, #[x], #[T]⟩) (.s (.int .i64 xs.length)) [] [] []:=
 yK λoo X tm h w β a ho hg hr HH Ht=>by
  obtain⟨dst,op',type,pos,after,guard⟩:=oo;dsimp only at ho;subst ho;have h1:=hH Ht hg (x:=x) kH hx;obtain⟨u,hu,hd'⟩:=xW (hP _ _ hT) w;obtain rfl:=vN (hd'.trans hd)
  obtain⟨b,cap,hc⟩:∃b cap,a.eval x= .slice b xs.length cap:=by
   generalize a.eval x=cx at h1
   cases h1 with
   |fz _ _ hf=>cases hf<;>exact⟨_,_,rfl⟩
  exact⟨_,by simp[execOp,resolve,invoke,builtin,Builtin.len_,hc,hu,goInt],.fz _ _ (.s _)⟩
def CD (hP:uI P TT) {T e:Nat} {x:Operand} {ti:TI} {k off len sz:Nat} {xs:List AV} {sl:Fl} (hx:yJ (zG st.tm) x= .ref k off len) (hk:zC st.h k=some (.arr sz xs sl)) (hT:TT[T]? =some ti) (hd:ti.d= .slice e):
  wM P st (.call ⟨.builtin .len, #[x], #[T]⟩) (.s (.int .i64 len)) [] [k] []:=
 yK λoo X tm h w β a ho hg hr HH Ht=>by
  obtain⟨dst,op',type,pos,after,guard⟩:=oo;dsimp only at ho;subst ho;have h1:=hH Ht hg (x:=x) kH hx;have hk':=(hr k zU).trans hk;obtain⟨u,hu,hd'⟩:=xW (hP _ _ hT) w;obtain rfl:=vN (hd'.trans hd)
  obtain⟨b,cap,hc⟩:∃b cap,a.eval x= .slice b len cap:=by
   generalize a.eval x=cx at h1
   cases h1 with
   |fz _ _ hf=>cases hf
   |dref _ _ _ _ hd _=>rw[hk']at hd;cases hd
   |ref0 _ _ _ _ _ _ _ _=>exact⟨_,_,rfl⟩
   |ref _ _ _ _ _ _ _ _ _ _ _ _ _ _=>exact⟨_,_,rfl⟩
  exact⟨_,by simp[execOp,resolve,invoke,builtin,Builtin.len_,hc,hu,goInt],.fz _ _ (.s _)⟩
def CE (hP:uI P TT) {T e:Nat} {x:Operand} {ti:TI} {b:Option Addr} {n cap:Nat} (hx:yJ (zG st.tm) x= .s (.slice b n cap)) (hT:TT[T]? =some ti) (hd:ti.d= .slice e):
  wM P st (.call ⟨.builtin .len, #[x], #[T]⟩) (.s (.int .i64 n)) [] [] []:=
 yK λoo X tm h w β a ho hg hr HH Ht=>by
  obtain⟨dst,op',type,pos,after,guard⟩:=oo;dsimp only at ho;subst ho;have hc:=vF Ht hg (x:=x) kH hx;obtain⟨u,hu,hd'⟩:=xW (hP _ _ hT) w;obtain rfl:=vN (hd'.trans hd);exact⟨_,by simp[execOp,resolve,invoke,builtin,Builtin.len_,hc,hu,goInt],.fz _ _ (.s _)⟩
def Bd (st:St) (o:Option Operand) (dflt n:Nat):Prop:=match o with
 |none=>n=dflt
 |some x=>∃k i,yJ (zG st.tm) x= .s (.int k i)/\i=(n:Int)
def hG {P:Program} {st:St} {op:Op} {tm:Nat->AV} {a:Act} {w:World} {D:Nat->Prop} {h:yC} {β:vP} (H:∀t,zQ w D h β (tm t) (a.eval (.tmp t))) (hg:∀t,t∈fA op->tm t=zG st.tm t) {lo hi:Option Operand}
  (h1:∀x,lo=some x->x∈op.operands) (h2:∀x,hi=some x->x∈op.operands) {len cap l r:Nat} (hl:Bd st lo 0 l) (hr:Bd st hi len r) (hlr:l<=r) (hrc:r<=cap) (b:Bool):
  (Instr.sliceBounds b len cap (lo.map a.eval) (hi.map a.eval) none).run P w= .ok (l,r,cap) w:=by
 unfold Instr.sliceBounds
 cases lo with
 | none=>
  simp only[Bd]at hl;subst hl
  cases hi with
  |none=>simp only[Bd]at hr;subst hr;simp
  |some y=>
   obtain⟨k,i,e1,rfl⟩:=hr;have e2:=vF H hg (h2 y Z) e1;simp[Instr.sliceBound,e2,asIntOf,hrc]
 | some x=>
  obtain⟨k,i,e1,rfl⟩:=hl;have e2:=vF H hg (h1 x Z) e1
  cases hi with
  |none=>simp only[Bd]at hr;subst hr;simp[Instr.sliceBound,e2,asIntOf,hlr]
  |some y=>
   obtain⟨k',i',e3,rfl⟩:=hr;have e4:=vF H hg (h2 y Z) e3;simp[Instr.sliceBound,e2,e4,asIntOf,hlr,hrc]
theorem cP (hP:uI P TT) {T e:Nat} {x:Operand} {lo hi:Option Operand} {ti te:TI} {nn:Bool} {xs:List AV} {l r:Nat} (hx:yJ (zG st.tm) x= .sl nn xs) (hT:TT[T]? =some ti) (hd:ti.d= .slice e) (he:TT[e]? =some te)
  (hl:Bd st lo 0 l) (hr:Bd st hi xs.length r) (hlr:l<=r) (hrx:r<=xs.length) (hsz:∀y,xs[0]? =some y->y.cells.length=te.size):wM P st (.slice T x lo hi none) (.sl nn ((xs.drop l).take (r-l))) [] [] []:=
 yK λoo X tm h w β a ho hg _ HH Ht=>by
  obtain⟨dst,op',type,pos,after,guard⟩:=oo;dsimp only at ho;subst ho;have h1:=hH Ht hg (x:=x) vY hx;obtain⟨u,hu,hd'⟩:=xW (hP _ _ hT) w;obtain rfl:=vN (hd'.trans hd);have hs:=uQ (hP _ _ he) w
  obtain⟨b,cap,hc,hcap⟩:∃b cap,a.eval x= .slice b xs.length cap/\xs.length<=cap:=by
   generalize a.eval x=cx at h1
   cases h1 with
   |fz _ _ hf=>
    cases hf with
    |nil a cap=>exact⟨_,_,rfl,by simp⟩
    |nil1 a cap=>exact⟨_,_,rfl,by simp⟩
    |sl _ _ b o sz cap f hne hL hc hh=>exact⟨_,_,rfl,hc⟩
  have hb:=hG (P:=P) Ht hg (lo:=lo) (hi:=hi) (λy hy=>by subst hy;simp[Op.operands]) (λy hy=>by subst hy;simp[Op.operands]) hl hr hlr (yBm hrx hcap) true
  have hrun:(execOp a.eval ⟨dst,.slice T x lo hi none,type,pos,after,guard⟩).run P w= .ok (.value (.slice (if cap=l then b else b.map (·.add (l*te.size))) (r-l) (cap-l))) w:=by
   simp only[execOp,Instr.sliceAt,Instr.slice,Sem.run_bind,hu,Result.andThen_ok,hc,yC6,hb,hs,Sem.run_pure]
  refine⟨_,hrun,.fz _ _ ?_⟩;rw[hc]at h1;have hlen:((xs.drop l).take (r-l)).length=r-l:=by simp;omega
  by_cases hz:r-l=0
  ·have hnil:(xs.drop l).take (r-l)=[]:=yBa (by omega);rw[hnil,hz]
   cases nn with
   |false=>exact .nil _ _
   | true=>
    cases h1 with
    |fz _ _ hf=>
     cases hf with
     |nil1 a cap=>split<;>exact .nil1 _ _
     |sl _ _ b o sz cap f hne hL hc hh=>split<;>exact .nil1 _ _
  ·cases h1 with
   | fz _ _ hf=>
    cases hf with
    |nil a cap=>simp at hrx;omega
    |nil1 a cap=>simp at hrx;omega
    | sl _ _ b o sz cap f hne hL hc hh=>
     have hne':¬cap=l:=by omega
     have hsz':te.size=sz:=by
      obtain⟨y,hy⟩:∃y,xs[0]? =some y:=⟨xs[0]'(by omega),by simp⟩;rw[<-hsz y hy,hL.wide 0 y hy]
     have hat:∀(i:Nat) y,((xs.drop l).take (r-l))[i]? =some y->xs[l+i]? =some y:=λi y hy=>by
      rw[yBz]at hy;split at hy
      ·rwa [yCf]at hy
      ·cases hy
     rw[zZ7 hne',Option.map_some,aK,hsz']
     have:=xH.sl (w:=w) (D:=xK X β) nn ((xs.drop l).take (r-l)) b (o+l*sz) sz (cap-l) (λi j=>f (l+i) j) (λh0=>hz (by rw[<-hlen,h0];rfl))
      ⟨hL.lt,hL.nd,hL.pos,by rw[hlen];exact yBm (Nat.sub_le _ _) (yBm hrx hL.max),λi y hy=>hL.wide _ y (hat i y hy),λi j hi hj=>by
       rw[hlen]at hi;have:=hL.cell (l+i) j (by omega) hj
       rwa [yBk,<-yFg]at this,λi j hi hj=>hL.one _ _ (by rw[hlen]at hi;omega) hj⟩ (by omega) (λi y j v hy hv=>hh _ y j v (hat i y hy) hv)
     rwa [hlen]at this
def dG (hP:uI P TT) {T e:Nat} {x:Operand} {lo hi:Option Operand} {ti te:TI} {k off len sz:Nat} {xs:List AV} {sl:Fl} {l r:Nat} (hx:yJ (zG st.tm) x= .ref k off len) (hk:zC st.h k=some (.arr sz xs sl)) (hT:TT[T]? =some ti) (hd:ti.d= .slice e) (he:TT[e]? =some te)
  (hl:Bd st lo 0 l) (hr:Bd st hi len r) (hlr:l<=r) (hrx:r<=len) (hsz:Nat.beq sz te.size=true):wM P st (.slice T x lo hi none) (.ref k (off+l) (r-l)) [] [k] []:=
 yK λoo X tm h w β a ho hg hr' HH Ht=>by
  obtain⟨dst,op',type,pos,after,guard⟩:=oo;dsimp only at ho;subst ho;have h1:=hH Ht hg (x:=x) vY hx;have hk':=(hr' k zU).trans hk;have hsz:=yA2 hsz;obtain⟨u,hu,hd'⟩:=xW (hP _ _ hT) w;obtain rfl:=vN (hd'.trans hd);have hs:=uQ (hP _ _ he) w;have hE:=HH.ent k _ hk';generalize hcx:a.eval x=cx at h1
  have main:∀b cap,cx= .slice b len cap->len<=cap->(execOp a.eval ⟨dst,.slice T x lo hi none,type,pos,after,guard⟩).run P w= .ok (.value (.slice (if cap=l then b else b.map (·.add (l*te.size))) (r-l) (cap-l))) w:=by
   intro b cap hc hcap;have hb:=hG (P:=P) Ht hg (lo:=lo) (hi:=hi) (λy hy=>by subst hy;simp[Op.operands]) (λy hy=>by subst hy;simp[Op.operands]) hl hr hlr (yBm hrx hcap) true;simp only[execOp,Instr.sliceAt,Instr.slice,Sem.run_bind,hu,Result.andThen_ok,hcx,hc,yC6,hb,hs,Sem.run_pure]
  cases h1 with
  |fz _ _ hf=>cases hf
  |dref _ _ _ _ hd _=>rw[hk']at hd;cases hd
  |ref0 _ _ sz' xs' st' b hk'' hn=>
   have hm:=main b 0 Z (yAb _);obtain rfl:r=0:=by omega
   obtain rfl:l=0:=by omega
   exact⟨_,hm,.ref0 k off sz' xs' st' _ hk'' hn⟩
  | ref _ _ _ sz' xs' st' b n cap hk'' hb hn hc hs'=>
   have hm:=main _ cap Z hc;have h3:=hk'';rw[hk']at h3;cases h3;refine⟨_,hm,?_⟩;obtain⟨_,_,_,_,g5,_⟩:=hE
   have hnx:n<=xs.length:=by
    cases hbk:β k with
    |nil=>rw[hbk]at hb;simp at hb
    |cons q rr=>
     obtain⟨b0,n0⟩:=q;obtain⟨e1,_,e3⟩:=g5 b0 n0 rr hbk;rw[hbk]at hb;simp at hb
     rcases hb with⟨_,rfl⟩|hb
     ·omega
     ·exact yFb (e3 b n hb)
   by_cases hcl:cap=l
   ·obtain rfl:r=l:=by omega
    rw[zZ8 hcl,show r-r=0 by omega,show cap-r=0 by omega];exact .ref0 k _ sz xs sl _ hk'' (by omega)
   ·rw[zZ7 hcl,Option.map_some,aK,<-hsz,<-yBk];exact .ref k (off+l) (r-l) sz xs sl b n (cap-l) hk'' hb (by omega) (by omega) (by rw[show off+l+(cap-l)=off+cap by omega];exact hs')
end ops
end
end Av
end Go.Proofs.YteajjdidebfcjaaGreat
