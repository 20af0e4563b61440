/- Part 3. -/
import Derived.Test.YteajjdidebfcjaaGreatR02
import Derived.Laws.Append
namespace Go.Proofs.YteajjdidebfcjaaGreat
namespace Av
set_option linter.all false
def VI (ne:Bool) (h:yC):AV->Option (List AV)
 | .sl _ ys=>some ys
 | .s v=>match v with
  | .slice none 0 0=>some []
  |_=>none
 | .ref k off len=>match h k with
  |some (.arr _ xs fl)=>bif fl.nest&& !ne then none else some ((xs.drop off).take len)
  |_=>none
 |_=>none
abbrev els (h:yC):AV->Option (List AV):=VI false h
def PY:AV->List Nat
 | .ref k _ _=>[k]
 |_=>[]
structure Src (w:World) (D:Nat->Prop) (h:yC) (β:vP) (ne:Bool) (ys:List AV) (sz:Nat) (b o:Nat) (f:Nat->Nat->Value):Prop where
 wide:∀(i:Nat) (y:AV),ys[i]? =some y->y.cells.length=sz
 cell:∀i j,i<ys.length->j<sz->w.cell? ⟨b,o+i*sz+j,none⟩=some (f i j)
 one:∀i j,i<ys.length->j<sz->(f i j).oneCell'=true
 rep:jN w D h β ne ys f
theorem aZ {w:World} {X:Nat->Prop} {h:yC} {β:vP} (H:qV X h β w) {x:AV} {c:Value} (hv:zQ w (xK X β) h β x c) {ne:Bool} {ys:List AV} (he:VI ne h x=some ys) {sz:Nat} (hsz:∀y,ys[0]? =some y->y.cells.length=sz):
  ∃a cap,c= .slice a ys.length cap/\ys.length<=cap/\ys.length<=cQ/\(ys≠[]->∃b o f,a=some ⟨b,o,none⟩/\Src w (xK X β) h β ne ys sz b o f):=by
 cases hv with
 | fz _ _ hf=>
  cases hf with
  |s v=>
   simp only[VI]at he;split at he
   ·cases he;exact⟨none,0,rfl,by simp,by simp,λh=>absurd Z h⟩
   ·cases he
  |nil a cap=>cases he;exact⟨a,cap,rfl,by simp,by simp,λh=>absurd Z h⟩
  |nil1 a cap=>cases he;exact⟨some a,cap,rfl,by simp,by simp,λh=>absurd Z h⟩
  | sl nn xs b o sz' cap f hne hL hc hh=>
   cases he
   have hs:sz'=sz:=by
    obtain⟨y,hy⟩:∃y,ys[0]? =some y:=by cases ys with|nil=>exact absurd Z hne|cons y _=>exact⟨y,rfl⟩
    rw[<-hsz y hy,hL.wide 0 y hy]
   subst hs;exact⟨_,cap,rfl,hc,hL.max,λ_=>⟨b,o,f,rfl,hL.wide,hL.cell,hL.one,.ofF hh⟩⟩
  |_=>cases he
 | ref k off len sz' xs st b n cap hk hb hn hc hs=>
  simp only[VI,hk]at he
  obtain⟨hne0,he⟩:(ne=false->st.nest=false)/\some ((xs.drop off).take len)=some ys:=by
   cases hn1:st.nest<;>cases ne<;>simp_all
  obtain rfl:=yCs he;obtain⟨g1,g2,g3,g4,g5,f,g6,g7,g8⟩:=H.ent k _ hk
  have hnx:n<=xs.length:=by
   cases hbk:β k with
   |nil=>rw[hbk]at hb;simp at hb
   |cons q rr=>
    obtain⟨b0,n0⟩:=q;obtain⟨e1,_,e3⟩:=g5 b0 n0 rr hbk;rw[hbk]at hb;simp at hb
    rcases hb with⟨_,rfl⟩|hb
    ·omega
    ·exact yFb (e3 b n hb)
  have hl:((xs.drop off).take len).length=len:=by simp;omega
  have hat:∀(i:Nat) y,((xs.drop off).take len)[i]? =some y->xs[off+i]? =some y:=λi y hy=>by
   rw[yBz]at hy;split at hy
   ·rwa [yCf]at hy
   ·cases hy
  refine⟨_,cap,by rw[hl],by rw[hl];exact hc,by omega,λhne=>?_⟩
  have hs':sz'=sz:=by
   obtain⟨y,hy⟩:∃y,((xs.drop off).take len)[0]? =some y:=by
    cases h0:(xs.drop off).take len with|nil=>exact absurd h0 hne|cons y _=>exact⟨y,rfl⟩
   rw[<-hsz y hy,g4 _ y (hat 0 y hy)]
  subst hs';obtain⟨c,el,e1,e2,e3,_⟩:=g8 b n hb;refine⟨b,off*sz',λi j=>f (off+i) j,rfl,λi y hy=>g4 _ y (hat i y hy),λi j hi hj=>?_,λi j hi hj=>g7 _ _ zDn hj,λi y j v hy hv=>⟨g6.toV _ y j v (hat i y hy) hv,λhn=>g6.toF (hne0 hn) _ y j v (hat i y hy) hv⟩⟩;rw[hl]at hi;rw[uP e1,show off*sz'+i*sz'+j=(off+i)*sz'+j by rw[yBk]];exact e3 _ _ (by omega) hj
 | ref0 k off sz' xs st a hk hn=>
  simp only[VI,hk,yC8]at he
  obtain rfl: []=ys:=by
   cases hn1:st.nest<;>cases ne<;>simp_all
  exact⟨a,0,rfl,by simp,by simp,λh=>absurd Z h⟩
 |dref _ _ _ _ hk _=>simp[VI,hk]at he
 |_=>simp[VI]at he
def flat (f:Nat->Nat->Value) (n sz:Nat):List Value:=(List.range (n*sz)).map λq=>f (q/sz) (q % sz)
def zW (f:Nat->Nat->Value) (n sz:Nat):(flat f n sz).length=n*sz:=by simp[flat]
def IU (f:Nat->Nat->Value) {n sz q:Nat} (h:q<n*sz):(flat f n sz)[q]? =some (f (q/sz) (q % sz)):=by simp[flat,h]
def kT (f:Nat->Nat->Value) {n sz i j:Nat} (hi:i<n) (hj:j<sz):(flat f n sz)[i*sz+j]? =some (f i j):=by
 have h1:i*sz+j<n*sz:=by
  have:=yA0 sz (show i+1<=n by omega);rw[yBk,yCa]at this;omega
 rw[IU f h1];have h2:(i*sz+j)/sz=i:=Nat.div_eq_of_lt_le (by omega) (by rw[yBk,yCa];omega);have h3:(i*sz+j) % sz=j:=by rw[yEv,yE5];exact yC0 hj
 rw[h2,h3]
theorem Src.flat {w:World} {D:Nat->Prop} {h:yC} {β:vP} {ne:Bool} {ys:List AV} {sz b o:Nat} {f:Nat->Nat->Value} (hS:Src w D h β ne ys sz b o f) (hp:1<=sz):
  (∀j u,(Av.flat f ys.length sz)[j]? =some u->w.cell? ((⟨b,o,none⟩:Addr).add j)=some u)/\∀u∈Av.flat f ys.length sz,u.oneCell'=true:=by
 have key:∀j,j<ys.length*sz->j/sz<ys.length/\j % sz<sz/\j/sz*sz+j % sz=j:=λj hj=>
  ⟨(Nat.div_lt_iff_lt_mul (by omega)).2 hj,yGf _ (by omega),by rw[yEv];exact Nat.div_add_mod j sz⟩
 refine⟨λj u hu=>?_,λu hu=>?_⟩
 ·have hj:j<ys.length*sz:=by rw[<-zW f ys.length sz];exact(yAu.1 hu).1
  rw[IU f hj]at hu;cases hu;obtain⟨h1,h2,h3⟩:=key j hj;have:=hS.cell _ _ h1 h2;rw[aK]
  rwa [yFg,h3]at this
 ·obtain⟨j,hu⟩:=yDw hu;have hj:j<ys.length*sz:=by rw[<-zW f ys.length sz];exact(yAu.1 hu).1
  rw[IU f hj]at hu;cases hu;obtain⟨h1,h2,_⟩:=key j hj;exact hS.one _ _ h1 h2
section runs
variable {P:Program} {TT:List TI} (hP:uI P TT) {T e:Nat} {ti te:TI} (hT:TT[T]? =some ti) (hd:ti.d= .slice e) (he:TT[e]? =some te) (w:World)
include hP hT hd he
def wW:∃(i:TypeInfo) (z:Value),P.underlying T=some (.slice e)/\P.info? e=some i/\i.zero=some z/\i.size=te.size/\i.bytes=te.bytes/\z.cells.toList=te.zero:=by
 obtain⟨_,u,_,_,hu,_,hd',_⟩:=wN (hP _ _ hT);obtain rfl:=vN (hd'.symm.trans hd);obtain⟨i,_,z,hi,_,hz,_,hs,hb,hzz⟩:=wN (hP _ _ he);exact⟨i,z,hu,hi,hz,hs.symm,hb.symm,hzz.symm⟩
def gZ (ty:Nat) (b b':Option Addr) (n cap cap':Nat) (hc:n<=cap):(Builtin.append_ #[T,T] ty #[.slice b n cap,.slice b' 0 cap']).run P w= .ok (.slice b n cap) w:=by
 obtain⟨i,z,hu,hi,hz,_⟩:=wW hP hT hd he
 have h1:(Builtin.firstCells i.size 0 (.slice b' 0 cap')).run P w= .ok #[] w:=by
  cases b' with
  |none=>rfl
  |some a=>simp only[Builtin.firstCells,loadCells,yFd,loadCellsFrom];rfl
 cases b with
 |none=>simp[Builtin.append_,run_underlying hu,sizeOf,typeInfo,hi,Builtin.lenOf,hc,h1]
 |some a=>simp[Builtin.append_,run_underlying hu,sizeOf,typeInfo,hi,Builtin.lenOf,hc,h1,storeCells]
def ZX (ty:Nat) (g o n cap:Nat) (cur:Array Value) (el:Nat) (hg:w.heap[g]? =some (.cells cur el (0,0))) (a:Addr) (m c:Nat) (news:List Value) (hl:news.length=m*te.size)
  (hnews:∀j u,news[j]? =some u->w.cell? (a.add j)=some u) (h1:∀u∈news,u.oneCell'=true) (hroom:n+m<=cap) (hfit:o+n*te.size+news.length<=cur.size):
  (Builtin.append_ #[T,T] ty #[.slice (some ⟨g,o,none⟩) n cap,.slice (some a) m c]).run P w=
   .ok (.slice (some ⟨g,o,none⟩) (n+m) cap) (w.setRow g (cur.toList.take (o+n*te.size)++news++cur.toList.drop (o+n*te.size+news.length)).toArray):=by
 obtain⟨i,z,hu,hi,hz,hs,_⟩:=wW hP hT hd he;rw[<-hs]at hl hfit⊢;have hf:=run_firstCells_some (P:=P) w i.size m a m c news hl hnews;have hst:=run_storeCells_at P g (o+n*i.size) el news 0 cur w hg (by simpa using hfit) h1;simp only[yDd]at hst;simp[Builtin.append_,run_underlying hu,sizeOf,typeInfo,hi,Builtin.lenOf,hroom,hf,aK,hst]
end runs
section ops
variable {P:Program} {TT:List TI} {st:St}
def fN {ne:Bool} {h h':yC} {x:AV} (H:∀k,k∈PY x->h k=h' k):VI ne h x=VI ne h' x:=by
 cases x with
 |ref k off len=>simp only[VI];rw[H k (by simp[PY])]
 |_=>rfl
theorem aH (hP:uI P TT) {T e:Nat} {s x:Operand} {ti te:TI} {xv:AV} {ys:List AV} (kn:Nat) (hs:yJ (zG st.tm) s= .s (.slice none 0 0)) (hx:yJ (zG st.tm) x=xv) (hT:TT[T]? =some ti) (hd:ti.d= .slice e) (he:TT[e]? =some te)
  (hys:els (zC st.h) xv=some ys) (hsz:∀y,ys[0]? =some y->y.cells.length=te.size) (hp:Nat.ble 1 te.size=true) (hb:Nat.ble te.bytes 65536=true) (hz:Nat.beq te.zero.length te.size=true) (hz1:te.zero.all (·.oneCell')=true) (hn:ys.length<=1073741824):
  wM P st (.call ⟨.builtin .append, #[s,x], #[T,T]⟩) (.ref kn 0 ys.length) [(kn,.arr te.size ys false)] (PY xv) [kn]:=by
 refine⟨?_⟩;intro X tm h hg hr hnw o a w β ho HH Ht;obtain⟨dst,op',type,pos,after,guard⟩:=o;dsimp only at ho;subst ho;have hkn:=hnw kn zU;have h1:=vF Ht hg (x:=s) kH hs;have h2:=hH Ht hg (x:=x) kH hx;have hp:=yAq hp;have hb:=yAq hb;obtain⟨ad,cap,hc,_,hmax,hsrc⟩:=aZ HH h2 ((fN hr).trans hys) hsz;obtain⟨i,z,hu,hi,hzz,e1,e2,e3⟩:=wW hP hT hd he;have hz:=yA2 hz
 have hop:∀{v w'},(Builtin.append_ #[T,T] type #[.slice none 0 0,a.eval x]).run P w= .ok v w'->(execOp a.eval ⟨dst,.call ⟨.builtin .append, #[s,x], #[T,T]⟩,type,pos,after,guard⟩).run P w= .ok (.value v) w':=λhv=>by
  simp[execOp,resolve,invoke,builtin,h1,hv]
 by_cases hnil:ys=[]
 ·subst hnil;rw[hop (by rw[hc];exact gZ hP hT hd he w type none ad 0 0 cap (yAb _))]
  refine⟨dI β kn [],yX.step HH kn _ _ (yAb _) (λ_ _ _=>rfl) Z Z Z (λb n hm=>by simp at hm) (λ_ _ _=>rfl) (λe he=>by rw[hkn]at he;cases he) (λE=>⟨hp,by simp,λh=>absurd Z h,λi y hy=>by simp at hy,
   λb n r hr=>by rw[zZ]at hr;simp at hr,λ_ _=>undef,λi y j v hy _=>by simp at hy,λi j hi _=>by simp at hi,λb n hm=>by rw[zZ]at hm;simp at hm⟩),.ref0 kn 0 _ _ _ _ (qA _ _ _) zU⟩
 ·obtain⟨b,q,f,rfl,hS⟩:=hsrc hnil
  have hpos:0<ys.length:=by cases ys with|nil=>exact absurd Z hnil|cons _ _=>simp
  obtain⟨hf1,hf2⟩:=hS.flat hp
  have hbytes:ys.length*i.bytes<=281474976710656:=by
   have:=yC9 hn (show i.bytes<=65536 by omega);omega
  have hrun:=run_append_nil (P:=P) w T type e i z hu hi hzz ⟨b,q,none⟩ ys.length cap (flat f ys.length te.size) (by rw[zW,e1]) hf1 hpos (by unfold cQ at hmax;omega) hbytes;rw[hop (by rw[hc];exact hrun)];have HD:=HH.drew (w.drawn+1);have hzs:z.cells.size=te.zero.length:=by rw[<-e3];simp
  have hge:=grownCap_ge w ys.length 0 e
  obtain⟨β',G,hv⟩:=yX.newArr HD hkn ((flat f ys.length te.size).toArray++Builtin.zeroCells z.cells (grownCap w ys.length 0 e-ys.length)) e te.size ys (grownCap w ys.length 0 e) f hp hmax hge (by
    simp only[yFe,yDg,zW,size_zeroCells,hzs,hz,<-yBk]
    congr 1;omega) (qD.get ((qD.arr hf2).app (qD.zero (λv hv=>yAm.1 hz1 v OD) _))) hS.wide
   (λi j hi hj=>by
    rw[yCb (by simp[zW];have:=yA0 te.size (show i+1<=ys.length by omega);rw[yBk,yCa]at this;omega)]
    simpa using kT f hi hj) hS.one (λi y j v hy hv=>xH.evo (w:=w) (w':={w with drawn:=w.drawn+1}) (yAb _) (λ_ _ hd=>⟨rfl,hd⟩) (hS.rep.toF Z i y j v hy hv))
  exact⟨β',yX.trans HH (yX.drew HH (w.drawn+1)) G,hv⟩
def SP (hP:uI P TT) {T e:Nat} {s x:Operand} {ti te:TI} {xv:AV} {ys:List AV} (hs:yJ (zG st.tm) s= .s (.slice none 0 0)) (hx:yJ (zG st.tm) x=xv) (hT:TT[T]? =some ti) (hd:ti.d= .slice e) (he:TT[e]? =some te)
  (hys:els (zC st.h) xv=some ys) (hsz:∀y,ys[0]? =some y->y.cells.length=te.size) (hp:Nat.ble 1 te.size=true) (hb:Nat.ble te.bytes 65536=true) (hz:Nat.beq te.zero.length te.size=true) (hn:ys.length<=1073741824):
  wM P st (.call ⟨.builtin .append, #[s,x], #[T,T]⟩) (.sl false ys) [] (PY xv) []:=by
 refine⟨?_⟩;intro X tm h hg hr _ o a w β ho HH Ht;obtain⟨dst,op',type,pos,after,guard⟩:=o;dsimp only at ho;subst ho;have h1:=vF Ht hg (x:=s) kH hs;have h2:=hH Ht hg (x:=x) kH hx;have hp:=yAq hp;have hb:=yAq hb;obtain⟨ad,cap,hc,_,hmax,hsrc⟩:=aZ HH h2 ((fN hr).trans hys) hsz;obtain⟨i,z,hu,hi,hzz,e1,e2,e3⟩:=wW hP hT hd he;have hz:=yA2 hz
 have hop:∀{v w'},(Builtin.append_ #[T,T] type #[.slice none 0 0,a.eval x]).run P w= .ok v w'->(execOp a.eval ⟨dst,.call ⟨.builtin .append, #[s,x], #[T,T]⟩,type,pos,after,guard⟩).run P w= .ok (.value v) w':=λhv=>by
  simp[execOp,resolve,invoke,builtin,h1,hv]
 by_cases hnil:ys=[]
 ·subst hnil;rw[hop (by rw[hc];exact gZ hP hT hd he w type none ad 0 0 cap (yAb _))];rw[kU];exact⟨β,yX.refl HH,.fz _ _ (.nil _ _)⟩
 ·obtain⟨b,q,f,rfl,hS⟩:=hsrc hnil
  have hpos:0<ys.length:=by cases ys with|nil=>exact absurd Z hnil|cons _ _=>simp
  obtain⟨hf1,hf2⟩:=hS.flat hp
  have hbytes:ys.length*i.bytes<=281474976710656:=by
   have:=yC9 hn (show i.bytes<=65536 by omega);omega
  have hrun:=run_append_nil (P:=P) w T type e i z hu hi hzz ⟨b,q,none⟩ ys.length cap (flat f ys.length te.size) (by rw[zW,e1]) hf1 hpos (by unfold cQ at hmax;omega) hbytes;rw[hop (by rw[hc];exact hrun)];have HD:=HH.drew (w.drawn+1);have hzs:z.cells.size=te.zero.length:=by rw[<-e3];simp
  have hge:=grownCap_ge w ys.length 0 e;have G:=yX.newFz HD ((flat f ys.length te.size).toArray++Builtin.zeroCells z.cells (grownCap w ys.length 0 e-ys.length)) e
  have hv:=xH.newArr HD ((flat f ys.length te.size).toArray++Builtin.zeroCells z.cells (grownCap w ys.length 0 e-ys.length)) e te.size ys (grownCap w ys.length 0 e) f hp hmax hge hS.wide
   (λi j hi hj=>by
    rw[yCb (by simp[zW];have:=yA0 te.size (show i+1<=ys.length by omega);rw[yBk,yCa]at this;omega)]
    simpa using kT f hi hj) hS.one (λi y j v hy hv=>xH.evo (w:=w) (w':={w with drawn:=w.drawn+1}) (yAb _) (λ_ _ hd=>⟨rfl,hd⟩) (hS.rep.toF Z i y j v hy hv))
  rw[kU];refine⟨β,yX.trans HH (yX.drew HH (w.drawn+1)) G,.fz _ _ hv.wkF⟩
theorem vX (st' ne:Bool) (hP:uI P TT) {T e:Nat} {s x:Operand} {ti te:TI} {k sz:Nat} {xs:List AV} {sl:Fl} {xv:AV} {ys:List AV} (hs:yJ (zG st.tm) s= .ref k 0 xs.length) (hk:zC st.h k=some (.arr sz xs sl)) (hx:yJ (zG st.tm) x=xv) (hT:TT[T]? =some ti) (hd:ti.d= .slice e) (he:TT[e]? =some te)
    (hsl:ne=false->sl.nest=false) (hys:VI ne (zC st.h) xv=some ys) (hsz:∀y,ys[0]? =some y->y.cells.length=sz) (hss:Nat.beq sz te.size=true) (hb:Nat.ble te.bytes 65536=true) (hz:Nat.beq te.zero.length te.size=true) (hz1:te.zero.all (·.oneCell')=true) (hn:xs.length+ys.length<=1073741824) (hst:st'=false->xs=[]):
    wM P st (.call ⟨.builtin .append, #[s,x], #[T,T]⟩) (.ref k 0 (xs++ys).length) [(k,.arr sz (xs++ys) ⟨st',ne⟩)] (k::PY xv) []:=by
  refine⟨?_⟩;intro X tm h hg hr _ o a w β ho HH Ht;obtain⟨dst,op',type,pos,after,guard⟩:=o;dsimp only at ho;subst ho;have hk':=(hr k zU).trans hk;have h1:=hH Ht hg (x:=s) kH hs;have h2:=hH Ht hg (x:=x) kH hx;have hss:=yA2 hss;have hb:=yAq hb;have hz:=yA2 hz;obtain⟨g1,g2,g3,g4,g5,fs,g6,g7,g8⟩:=HH.ent k _ hk';obtain⟨ad,cap,hc,_,hmax,hsrc⟩:=aZ HH h2 ((fN λk' hk=>hr k' (by simp[hk])).trans hys) hsz;obtain⟨i,z,hu,hi,hzz,e1,e2,e3⟩:=wW hP hT hd he;have hlen:(xs++ys).length=xs.length+ys.length:=by simp
  have hdr:∃bd cp,a.eval s= .slice bd xs.length cp/\xs.length<=cp/\((∃b,bd=some ⟨b,0,none⟩/\(b,xs.length)∈β k/\cp*sz=wB w b)∨(xs=[]/\cp=0)):=by
    generalize a.eval s=cs at h1;generalize hL:xs.length=L at h1
    cases h1 with
    |fz _ _ hf=>cases hf
    |dref _ _ _ _ hd _=>rw[hk']at hd;cases hd
    |ref0 _ _ _ _ _ bd _ _=>exact⟨bd,0,rfl,yAb _,.inr ⟨yBa hL,rfl⟩⟩
    | ref _ _ _ sz' xs' st' b n cp hk'' hb hn hc hs'=>
      have h3:=hk'';rw[hk']at h3;cases h3;subst hL
      have hnx:n=xs.length:=by
        cases hbk:β k with
        |nil=>rw[hbk]at hb;simp at hb
        | cons q rr=>
          obtain⟨b0,n0⟩:=q;obtain⟨e1,_,e3⟩:=g5 b0 n0 rr hbk;rw[hbk]at hb;simp at hb
          rcases hb with⟨_,rfl⟩|hb
          · exact e1
          · have:=e3 b n hb;omega
      subst hnx;exact⟨_,cp,by rw[yFd],hc,.inl ⟨b,rfl,hb,by rwa [yBu]at hs'⟩⟩
  obtain⟨bd,cp,hcs,hcp,hdr⟩:=hdr
  have hop:∀{v w'},(Builtin.append_ #[T,T] type #[a.eval s,a.eval x]).run P w= .ok v w'->(execOp a.eval ⟨dst,.call ⟨.builtin .append, #[s,x], #[T,T]⟩,type,pos,after,guard⟩).run P w= .ok (.value v) w':=λhv=>by
    simp[execOp,resolve,invoke,builtin,hv]
  rw[hlen];by_cases hnil:ys=[]
  ·
    subst hnil;rw[hop (by rw[hcs,hc];exact gZ hP hT hd he w type bd ad xs.length cp cap hcp)]
    have G:=yX.step (w':=w) HH k (.arr sz (xs++[]) ⟨st',ne⟩) (β k) (yAb _) (λ_ _ _=>rfl) Z Z Z (λb n hm=> .inl ⟨n,hm⟩) (λ_ _ _=>rfl) (λe he=>by rw[hk']at he;cases he;exact .inr ⟨⟨_,_,rfl,by simp⟩,λ_ n hm=>⟨n,yAb _,hm⟩⟩)
      (λE=>⟨g1,by simpa using g2,λh=>by rw[zZ];exact g3 IY,λi y hy=>g4 i y (by simpa using hy),λb n r hr=>by
        rw[zZ]at hr;obtain⟨q1,_,q3⟩:=g5 b n r hr
        exact⟨by simpa using q1,λh b' n' hm=>by have:=q3 b' n' hm;rw[hst h]at this;simp at this,by simpa using q3⟩,fs,λi y j v hy hv=>⟨(g6.toV i y j v (by simpa using hy) hv).evo E,λhn=>(g6.toF (hsl hn) i y j v (by simpa using hy) hv).evo E.size E.fz⟩,λi j hi hj=>g7 i j OB hj,λb n hm=>by rw[zZ]at hm;exact g8 b n hm⟩)
    exact⟨_,G,(hcs▸h1:zQ w (xK X β) h β (.ref k 0 xs.length) (.slice bd xs.length cp)).evo G.evo⟩
  · obtain ⟨b2, q,f,rfl,hS⟩:=hsrc hnil
    have hpos:0<ys.length:=by cases ys with|nil=>exact absurd Z hnil|cons _ _=>simp
    obtain⟨hf1,hf2⟩:=hS.flat g1
    have hbk:β k=[]∨∃b0 rr,β k=(b0,xs.length)::rr:=by
      cases hbk:β k with
      |nil=>exact .inl Z
      |cons q rr=>obtain⟨b0,n0⟩:=q;obtain⟨q1,_⟩:=g5 b0 n0 rr hbk;exact .inr ⟨b0,rr,by rw[q1]⟩
    let f':Nat->Nat->Value:=λi j=>if i<xs.length then fs i j else f (i-xs.length) j
    have hat:∀(i:Nat) y,(xs++ys)[i]? =some y->(i<xs.length/\xs[i]? =some y)∨(¬i<xs.length/\ys[i-xs.length]? =some y):=λi y hy=>by
      by_cases hi:i<xs.length
      · rw[yBe hi]at hy;exact .inl ⟨hi,hy⟩
      · rw[yA1 (by omega)]at hy;exact .inr ⟨hi,hy⟩
    have hwide:∀(i:Nat) (y:AV),(xs++ys)[i]? =some y->y.cells.length=sz:=λi y hy=>by
      rcases hat i y hy with⟨_,h⟩|⟨_,h⟩
      · exact g4 i y h
      · exact hS.wide _ y h
    have hone:∀i j,i<(xs++ys).length->j<sz->(f' i j).oneCell'=true:=λi j hi hj=>by
      simp only[f'];split
      · exact g7 i j ‹_› hj
      · exact hS.one _ _ (by rw[hlen]at hi;omega) hj
    have hrep:∀{w':World} {D':Nat->Prop} {h':yC} {β':vP},GO w (xK X β) h β w' D' h' β'->jN w' D' h' β' ne (xs++ys) f':=λE i y j v hy hv=>by
      simp only[f']
      rcases hat i y hy with⟨hi,h⟩|⟨hi,h⟩
      · rw[zZ8 hi];exact⟨(g6.toV i y j v h hv).evo E,λhn=>(g6.toF (hsl hn) i y j v h hv).evo E.size E.fz⟩
      · rw[zZ7 hi];exact⟨(hS.rep.toV _ y j v h hv).evo E,λhn=>(hS.rep.toF hn _ y j v h hv).evo E.size E.fz⟩
    by_cases hroom:xs.length+ys.length<=cp
    ·
      rcases hdr with⟨b,rfl,hm,hbs⟩|⟨hx0,hc0⟩
      case inr=>omega
      obtain⟨cur,el,c1,c2,c3,c4⟩:=g8 b _ hm
      have hcb:cp*sz<=cur.size:=by
        have:wB w b=cur.size:=by unfold wB World.shape?;rw[c1];rfl
        omega
      have hfit:(xs.length+ys.length)*sz<=cur.size:=yBm (yA0 _ hroom) hcb
      have hrun:=ZX hP hT hd he w type b 0 xs.length cp cur el c1 ⟨b2,q,none⟩ ys.length cap (flat f ys.length sz) (by rw[zW,hss]) hf1 hf2 hroom (by
        rw[zW,<-hss,yBu,<-yBk];exact hfit)
      rw[hop (by rw[hcs,hc];exact hrun)];generalize hcur':(cur.toList.take (0+xs.length*te.size)++flat f ys.length sz++cur.toList.drop (0+xs.length*te.size+(flat f ys.length sz).length)).toArray=cur'
      have hsz':cur'.size=cur.size:=by
        rw[<-hcur'];simp only[yDg,yAd,yA3,yBh,yDh,zW,yBu,<-hss];rw[yBk]at hfit;omega
      have hone2:∀q,q<cur'.size->(cur'.getD q undef).oneCell'=true:=by
        rw[<-hcur'];refine qD.get (qD.arr λv hv=>?_);have hc4:=qD.of c4
        rcases yAw.1 hv with hv|hv
        · rcases yAw.1 hv with hv|hv
          · exact hc4 v (yCc hv)
          · exact hf2 v hv
        · exact hc4 v (yBs hv)
      have hcell:∀i j,i<xs.length+ys.length->j<sz->cur'[i*sz+j]? =some (f' i j):=λi j hi hj=>by
        rw[<-hcur'];simp only[f',yDa,yBu,<-hss];rw[yBk]at hfit;by_cases hix:i<xs.length
        · have hlt:i*sz+j<xs.length*sz:=by
            have:=yA0 sz (show i+1<=xs.length by omega);rw[yBk,yCa]at this;omega
          rw[zZ8 hix,yBe vA,yBe vA,yBz,zZ8 hlt];simpa using c3 i j hix hj
        · have hge:xs.length*sz<=i*sz:=yA0 _ (by omega);have e4:i*sz+j-xs.length*sz=(i-xs.length)*sz+j:=by rw[yFs];omega
          have hlt:(i-xs.length)*sz+j<ys.length*sz:=by
            have:=yA0 sz (show(i-xs.length)+1<=ys.length by omega);rw[yBk,yCa]at this;omega
          rw[zZ7 hix,yBe (by simp[zW];omega),yA1 vA];have e5:(List.take (xs.length*sz) cur.toList).length=xs.length*sz:=by simp;omega
          rw[e5,e4];exact kT f (by omega) hj
      obtain⟨b0,rr,hbk⟩:=hbk.resolve_left (λh0=>by rw[h0]at hm;simp at hm)
      have hb0:b0=b:=by
        rw[hbk]at hm;simp at hm
        rcases hm with rfl|hm
        · rfl
        · have:=(g5 b0 _ rr hbk).2.2 b _ hm;omega
      subst hb0
      have G := yX.step (w' := w.setRow b0 cur') HH k (.arr sz (xs++ys) ⟨st',ne⟩) ((b0,xs.length+ys.length)::rr) zU (λj hj hn=>setRow_other w b0 j cur' (λe=>hn xs.length zDo)) Z Z Z
        (λb n hm=>by
          simp at hm
          rcases hm with⟨rfl,_⟩|hm
          · exact .inl ⟨xs.length,by rw[hbk];simp⟩
          · exact .inl ⟨n,by rw[hbk];simp[hm]⟩) (λb n _=>kG c1 hsz' b)
        (λe he=>by
          rw[hk']at he;cases he;refine .inr ⟨⟨_,_,rfl,by rw[hlen];omega⟩,λb n hm=>?_⟩;rw[hbk]at hm;simp at hm
          rcases hm with⟨rfl,rfl⟩|hm
          · exact⟨xs.length+ys.length,by omega,by simp⟩
          · exact⟨n,yAb _,by simp[hm]⟩)
        (λE=>⟨g1,by rw[hlen];unfold cQ;omega,λ_=>by rw[zZ];simp,hwide,λb n r hr=>by
          rw[zZ]at hr;simp at hr;obtain⟨⟨rfl,rfl⟩,rfl⟩:=hr
          exact⟨hlen.symm,λh b' n' hm=>by have:=(g5 b0 _ rr hbk).2.2 b' n' hm;rw[hst h]at this;simp at this,λb' n' hm=>by have:=(g5 b0 _ rr hbk).2.2 b' n' hm;rw[hlen];omega⟩,f',hrep E,hone,λb n hm=>by
          rw[zZ]at hm;simp at hm;by_cases hbb:b=b0
          · subst hbb
            have hnn:n<=xs.length+ys.length:=by
              rcases hm with⟨_,rfl⟩|hm
              · omega
              · have:=(g5 b _ rr hbk).2.2 b n hm;omega
            exact⟨cur',el,setRow_heap w _ _ _ _ _ c1,by rw[hsz'];exact yBm (yA0 _ hnn) hfit,λi j hi hj=>hcell i j (by omega) hj,hone2⟩
          · have hm : (b, n) ∈ rr := by rcases hm with⟨h,_⟩|hm;· exact absurd h hbb
                                        · exact hm
            obtain⟨c',el',d1,d2,d3,d4⟩:=g8 b n (by rw[hbk];simp[hm]);have hnn:=(g5 b0 _ rr hbk).2.2 b n hm
            exact⟨c',el',(setRow_other w b0 b cur' hbb).trans d1,d2,λi j hi hj=>by simp only[f'];rw[zZ8 (by omega)];exact d3 i j hi hj,d4⟩⟩)
      refine⟨_,G,?_⟩
      have:=zQ.ref (w:=w.setRow b0 cur') (D:=xK X (dI β k ((b0,xs.length+ys.length)::rr))) (h:=over [(k,.arr sz (xs++ys) ⟨st',ne⟩)] h) (β:=dI β k ((b0,xs.length+ys.length)::rr)) k 0 (xs.length+ys.length) sz (xs++ys) ⟨st',ne⟩ b0 (xs.length+ys.length) cp (qA _ _ _)
        (by rw[zZ];simp) (by omega) hroom (by rw[kG c1 hsz',yBu];exact hbs)
      rwa [yFd]at this
    ·
      have hbytes:(xs.length+ys.length)*i.bytes<=140737488355328:=by
        have:=yC9 hn (show i.bytes<=65536 by omega);omega
      have hge:=grownCap_ge w (xs.length+ys.length) cp e;have hzs:z.cells.size=te.zero.length:=by rw[<-e3];simp
      have hgrow:∃olds:List Value,(∀u∈olds,u.oneCell'=true)/\olds.length=xs.length*sz/\(∀i j,i<xs.length->j<sz->olds[i*sz+j]? =some (fs i j))/\
          (Builtin.append_ #[T,T] type #[.slice bd xs.length cp,.slice (some ⟨b2,q,none⟩) ys.length cap]).run P w= .ok (.slice (some ⟨w.heap.size,0,none⟩) (xs.length+ys.length) (grownCap w (xs.length+ys.length) cp e))
            (w.drew.alloc (.cells (olds.toArray++(flat f ys.length sz).toArray++Builtin.zeroCells z.cells (grownCap w (xs.length+ys.length) cp e-(xs.length+ys.length))) e)):=by
        rcases hdr with⟨b,rfl,hm,_⟩|⟨rfl,rfl⟩
        · obtain⟨cur,el,c1,c2,c3,_⟩:=g8 b _ hm;have hS0:Src w (xK X β) h β ne xs sz b 0 fs:=⟨g4,λi j hi hj=>by rw[uP c1,yBu];exact c3 i j hi hj,g7,λi x j v hx hv=>⟨g6.toV i x j v hx hv,λhn=>g6.toF (hsl hn) i x j v hx hv⟩⟩;obtain⟨q1,q2⟩:=hS0.flat g1;exact⟨flat fs xs.length sz,q2,zW _ _ _,λi j hi hj=>kT fs hi hj,run_append_grow (P:=P) w T type e i z hu hi hzz ⟨b,0,none⟩ xs.length cp (flat fs xs.length sz) (by rw[zW,hss,e1]) q1 ⟨b2,q,none⟩ ys.length cap (flat f ys.length sz) (by rw[zW,hss,e1]) hf1 (by omega) (by omega) (growslice_fits (by omega) hbytes)⟩
        · refine⟨[],(λu hu=>by simp at hu),by simp,λi j hi _=>by simp at hi,?_⟩
          cases bd with
          | none=>
            have:=run_append_nil (P:=P) w T type e i z hu hi hzz ⟨b2,q,none⟩ ys.length cap (flat f ys.length sz) (by rw[zW,hss,e1]) hf1 hpos (by omega) (by simp only[yBr,yBu]at hbytes;omega);simpa using this
          | some ad=>
            have:=run_append_grow (P:=P) w T type e i z hu hi hzz ad 0 0 [] zU zU ⟨b2,q,none⟩ ys.length cap (flat f ys.length sz) (by rw[zW,hss,e1]) hf1 (by omega) (by omega) (growslice_fits (by omega) (by simpa using hbytes));simpa using this
      obtain⟨olds,ho0,ho1,ho2,hrun⟩:=hgrow;rw[hop (by rw[hcs,hc];exact hrun)];generalize hgc:grownCap w (xs.length+ys.length) cp e=gc at *;generalize hcur':olds.toArray++(flat f ys.length sz).toArray++Builtin.zeroCells z.cells (gc-(xs.length+ys.length))=cur'
      have hone2:∀q,q<cur'.size->(cur'.getD q undef).oneCell'=true:=by
        rw[<-hcur'];exact qD.get (((qD.arr ho0).app (qD.arr hf2)).app (qD.zero (λv hv=>yAm.1 hz1 v OD) _))
      have hsz':cur'.size=gc*sz:=by
        rw[<-hcur'];simp only[yFe,yDg,zW,size_zeroCells,hzs,hz,<-hss,ho1,<-yBk]
        congr 1
        omega
      have hcell:∀i j,i<xs.length+ys.length->j<sz->cur'[i*sz+j]? =some (f' i j):=λi j hi hj=>by
        have hlt:i*sz+j<(xs.length+ys.length)*sz:=by
          have:=yA0 sz (show i+1<=xs.length+ys.length by omega);rw[yBk,yCa]at this;omega
        rw[yBk]at hlt;rw[<-hcur',yCb (by simp[zW,ho1];omega)];simp only[f'];by_cases hix:i<xs.length
        · have hlt:i*sz+j<xs.length*sz:=by
            have:=yA0 sz (show i+1<=xs.length by omega);rw[yBk,yCa]at this;omega
          rw[zZ8 hix,yCb (by simp[ho1];omega)];simpa using ho2 i j hix hj
        · have hge:xs.length*sz<=i*sz:=yA0 _ (by omega);have e4:i*sz+j-xs.length*sz=(i-xs.length)*sz+j:=by rw[yFs];omega
          rw[zZ7 hix,yD0 (by simp[ho1];omega)];simp only[yDg,ho1,e4,yDa];exact kT f (by omega) hj
      have HD:=HH.drew (w.drawn+1);have dr:∀{w':World} {D':Nat->Prop} {h':yC} {β':vP},GO w.drew (xK X β) h β w' D' h' β'->GO w (xK X β) h β w' D' h' β':=λE=>⟨E.size,E.fz,E.bs,E.key⟩
      have hgt:=grownCap_ge w (xs.length+ys.length) cp e;have hone':=hone
      have G := yX.step (w:=w.drew) (w':=w.drew.alloc (.cells cur' e)) HD k (.arr sz (xs++ys) ⟨st',ne⟩) ((w.heap.size,xs.length+ys.length)::β k) zU (λj hj _=>heap_alloc_old w.drew _ j hj) Z Z Z
        (λb n hm=>by
          simp at hm
          rcases hm with⟨rfl,_⟩|hm
          · exact .inr zU
          · exact .inl ⟨n,hm⟩) (λb n hm=>by
          unfold wB World.shape?
          rw[heap_alloc_old w.drew _ b (HH.lt b (.inr ⟨k,n,hm⟩))])
        (λe he=>by
          rw[hk']at he;cases he
          exact .inr ⟨⟨_,_,rfl,by rw[hlen];omega⟩,λb n hm=>⟨n,yAb _,by simp[hm]⟩⟩)
        (λE=>⟨g1,by rw[hlen];unfold cQ;omega,λ_=>by rw[zZ];simp,hwide,λb n r hr=>by
          rw[zZ]at hr;simp at hr;obtain⟨⟨rfl,rfl⟩,rfl⟩:=hr;refine⟨hlen.symm,λh b' n' hm=>?_,λb' n' hm=>?_⟩
          · have hx0:xs.length=0:=by rw[hst h];rfl
            rcases hbk with h0|⟨b0,rr,h0⟩
            · rw[h0]at hm;simp at hm
            · rw[h0]at hm;simp at hm
              rcases hm with⟨_,rfl⟩|hm
              · exact hx0
              · have:=(g5 b0 _ rr h0).2.2 b' n' hm;omega
          rw[hlen]
          rcases hbk with h0|⟨b0,rr,h0⟩
          · rw[h0]at hm;simp at hm
          · rw[h0]at hm;simp at hm
            rcases hm with⟨_,rfl⟩|hm
            · omega
            · have:=(g5 b0 _ rr h0).2.2 b' n' hm;omega,f',hrep (w':=w.drew.alloc (.cells cur' e)) (dr E),hone',λb n hm=>by
          rw[zZ]at hm;simp at hm
          rcases hm with⟨rfl,rfl⟩|hm
          · exact⟨cur',e,heap_alloc_new w.drew _,by rw[hsz'];exact yA0 _ (by omega),λi j hi hj=>hcell i j hi hj,hone2⟩
          · obtain⟨c',el',d1,d2,d3,d4⟩:=g8 b n hm
            have hnn:n<=xs.length:=by
              rcases hbk with h0|⟨b0,rr,h0⟩
              · rw[h0]at hm;simp at hm
              · rw[h0]at hm;simp at hm
                rcases hm with⟨_,rfl⟩|hm
                · omega
                · exact yFb ((g5 b0 _ rr h0).2.2 b n hm)
            exact⟨c',el',(heap_alloc_old w.drew _ b (HH.lt b (.inr ⟨k,n,hm⟩))).trans d1,d2,λi j hi hj=>by simp only[f'];rw[zZ8 (by omega)];exact d3 i j hi hj,d4⟩⟩)
      refine⟨_,yX.trans HH (yX.drew HH (w.drawn+1)) G,?_⟩
      have:=zQ.ref (w:=w.drew.alloc (.cells cur' e)) (D:=xK X (dI β k ((w.heap.size,xs.length+ys.length)::β k))) (h:=over [(k,.arr sz (xs++ys) ⟨st',ne⟩)] h) (β:=dI β k ((w.heap.size,xs.length+ys.length)::β k)) k 0 (xs.length+ys.length) sz (xs++ys) ⟨st',ne⟩ w.heap.size (xs.length+ys.length) gc (qA _ _ _)
        (by rw[zZ];simp) (by omega) (by omega) (by
          have:wB (w.drew.alloc (.cells cur' e)) w.heap.size=cur'.size:=by
            unfold wB World.shape?;rw[show(w.drew.alloc (.cells cur' e)).heap[w.heap.size]? =_ from heap_alloc_new w.drew _];rfl
          rw[this,hsz',yBu])
      rwa [yFd]at this
def PZ (hP:uI P TT) {T e:Nat} {s x:Operand} {ti te:TI} {k sz:Nat} {xs:List AV} {sb:Bool} {xv:AV} {ys:List AV} (hs:yJ (zG st.tm) s= .ref k 0 xs.length) (hk:zC st.h k=some (.arr sz xs ⟨sb,false⟩)) (hx:yJ (zG st.tm) x=xv) (hT:TT[T]? =some ti) (hd:ti.d= .slice e) (he:TT[e]? =some te)
  (hys:els (zC st.h) xv=some ys) (hsz:∀y,ys[0]? =some y->y.cells.length=sz) (hss:Nat.beq sz te.size=true) (hb:Nat.ble te.bytes 65536=true) (hz:Nat.beq te.zero.length te.size=true) (hz1:te.zero.all (·.oneCell')=true) (hn:xs.length+ys.length<=1073741824):
  wM P st (.call ⟨.builtin .append, #[s,x], #[T,T]⟩) (.ref k 0 (xs++ys).length) [(k,.arr sz (xs++ys) true)] (k::PY xv) []:=
 vX true false hP hs hk hx hT hd he (λ_=>rfl) hys hsz hss hb hz hz1 hn (λh=>by cases h)
def ST (hP:uI P TT) {T e:Nat} {s x:Operand} {ti te:TI} {k sz:Nat} {xs:List AV} {sl:Fl} {xv:AV} {ys:List AV} (hs:yJ (zG st.tm) s= .ref k 0 xs.length) (hk:zC st.h k=some (.arr sz xs sl)) (hx:yJ (zG st.tm) x=xv) (hT:TT[T]? =some ti) (hd:ti.d= .slice e) (he:TT[e]? =some te)
  (hys:VI true (zC st.h) xv=some ys) (hsz:∀y,ys[0]? =some y->y.cells.length=sz) (hss:Nat.beq sz te.size=true) (hb:Nat.ble te.bytes 65536=true) (hz:Nat.beq te.zero.length te.size=true) (hz1:te.zero.all (·.oneCell')=true) (hn:xs.length+ys.length<=1073741824):
  wM P st (.call ⟨.builtin .append, #[s,x], #[T,T]⟩) (.ref k 0 (xs++ys).length) [(k,.arr sz (xs++ys) ⟨true,true⟩)] (k::PY xv) []:=
 vX true true hP hs hk hx hT hd he (λh=>by cases h) hys hsz hss hb hz hz1 hn (λh=>by cases h)
end ops
end Av
end Go.Proofs.YteajjdidebfcjaaGreat
