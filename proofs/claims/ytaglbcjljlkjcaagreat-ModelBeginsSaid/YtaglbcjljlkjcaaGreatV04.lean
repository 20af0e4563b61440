/- Part 4. -/
import Derived.Test.YtaglbcjljlkjcaaGreatV03
import Derived.Lib.Overlaps
import Derived.LoopNIn
namespace Go.Proofs.YtaglbcjljlkjcaaGreat.Av
open Tryz
set_option linter.all false
set_option maxRecDepth 4000
set_option maxHeartbeats 2000000
open List renaming length->ln,range->pg,take->pi
open Inhabited renaming default->dd
variable {r:AV}{c:Code}{Q:Exit->St->Prop}{h0 h1:List (Nat×xM)}{vs:List AV}{K ts:List Nat}{L T k n:Nat}{A B C D E F G H Y a b p q:Prop}{st:St}{ti:TI}{α:Type}
def Lp(a:A)(b:B)(c:C)(h:p=(A/\B/\C):=by conv=>lhs;whnf):p:=by(rw[h];exact⟨a,b,c⟩)
def Lq(b:B)(c:C)(h:p=(A/\B/\C):=by conv=>lhs;whnf)(a:A:=by rfl):p:=by(rw[h];exact⟨a,b,c⟩)
mutual
def MQ (k L:Nat):AV->Prop
 | .ref j off len=>j=k->off=0/\len=L
 | .ptr j _ _=>j≠k
 | .agg cs| .fn _ cs| .tup cs=>gY k L cs
 |_=>True
def gY (k L:Nat):List AV->Prop
 | []=>True
 |v::r=>MQ k L v/\gY k L r
end
def GV (k L:Nat):List (Nat×AV)->Prop
 | []=>True
 |(_,v)::r=>MQ k L v/\GV k L r
def GW (k L:Nat):List (Nat×xM)->Prop
 | []=>True
 |(_,e)::r=>(match e with
  | .box cs=>gY k L cs
  | .obj cs=>True
  | .arr _ xs fl=>fl.nest=false\/gY k L xs
  | .dead=>True)/\GW k L r
theorem gY.at :∀{cs:List AV} {i:Nat} {v:AV},gY k L cs->cs[i]? =some v->MQ k L v
 | [],_,_,_,h=>by simp at h
 |x::r,0,v,hk,h=>by simp at h;subst h;exact hk.1
 |x::r,i+1,v,hk,h=>gY.at hk.2 NJ
theorem GV.at :∀{u:List (Nat×AV)},GV k L u->∀t,MQ k L (zL u t)
 | [],_,t=>trivial
 |(j,v)::r,h,t=>by
  rw[xL];split
  .exact h.1
  .exact GV.at h.2 t
theorem GW.at :∀{h:List (Nat×xM)} {j:Nat} {e:xM},GW k L h->zD h j=some e->match e with
  | .box cs=>gY k L cs
  | .obj cs=>True
  | .arr _ xs fl=>fl.nest=false\/gY k L xs
  | .dead=>True
 | [],_,_,_,u=>by simp[zD]at u
 |(i,e0)::r,j,e,h,u=>by
  rw[xV]at u;split at u
  .cases u;exact h.1
  .exact GW.at h.2 u
theorem MQ.cells {x:AV} (h:MQ k L x):gY k L x.cells:=by
 cases x<;>first
  |exact h
  |exact⟨h,trivial⟩
theorem yF.whole {w:World} {D D':Nat->Prop} {h h':yM} {β β':uH} (k L:Nat) (R:∀b,D' b->D b) (hh:∀j,j≠k->h' j=h j) (hβ:∀j,j≠k->β' j=β j) (V:∀c,yF w D h β (.ref k 0 L) c->yF w D' h' β' (.ref k 0 L) c) {v:AV} {c:Value} (hv:yF w D h β v c):MQ k L v->yF w D' h' β' v c:=by
 have u:∀{off len j c},(j=k->off=0/\len=L)->yF w D h β (.ref j off len) c->(j≠k->yF w D' h' β' (.ref j off len) c)->yF w D' h' β' (.ref j off len) c:=λ{off len j c} h1 h2 h3=>by
  grind
 induction hv with
 |fz v c S=>exact λ_=> .fz v c (S.less R)
 |agg cs c hl h1 M I=>exact λhk=> .agg cs c hl h1 λi v hv=>I i v hv (gY.at hk hv)
 |fn f y c hl M I=>exact λhk=> .fn f y c hl λi v hv=>I i v hv (gY.at hk hv)
 |tup vs c hl M I=>exact λhk=> .tup vs c hl λi v hv=>I i v hv (gY.at hk hv)
 |dref j off len c hk' h1=>exact λhk=>u hk (.dref j off len c hk' h1) λhj=> .dref j off len c NM h1
 |dptr j i off c hk' h1=>exact λhk=> .dptr j i off c Tj h1
 |ref j off len sz xs st b n cap hk' hb z hc O=>exact λhk=>u hk (.ref j off len sz xs st b n cap hk' hb z hc O) λhj=> .ref j off len sz xs st b n cap NM Xd z hc O
 |ref0 j off sz xs st a hk' z=>exact λhk=>u hk (.ref0 j off sz xs st a hk' z) λhj=> .ref0 j off sz xs st a NM z
 |pbox j off cs b n hk' hb=>exact λhk=> .pbox j off cs b n Tj (by rw[hβ j hk];exact hb)
 |parr j i off sz xs st b n hk' hb hi U=>exact λhk=> .parr j i off sz xs st b n Tj (by rw[hβ j hk];exact hb) hi U
section
variable {P:Program} {K0:List Nat} {F:Fr K0} {m:Nat} {tm:List (Nat×AV)} {h:List (Nat×xM)}
end
section
variable {P:Program} {TT:List TI} {K0:List Nat} {F:Fr K0} {m:Nat} {ops:Array Oper} {dr:Bool} {rest:List Oper} {fs:List FP} {Q:List FP->St->Prop} {tm:List (Nat×AV)} {h:List (Nat×xM)} {ty:Nat} {pos:String} {after:Array Edge} {t:Nat}
def dU (k:Nat) (R:qI P TT) {e len:Nat} {O:Array (Nat×Operand)} {u:TI} {xs:List AV} (hT:TT[T]? =some ti) (hd:ti.d= .slice e) (S:TT[e]? =some u) (V:Nat.ble 1 u.size=true) (z:bG ⟨tm,h⟩ O=(xs.zipIdx 0).map λx=>(x.2,x.1)) (hl:Nat.beq (ln xs) len=true)
 (W:xs.all (λx=>Nat.beq (ln x.cells) u.size&&x.ok)=true) (hb:Nat.ble (len*u.size) 65536=true) (M:Nat.beq (ln u.zero) u.size=true) (U:Nat.blt t m=true) (y:(zD h k).isNone=true)
 {sz:Nat} (I:u.size=sz) (hk:yP P F m ops dr rest ⟨(t,.ref k 0 len)::tm,(k,.arr sz xs ⟨false,true⟩)::h⟩ (⟨true,[k,k],[]⟩::fs) Q):yP P F m ops dr (⟨some t,.buildSlice T len O,ty,pos,after,none⟩::rest) ⟨tm,h⟩ fs Q:=by
 subst I;exact qH (nw:=[k]) (QX R k hT hd S V z hl W hb M) U (Of y) Z hk
end
section
variable {P:Program} {K0:List Nat} {F:Fr K0} {m:Nat} {ops:Array Oper} {rest:List Oper} {fs fs':List FP} {Q:List FP->St->Prop} {tm:List (Nat×AV)} {h:List (Nat×xM)} {op:Op} {ty:Nat} {pos:String} {after:Array Edge} {t:Nat} {r nw:List Nat} {O:AV->List (Nat×xM)->Prop}
end
section
variable {P:Program} {st:St}
end
section
variable {P:Program} {TT:List TI} {st:St}
theorem Jg (hP:qI P TT) {e k len sz:Nat} {s x:Operand} {te:TI} {xs:List AV} {xv:AV} (hs:yW (zL st.tm) s= .ref k 0 len) (hk:zD st.h k=some (.arr sz xs ⟨false,false⟩)) (hx:yW (zL st.tm) x=xv) (hT:TT[T]? =some ti) (hd:ti.d= .slice e) (he:TT[e]? =some te) (b1:Oa (zD st.h) xv=some vs)
 (W:Nat.beq sz te.size=true) (bz:∀y,vs[0]? =some y->ln y.cells=sz) (ap:1<=ln vs) (hl:1<=len) (a2:len+ln vs<=ln xs) (b5:ln xs<=1073741824):
    wZ P st (.call ⟨.builtin .append, #[s,x], #[T,T]⟩) (.ref k 0 (len+ln vs)) [(k,.arr sz (xs.take len++vs++xs.drop (len+ln vs)) ⟨false,false⟩)] (k::LI xv) []:=by
  refine⟨?_⟩;intro X tm h hg hr _ o a w β ho HH Ht;obtain⟨d0,o0,y0,p0,f0,g0⟩:=o;dsimp only at ho;subst ho;have hk':=(hr k yE).trans hk;have h1:=dE Ht hg (x:=s) gR hs;have h2:=dE Ht hg (x:=x) gR hx;have W:=zA3 W;obtain⟨i,z,hu,hi,hz,e1,e2,e3⟩:=vU hP hT hd he;obtain⟨g1,g2,g3,g4,g5,f,g6,g7,g8⟩:=HH.ent k _ hk';obtain⟨ad,cap,bl,_,b8,bb⟩:=aD HH h2 ((dF λk' hk=>hr k' (by simp[hk])).trans b1) bz;obtain⟨b2,q,fy,rfl,hS⟩:=bb (λh0=>by rw[h0]at ap;simp at ap);obtain⟨bu,a6⟩:=hS.flat g1;generalize br:a.eval s=cx at h1
  cases h1 with
  |fz _ _ hf=>cases hf
  |dref _ _ _ _ hd _=>rw[hk']at hd;cases hd
  |ref0 _ _ b3 b4 st' b ag hn=>omega
  | ref _ _ _ b3 b4 st' b n cp ag S hn hc a9=>
    have h3:=ag;rw[hk']at h3;cases h3
    obtain⟨rr,hbk,bx,a1⟩:∃rr,β k=(b,n)::rr/\n=ln xs/\∀V n',(V,n')∈rr->n'=0:=by
      cases hbk:β k with
      |nil=>rw[hbk]at S;simp at S
      | cons q r=>
        obtain⟨b0,n0⟩:=q;obtain⟨e1,e2,_⟩:=g5 b0 n0 r hbk;have e2:=e2 Z;rw[hbk]at S;simp at S
        rcases S with⟨rfl,rfl⟩|hm
        · exact⟨r,rfl,e1,e2⟩
        · have:=e2 b n hm;omega
    subst bx;obtain⟨R,el,c1,c2,c3,c4⟩:=g8 b _ S
    have bk:R.size=cp*sz:=by
      have:wW w b=R.size:=by unfold wW World.shape?;rw[c1];rfl
      rw[<-this,<-a9,zBu]
    have b6:ln xs<=cp:=by
      have h5:ln xs*sz<=cp*sz:=by rw[<-bk];exact c2
      exact Nat.le_of_mul_le_mul_right h5 (by omega)
    have ac:(len+ln vs)*sz<=R.size:=zBf (zA1 _ a2) c2
    have ar:=cV hP hT hd he w y0 b 0 len cp R el c1 ⟨b2,q,none⟩ (ln vs) cap (flat fy (ln vs) sz) (by rw[yD,W]) bu a6 (by omega) (by
      rw[yD,<-W,zBu,<-zBl];exact ac)
    have bf:0*sz=0:=zDh _;generalize O:(R.toList.take (0+len*te.size)++flat fy (ln vs) sz++R.toList.drop (0+len*te.size+(flat fy (ln vs) sz).length)).toArray=M at ar
    have bs:(execOp a.eval ⟨d0,.call ⟨.builtin .append, #[s,x], #[T,T]⟩,y0,p0,f0,g0⟩).run P w= .ok (.value (.slice (some ⟨b,0,none⟩) (len+ln vs) cp)) (w.setRow b M):=by
      simp[execOp,resolve,invoke,builtin,br,bl,ar]
    rw[bs];rw[zBl]at ac;rw[zBu,<-W]at O
    have au:M.size=R.size:=by
      rw[<-O];simp only[zDi,zAf,zA0,zBh,zC8,yD];omega
    have az:∀q,q<M.size->(M.getD q undef).oneCell'=true:=by
      rw[<-O];refine kP.get (kP.arr λv hv=>?_);have a5:=kP.of c4
      rcases zAy.1 hv with hv|hv
      · rcases zAy.1 hv with hv|hv
        · exact a5 v (zB6 hv)
        · exact a6 v hv
      · exact a5 v (zBo hv)
    let f':Nat->Nat->Value:=λi j=>if len<=i/\i<len+ln vs then fy (i-len) j else f i j
    have U:(xs.take len++vs++xs.drop (len+ln vs)).length=ln xs:=by
      simp only[zAf,zA0,zBh];omega
    have a4:∀(i:Nat) y,(xs.take len++vs++xs.drop (len+ln vs))[i]? =some y->(len<=i/\i<len+ln vs/\vs[i-len]? =some y)\/(¬(len<=i/\i<len+ln vs)/\xs[i]? =some y):=λi y hy=>by
      have ht:(xs.take len).length=len:=by simp;omega
      by_cases h5:i<len
      · rw[zA2,zA9 (by omega),zB0,Os h5]at hy;exact .inr ⟨by omega,hy⟩
      · by_cases h6:i<len+ln vs
        · rw[zA2,zBb (by omega),ht,zA9 (by omega)]at hy;exact .inl ⟨by omega,h6,hy⟩
        · rw[zBb qM]at hy;simp only[zAf,ht]at hy;rw[zCe,show len+ln vs+(i-(len+ln vs))=i by omega]at hy;exact .inr ⟨by omega,hy⟩
    have ax:∀i j,i<ln xs->j<sz->M[i*sz+j]? =some (f' i j):=λi j hi hj=>by
      rw[<-O];simp only[f',zC3];by_cases h5:i<len
      · have a8:i*sz+j<len*sz:=by
          have:=zA1 sz (show i+1<=len by omega);rw[zBl,zCl]at this;omega
        rw[hW (by omega),zA2,zA9 qM,zB0,Os a8];simpa using c3 i j hi hj
      · have ht:(pi (len*sz) R.toList).length=len*sz:=by simp;omega
        have b7:len*sz<=i*sz:=zA1 _ (by omega);by_cases h6:i<len+ln vs
        · have e4:i*sz+j-len*sz=(i-len)*sz+j:=by rw[zFk];omega
          have a8:(i-len)*sz+j<ln vs*sz:=by
            have:=zA1 sz (show(i-len)+1<=ln vs by omega);rw[zBl,zCl]at this;omega
          rw[Os (by omega),zA2,zBb (by rw[ht];omega),ht,zA9 (by rw[yD];omega),e4];exact gJ fy (by omega) hj
        · have a7:(len+ln vs)*sz<=i*sz:=zA1 _ (by omega);rw[zBl]at a7;rw[hW (by omega),zBb (by simp only[zAf,ht,yD];omega),zCe];simp only[zAf,ht,yD];rw[show len*sz+ln vs*sz+(i*sz+j-(len*sz+ln vs*sz))=i*sz+j by omega];simpa using c3 i j hi hj
    have G:=xX.step (w':=w.setRow b M) HH k (.arr sz (xs.take len++vs++xs.drop (len+ln vs)) ⟨false,false⟩) (β k) yE (λj hj hn=>setRow_other w b j M (λe=>hn (ln xs) Yd)) Z Z Z (λb n hm=> .inl ⟨n,hm⟩) (λb n _=>qX c1 au b)
      (λe he=>by rw[hk']at he;cases he;exact .inr ⟨⟨_,_,rfl,by rw[U];exact zAe _⟩,λ_ n hm=>⟨n,zAe _,hm⟩⟩) λE=>⟨g1,by rw[U];exact g2,λ_=>by rw[yJ,hbk];simp,λi' x' a3=>by
        rcases a4 i' x' a3 with⟨_,_,h⟩|⟨_,h⟩
        · exact hS.wide _ x' h
        · exact g4 i' x' h,λV n' r I=>by
        rw[yJ]at I;rw[U]
        exact g5 V n' r I,f',λi' x' j u a3 hu=>by
        simp only[f']
        rcases a4 i' x' a3 with⟨q1,q2,h⟩|⟨q1,h⟩
        · rw[Os ⟨q1,q2⟩];exact⟨(hS.rep.toV _ x' j u h hu).evo E,λ_=>(hS.rep.toF Z _ x' j u h hu).evo E.size E.fz⟩
        · rw[hW q1];exact⟨(g6.toV i' x' j u h hu).evo E,λ_=>(g6.toF Z i' x' j u h hu).evo E.size E.fz⟩,λi' j hi' hj=>by
        rw[U]at hi';simp only[f'];split
        · exact hS.one _ _ (by omega) hj
        · exact g7 i' j hi' hj,λV n' I=>by
        rw[yJ,hbk]at I;simp at I;by_cases av:V=b
        · subst av;refine⟨M,el,setRow_heap w _ _ _ _ _ c1,?_,λi' j hi' hj=>?_,az⟩
          · rw[au]
            rcases I with⟨_,rfl⟩|I
            · exact c2
            · have:=a1 V n' I;subst this;omega
          · rcases I with⟨_,rfl⟩|I
            · exact ax i' j hi' hj
            · have:=a1 V n' I;omega
        · have I : (V, n') ∈ rr := by    rcases I with⟨h,_⟩|h;· exact absurd h av
                                         · exact h
          obtain⟨c',bd,q1,q2,_,q4⟩:=g8 V n' (by rw[hbk];simp[I]);have:=a1 V n' I;subst this
          exact⟨c',bd,(setRow_other w b V M av).trans q1,q2,λi' j hi' _=>by omega,q4⟩⟩
    refine⟨_,G,?_⟩;have hR:yF w (xT X β) h β (.ref k 0 (len+ln vs)) (.slice (some ⟨b,0*sz,none⟩) (len+ln vs) cp):= .ref k 0 (len+ln vs) sz xs ⟨false,false⟩ b (ln xs) cp hk' S (by omega) (by omega) a9;rw[bf]at hR;exact hR.evo G.evo
end
section
variable {P:Program} {K0:List Nat} {F:Fr K0} {m:Nat} {ops:Array Oper} {rest:List Oper} {fs:List FP} {Q:List FP->St->Prop} {tm:List (Nat×AV)} {h:List (Nat×xM)}
end
section
variable {P:Program} {K0:List Nat} {F:Fr K0} {m:Nat} {ops:Array Oper} {rest:List Oper} {fs:List FP} {tm:List (Nat×AV)} {h:List (Nat×xM)}
def yn {k:List (Nat×AV)->List (Nat×xM)->Prop} (hk:jO K (zD st.h) st.tm ts λT=>jJ K (zD st.h) K λU=>k T U):k (restr K ts st).tm (restr K ts st).h:=by
 rw[dJ,kE]at hk;exact hk
def vR {Q:List FP->St->Prop} (K ts:List Nat) (u:K0.all (K.contains ·)=true) (h1:jO K (zD h) tm ts λT=>jJ K (zD h) K λU=>yP P F m ops false rest ⟨T,U⟩ fs Q):yP P F m ops false rest ⟨tm,h⟩ fs Q:=
 ⟨λa w R=>(yn (st:=⟨tm,h⟩) (k:=λT U=>yP P F m ops false rest ⟨T,U⟩ fs Q) h1).run a w (wV.restr R K ts u)⟩
def vJ (K ts:List Nat) (u:K0.all (K.contains ·)=true) (h1:jO K (zD st.h) st.tm ts λT=>jJ K (zD st.h) K λU=>uG P F m c ⟨T,U⟩ Q):uG P F m c st Q:=
 kX K ts u Z (yn (k:=λT U=>uG P F m c ⟨T,U⟩ Q) h1)
structure fu (p:Prop):Prop where
 h:p
def OI (P:Program) (F:Fr K0) (m:Nat) (c:Code) (Q:Exit->St->Prop) (K ts:List Nat):Nat->St->Prop
 |0,_=>False
 |n+1,st=>uG P F m c (restr K ts st) (aL Q λs=>fu (OI P F m c Q K ts n s))
def qY (n:Nat) (K ts:List Nat) (u:K0.all (K.contains ·)=true) (h1:fu (OI P F m c Q K ts n st)):uG P F m (.loop c) st Q:=⟨λa w R=>by
 refine wpIn_loop_rounds n ?_
 induction n generalizing st a w with
 |zero=>exact h1.h.elim
 |succ n y=>
  refine Code.wpIn_mono (λe a' w' ⟨s,q1,q2⟩=>?_) (h1.h.run a w (wV.restr R K ts u))
  cases e with
  |normal=>exact y q1 a' w' q2
  |_=>exact⟨s,q1,q2⟩⟩
def xR {st0:St} (u:restr K ts st=st0) (h1:uG P F m c st0 (aL Q λs=>fu (OI P F m c Q K ts n s))):fu (OI P F m c Q K ts (n+1) st):=by
 subst u;exact⟨h1⟩
theorem Jb {cs vs:List α} (hl:ln vs=ln cs):UI cs 0 vs=vs:=by
 apply zBe;intro j;rw[YO _ _ _ _ (by omega)]
 grind
def Dz {TT:List TI} {z:Bool} {Q:List FP->St->Prop} {ty:Nat} {pos:String} {u:Array Edge} (O:qI P TT) {k:Nat} {p x:Operand} {cs:List AV} (R:yW (zL tm) p= .ptr k 0 0) (y:zD h k=some (.box cs)) (hx:yW (zL tm) x= .agg vs) (hT:TT[T]? =some ti) (I:Nat.beq (ln vs) ti.size=true) (hl:Nat.beq (ln vs) (ln cs)=true)
 (hk:yP P F m ops z rest ⟨tm,(k,.box vs)::h⟩ (⟨true,[k],[k]⟩::fs) Q):yP P F m ops z (⟨none,.store T p x,ty,pos,u,none⟩::rest) ⟨tm,h⟩ fs Q:=by
 have e1:=zA3 I;have M:=zA3 hl;refine cJ (v:= .bot) (k:=k) (e:= .box vs) (r:=[k]) (nw:=[]) O ?_ Z Z hk;simp only[exec,R,hT,y,hx,Jh,AV.ok,AV.cells,gI,Jb M]
 rw[show(true&&(Nat.beq (ln vs) ti.size&&Nat.ble (0+ti.size) (ln cs)))=true by
  rw[I,zDf (by omega)];rfl]
 rfl
end
structure aJ (q:Prop):Prop where
 h:q
structure Kw (n:Nat) (K ts:List Nat):Prop where
def I2 (x:a) (y:b):a/\b:=⟨x,y⟩
def I3 {c:Prop} (x:a) (y:b) (z:c):a/\b/\c:=⟨x,y,z⟩
def I5 {c d e:Prop} (x:a) (y:b) (z:c) (u:d) (v:e):a/\b/\c/\d/\e:=⟨x,y,z,u,v⟩
def I6 {c d e f:Prop} (x:a) (y:b) (z:c) (u:d) (v:e) (w:f):a/\b/\c/\d/\e/\f:=⟨x,y,z,u,v,w⟩
section
variable {P:Program} {K0:List Nat} {F:Fr K0} {m:Nat} {ops:Array Oper} {rest:List Oper} {Q:List FP->St->Prop} {dr:Bool} {fs:List FP} {ty t:Nat} {pos:String} {after:Array Edge} {st:St}
def Bz {u:List AV} (_:wJ P n u h0 r h1) {y:Array Operand} {ts:Array Nat} (hk:yP P F m ops dr (⟨some t,.call ⟨.value (.func n),y,ts⟩,ty,pos,after,none⟩::rest) st fs Q):yP P F m ops dr (⟨some t,.call ⟨.value (.func n),y,ts⟩,ty,pos,after,none⟩::rest) st fs Q:=hk
def Ib (_:Kw n K ts) {u:Array Operand} {y:Array Nat} (hk:yP P F m ops dr (⟨some t,.call ⟨.value (.func n),u,y⟩,ty,pos,after,none⟩::rest) st fs Q):yP P F m ops dr (⟨some t,.call ⟨.value (.func n),u,y⟩,ty,pos,after,none⟩::rest) st fs Q:=hk
def MR {u:List (Nat×AV)} {h:List (Nat×xM)} {Q:List FP->St->Prop} (_:Kw n K ts) (y:K0.all (K.contains ·)=true) (h1:jO K (zD h) u ts λT=>jJ K (zD h) K λU=>yP P F m ops false rest ⟨T,U⟩ fs Q):yP P F m ops false rest ⟨u,h⟩ fs Q:=vR K ts y h1
end
def CC (k:q) (h:aJ q->p:=by(intro ge;(((first|refine Bz zc ?_|refine We ?_);first|refine wO (zK (zc) Z Z Z Z Z) Z ?_|refine qH (zK (zc) Z Z Z Z Z) Z Z Z ?_|refine bX (zK (zc) Z Z Z Z Z) Z Z Z ?_|refine wO (kW (zc) Z Z Z Z Z) Z ?_|refine qH (kW (zc) Z Z Z Z Z) Z Z Z ?_));exact ge.h)):p:=h ⟨k⟩
theorem PT (k:q) (h:aJ q->p:=by(intro ge;(first|refine vT tok Z Z ?_|(refine NH ?_;first|refine N8 Z Z ?_|refine E4 Z Z Z Z ?_)|(refine vE ?_;first|refine wO (Nf Z Z Z (by unfold Wj;omega)) Z ?_|refine wO (Mf Z Z Z (by unfold Wj;omega)) Z ?_|refine wO (jr Z Z Z) Z ?_|refine wO (PO Z Z ⟨by omega,by omega⟩) Z ?_|refine wO (lr Z Z ⟨by omega,by omega⟩) Z ?_|refine wO (PP Z Z ⟨by omega,by omega⟩) Z ?_|refine wO (sr Z Z (by assumption) (by omega)) Z ?_|refine wO (tr Z Z (by omega)) Z ?_|refine wO (Zr Z Z) Z ?_|refine wO (Un Z Z (by omega)) Z ?_|refine wO (Tn Z Z (by omega)) Z ?_|refine wO (YN (.inl ⟨rfl,rfl⟩) Z Z (by omega)) Z ?_|refine wO (YN (.inr ⟨rfl,rfl⟩) Z Z (by omega)) Z ?_|refine wO (JJ tok Z Z Z Z (.inl ⟨rfl,rfl⟩)) Z ?_|refine wO (JJ tok Z Z Z Z (.inr ⟨rfl,rfl⟩)) Z ?_|refine wO (Ma tok (.inl ⟨rfl,rfl⟩) Z Z Z) Z ?_|refine wO (xQ tok (.inl ⟨rfl,rfl⟩) Z Z Z Z) Z ?_|refine wO (Yn Z Z) Z ?_|refine wO (aM Z Z) Z ?_|refine wO (Xn Z Z) Z ?_|refine wO (Cb Z Z (by assumption)) Z ?_|refine wO (IB Z Z) Z ?_|refine wO (Bb Z Z (by assumption)) Z ?_|refine wO (IC Z Z) Z ?_)|(refine xy ?_;first|refine wO (SD tok Z Z Z Z Z (by omega) XM Z Z) Z ?_|refine wO (TZ tok Z Z Z Z Z Z (by omega) (by omega) Z) Z ?_|refine wO (UM tok Z Z Z Z Z Z (by omega) (by omega)) Z ?_)|(refine qr ?_;first|refine wO (IW tok Z Z Z XM Z) Z ?_|refine wO (IV tok Z Z Z XM Z) Z ?_|refine wO (LS tok Z Z Z Z XM Z) Z ?_|refine wO (LR tok Z Z Z Z XM Z) Z ?_)|(refine wy ?_;first|refine wO (UK tok Z Z Z Z Z Z Z Z) Z ?_|refine wO (SA tok Z XM Z Z Z Z Z Z) Z ?_)|(refine yI ?_;first|refine wU tok Z Z Z Z Z Z Z (by first|(intro y u;cases u;rfl)|exact yG _ _ (λ_=>rfl)) Z Z Z (by first|omega|(simp;done)|(simp;omega)) Z ?_|refine kN tok Z Z Z Z Z Z Z Z Z Z Z (by first|(intro y u;cases u;rfl)|exact yG _ _ (λ_=>rfl)) (by first|omega|(simp;done)|(simp;omega)) Z ?_)|(refine Vj ?_;first|refine wO (Xr Z ⟨by omega,by omega⟩) Z ?_)|(refine nr ?_;first|refine wO (EV tok Z Z Z Z ⟨by omega,by omega⟩) Z ?_|refine wO (DE tok Z Z Z Z) Z ?_|refine wO (BN tok Z Z Z Z Z Z Z XM) Z ?_)|(refine aN ?_;first|refine S0 tok Z Z Z Z Z (by first|(intro y u;cases u;rfl)|exact yG _ _ (λ_=>rfl)|assumption|(simp;done)) (by omega) qM (by first|exact zC4.symm|rfl) Z ?_|refine R0 tok Z Z Z Z Z (by first|(intro y u;cases u;rfl)|exact yG _ _ (λ_=>rfl)|assumption|(simp;done)) (by omega) qM (by first|exact zDk.symm|rfl) Z ?_|refine ru tok Z Z Z Z Z Z (by first|(intro y u;cases u;rfl)|exact yG _ _ (λ_=>rfl)|assumption|(simp;done)) (by omega) (by omega) (by first|omega|(simp;omega)) (by first|assumption|rfl) Z ?_));exact ge.h)):p:=h ⟨k⟩
def SB (k:q) (h:aJ q->p:=by(intro ge;refine zG ?_;(first|(refine FA ?_;refine wO (jB Z Z Z) Z ?_)|refine bY tok Z Z Z Z ?_|(refine cS ?_;first|refine Dz tok Z Z Z Z Z Z ?_|refine cJ tok Z Z Z ?_|refine bn tok Z Z Z XM Z Z Z Z Z Z ?_|refine qn tok Z Z Z XM Z Z Z Z Z Z Z Z ?_)|refine qV ?_|refine WC vA ?_);exact ge.h)):p:=h ⟨k⟩
def SC (k:q) (h:aJ q->p:=by(intro ge;((first|(refine Ib ly ?_;refine MR ly Z ?_;(conv=>whnf);(try simp only[zAr,zAa]))|(refine Ib zf2 ?_;refine MR zf2 Z ?_;(conv=>whnf);(try simp only[zAr,zAa]))|(refine Ib zf3 ?_;refine MR zf3 Z ?_;(conv=>whnf);(try simp only[zAr,zAa]))|skip);first|(have zc:=gt;refine CC ?_;clear zc)|(have zc:=gv;refine CC ?_;clear zc)|(have zc:=ic;refine CC ?_;clear zc)|(have zc:=io;refine CC ?_;clear zc)|(have zc:=kj;refine CC ?_;clear zc)|(have zc:=lb;refine CC ?_;clear zc)|(have zc:=lf;refine CC ?_;clear zc)|(have zc:=lk;refine CC ?_;clear zc)|(have zc:=lp;refine CC ?_;clear zc)|(have zc:=zc10;refine CC ?_;clear zc)|(have zc:=zc11;refine CC ?_;clear zc)|(have zc:=zc12;refine CC ?_;clear zc)|(have zc:=zc13;refine CC ?_;clear zc)|(have zc:=zc14;refine CC ?_;clear zc)|(have zc:=zc15;refine CC ?_;clear zc)|(have zc:=zc16;refine CC ?_;clear zc)|fail);exact ge.h)):p:=h ⟨k⟩
def WZ (k:q) (h:aJ q->p:=by(intro ge;(repeat1' (first|(refine zG ?_;first|refine PT ?_|(refine xJ ?_;refine SC ?_)|refine SB ?_)|refine wF ?_|refine wB ?_|refine xO ?_|refine wA ?_));exact ge.h)):p:=h ⟨k⟩
def WS (k:q) (h:aJ q->p:=by(intro ge;(repeat1' (first|(refine zG ?_;first|refine PT ?_|(refine xJ ?_;refine SC ?_)|refine SB ?_)));exact ge.h)):p:=h ⟨k⟩
def WY (k:q) (h:aJ q->p:=by(intro ge;(repeat1' (first|(refine zG ?_;first|refine PT ?_|(refine xJ ?_;refine SC ?_)|((fail_if_success refine yL ?_);refine SB ?_))|refine wF ?_|refine wB ?_|refine xO ?_|refine wA ?_));exact ge.h)):p:=h ⟨k⟩
def WT (k:q) (h:aJ q->p:=by(intro ge;(repeat1' (first|(refine zG ?_;first|refine PT ?_|(refine xJ ?_;refine SC ?_)|((fail_if_success refine cS ?_);refine SB ?_))|refine wF ?_|refine wB ?_|refine xO ?_|refine wA ?_));exact ge.h)):p:=h ⟨k⟩
def SG (k:q) (h:aJ q->p:=by(intro ge;refine zG ?_;refine NH ?_;((refine UH Z Z (λld=>?_) λld=>?_)<;>(try simp only[kL,zAg,zAz,zBv,zC2,zD0,zDm,zBd,zCg,zEn,zEm,zDt]at ld));(all_goals (repeat revert ld));first|done|(exact ge.h;done)|(exact ge.h.1;exact ge.h.2;done)|(exact ge.h.1;exact ge.h.2.1;exact ge.h.2.2;done)|(exact ge.h.1;exact ge.h.2.1;exact ge.h.2.2.1;exact ge.h.2.2.2;done)|(exact ge.h.1;exact ge.h.2.1;exact ge.h.2.2.1;exact ge.h.2.2.2.1;exact ge.h.2.2.2.2;done)|(exact ge.h.1;exact ge.h.2.1;exact ge.h.2.2.1;exact ge.h.2.2.2.1;exact ge.h.2.2.2.2.1;exact ge.h.2.2.2.2.2;done))):p:=h ⟨k⟩
def SK (k:q) (h:aJ q->p:=by(intro ge;((refine wL Z (λld=>?_) λld=>?_)<;>(try simp only[kL,zAg,zAz,zBv,zC2,zD0,zDm,zBd,zCg,zEn,zEm,zDt]at ld));(all_goals (repeat revert ld));first|done|(exact ge.h;done)|(exact ge.h.1;exact ge.h.2;done)|(exact ge.h.1;exact ge.h.2.1;exact ge.h.2.2;done)|(exact ge.h.1;exact ge.h.2.1;exact ge.h.2.2.1;exact ge.h.2.2.2;done)|(exact ge.h.1;exact ge.h.2.1;exact ge.h.2.2.1;exact ge.h.2.2.2.1;exact ge.h.2.2.2.2;done)|(exact ge.h.1;exact ge.h.2.1;exact ge.h.2.2.1;exact ge.h.2.2.2.1;exact ge.h.2.2.2.2.1;exact ge.h.2.2.2.2.2;done))):p:=h ⟨k⟩
def SM (k:q) (h:aJ q->p:=by(intro ge;((refine fY ?_;refine vd tok Z Z Z Z Z Z Z Z Z Z Z Z Z (by omega) (by omega) Z Z Z ?_));exact ge.h)):p:=h ⟨k⟩
def SL (k:q) (h:aJ q->p:=by(intro ge;(first|(refine yL ?_;refine wQ tok Z Z ?_)|(refine yI ?_;refine jE tok Z Z Z Z Z Z (by first|(intro y u;cases u;rfl)|exact yG _ _ (λ_=>rfl)) Z Z Z (by first|omega|(simp;done)|(simp;omega)) Z ?_));exact ge.h)):p:=h ⟨k⟩
def SE (k:q) (h:aJ q->p:=by(intro ge;((refine vE ?_;first|refine wO (YY (ms:=[_,_]) (ns:=[_,_]) tok Z Z Z Z Z Z Z vA vA vA (.inl ⟨rfl,rfl⟩)) Z ?_|refine wO (YY (ms:=[_,_]) (ns:=[_,_]) tok Z Z Z Z Z Z Z vA vA vA (.inr ⟨rfl,rfl⟩)) Z ?_|refine wO (YY (ms:=[_,_,_]) (ns:=[_,_,_]) tok Z Z Z Z Z Z Z vA vA vA (.inl ⟨rfl,rfl⟩)) Z ?_|refine wO (YY (ms:=[_,_,_]) (ns:=[_,_,_]) tok Z Z Z Z Z Z Z vA vA vA (.inr ⟨rfl,rfl⟩)) Z ?_));exact ge.h)):p:=h ⟨k⟩
def SF (k:q) (h:aJ q->p:=by(intro ge;((refine vE ?_;first|refine wO (YY (ms:=[_,_,_,_,_]) (ns:=[_,_,_,_,_]) tok Z Z Z Z Z Z Z vA vA vA (.inl ⟨rfl,rfl⟩)) Z ?_|refine wO (YY (ms:=[_,_,_,_,_]) (ns:=[_,_,_,_,_]) tok Z Z Z Z Z Z Z vA vA vA (.inr ⟨rfl,rfl⟩)) Z ?_));exact ge.h)):p:=h ⟨k⟩
def SR (k:q) (h:aJ q->p:=by(intro ge;(first|refine wF ?_|refine wB ?_|refine uW Z ?_|refine yT Z ?_|refine yH Z ?_|refine xO ?_|refine xP ?_|refine wA ?_|refine xE ?_);exact ge.h)):p:=h ⟨k⟩
def SX (k:q) (h:aJ q->p:=by(intro ge;(first|refine wF ?_|refine wB ?_|refine yT Z ?_|refine yH Z ?_|refine xO ?_|refine xP ?_|refine wA ?_);exact ge.h)):p:=h ⟨k⟩
def SN (k:q) (h:aJ q->p:=by(intro ge;(first|refine wF ?_|refine wB ?_|refine uW Z ?_|refine yT Z ?_|refine yH Z ?_|refine xO ?_|refine wA ?_|refine xE ?_);exact ge.h)):p:=h ⟨k⟩
def SQ (k:q) (h:aJ q->p:=by(intro ge;(first|refine wF ?_|refine wB ?_|refine uW Z ?_|refine xO ?_|refine xP ?_|refine wA ?_);exact ge.h)):p:=h ⟨k⟩
def SV (k:q) (h:aJ q->p:=by(intro ge;(first|refine wF ?_|refine wB ?_|refine uW Z ?_|refine yT Z ?_|refine yH Z ?_|refine xO ?_|refine xP ?_|refine wA ?_);exact ge.h)):p:=h ⟨k⟩
structure g9 (a:Prop):Prop where
 x:a
structure X6 (a b:Prop):Prop where
 x:a
 y:b
def xN (x:a):g9 a:=⟨x⟩
def yY (x:a) (y:b):X6 a b:=⟨x,y⟩
def YG (k:X6 a b) (h:a->b->p:=by(intro mt zy8;refine zG ?_;refine NH ?_;((refine UH Z Z (λld=>?_) λld=>?_)<;>(try simp only[kL,zAg,zAz,zBv,zC2,zD0,zDm,zBd,zCg,zEn,zEm,zDt]at ld));(all_goals (repeat revert ld));exact mt;exact zy8)):p:=h k.x k.y
def Jw (k:g9 a) (h:a->p:=by(intro mt;refine zG ?_;refine NH ?_;((refine UH Z Z (λld=>?_) λld=>?_)<;>(try simp only[kL,zAg,zAz,zBv,zC2,zD0,zDm,zBd,zCg,zEn,zEm,zDt]at ld));(all_goals (repeat revert ld));exact mt)):p:=h k.x
def YK (k:X6 a b) (h:a->b->p:=by(intro mt zy8;((refine wL Z (λld=>?_) λld=>?_)<;>(try simp only[kL,zAg,zAz,zBv,zC2,zD0,zDm,zBd,zCg,zEn,zEm,zDt]at ld));(all_goals (repeat revert ld));exact mt;exact zy8)):p:=h k.x k.y
def W6 (k:g9 a) (h:a->p:=by(intro mt;((refine wL Z (λld=>?_) λld=>?_)<;>(try simp only[kL,zAg,zAz,zBv,zC2,zD0,zDm,zBd,zCg,zEn,zEm,zDt]at ld));(all_goals (repeat revert ld));exact mt)):p:=h k.x
def YG0 (k:X6 a b) (h:a->b->p:=by(intro mt zy8;refine zG ?_;refine NH ?_;refine UH Z Z (λld=>?_) λld=>?_;(all_goals (repeat revert ld));exact mt;exact zy8)):p:=h k.x k.y
def YK0 (k:X6 a b) (h:a->b->p:=by(intro mt zy8;refine wL Z (λld=>?_) λld=>?_;(all_goals (repeat revert ld));exact mt;exact zy8)):p:=h k.x k.y
def qU (k:q) (h:aJ q->p:=by(intro ge;(first|refine WZ ?_|refine YG ?_|refine Jw ?_|refine SR ?_|refine YK ?_|refine W6 ?_);exact ge.h)):p:=h ⟨k⟩
def Az (k:q) (h:aJ q->p:=by(intro ge;(first|refine WZ ?_|refine YG ?_|refine Jw ?_|refine SX ?_);exact ge.h)):p:=h ⟨k⟩
def Ze (k:q) (h:aJ q->p:=by(intro ge;(first|refine WZ ?_|refine YG ?_|refine Jw ?_|refine SN ?_|refine YK ?_|refine W6 ?_);exact ge.h)):p:=h ⟨k⟩
def Ch (k:q) (h:aJ q->p:=by(intro ge;(first|refine WZ ?_|refine YG ?_|refine Jw ?_|refine SQ ?_);exact ge.h)):p:=h ⟨k⟩
def A7 (k:q) (h:aJ q->p:=by(intro ge;(first|refine WZ ?_|refine YG ?_|refine Jw ?_|refine SV ?_|refine YK ?_|refine W6 ?_);exact ge.h)):p:=h ⟨k⟩
def gM (k:q) (h:aJ q->p:=by(intro ge;(first|refine WY ?_|refine YG ?_|refine Jw ?_|refine SR ?_|refine YK ?_|refine W6 ?_);exact ge.h)):p:=h ⟨k⟩
def WYX (k:q) (h:aJ q->p:=by(intro ge;(first|refine WY ?_|refine YG ?_|refine Jw ?_|refine SX ?_);exact ge.h)):p:=h ⟨k⟩
def WTR (k:q) (h:aJ q->p:=by(intro ge;(first|refine WT ?_|refine YG ?_|refine Jw ?_|refine SR ?_|refine YK ?_|refine W6 ?_);exact ge.h)):p:=h ⟨k⟩
def aK (k:q) (h:aJ q->p:=by(intro ge;(first|refine WZ ?_|refine YG0 ?_|refine SR ?_|refine YK0 ?_);exact ge.h)):p:=h ⟨k⟩
def WW (k:q) (h:aJ q->p:=by(intro ge;(repeat' (first|refine WZ ?_|refine SG (I2 (λla=>?_) λla=>?_)|refine SG λla=>?_|(refine zG ?_;refine SM ?_)|refine SR ?_|refine SK (I2 (λla=>?_) λla=>?_)|refine SK λla=>?_|fail));(all_goals (repeat revert la));first|done|(exact ge.h;done)|(exact ge.h.1;exact ge.h.2;done)|(exact ge.h.1;exact ge.h.2.1;exact ge.h.2.2;done)|(exact ge.h.1;exact ge.h.2.1;exact ge.h.2.2.1;exact ge.h.2.2.2;done)|(exact ge.h.1;exact ge.h.2.1;exact ge.h.2.2.1;exact ge.h.2.2.2.1;exact ge.h.2.2.2.2;done)|(exact ge.h.1;exact ge.h.2.1;exact ge.h.2.2.1;exact ge.h.2.2.2.1;exact ge.h.2.2.2.2.1;exact ge.h.2.2.2.2.2;done))):p:=h ⟨k⟩
def WL (k:q) (h:aJ q->p:=by(intro ge;(repeat' (first|refine WY ?_|refine SG (I2 (λla=>?_) λla=>?_)|refine SG λla=>?_|(refine zG ?_;first|refine SL ?_|refine SM ?_)|refine SB ?_|refine SR ?_|refine SK (I2 (λla=>?_) λla=>?_)|refine SK λla=>?_|fail));(all_goals (repeat revert la));first|done|(exact ge.h;done)|(exact ge.h.1;exact ge.h.2;done)|(exact ge.h.1;exact ge.h.2.1;exact ge.h.2.2;done)|(exact ge.h.1;exact ge.h.2.1;exact ge.h.2.2.1;exact ge.h.2.2.2;done)|(exact ge.h.1;exact ge.h.2.1;exact ge.h.2.2.1;exact ge.h.2.2.2.1;exact ge.h.2.2.2.2;done)|(exact ge.h.1;exact ge.h.2.1;exact ge.h.2.2.1;exact ge.h.2.2.2.1;exact ge.h.2.2.2.2.1;exact ge.h.2.2.2.2.2;done))):p:=h ⟨k⟩
def WD (k:q) (h:aJ q->p:=by(intro ge;(repeat' (first|refine WZ ?_|refine SG (I2 (λla=>?_) λla=>?_)|refine SG λla=>?_|(refine zG ?_;refine SM ?_)|refine SX ?_|fail));(all_goals (repeat revert la));first|done|(exact ge.h;done)|(exact ge.h.1;exact ge.h.2;done)|(exact ge.h.1;exact ge.h.2.1;exact ge.h.2.2;done)|(exact ge.h.1;exact ge.h.2.1;exact ge.h.2.2.1;exact ge.h.2.2.2;done)|(exact ge.h.1;exact ge.h.2.1;exact ge.h.2.2.1;exact ge.h.2.2.2.1;exact ge.h.2.2.2.2;done)|(exact ge.h.1;exact ge.h.2.1;exact ge.h.2.2.1;exact ge.h.2.2.2.1;exact ge.h.2.2.2.2.1;exact ge.h.2.2.2.2.2;done))):p:=h ⟨k⟩
def eN {f:Nat} {fn:Func} {body:Code} {args:List AV} (O:prog.funcs[f]? =some fn) (u:bD prog f) (h:∀F:Fr (yV h0),F.ro=none/\F.it=false->uG prog F fn.ntmps body ⟨UA 0 args,h0⟩ (Fin TT fn.results.toList h0 r h1)) (hb:fn.body=some body:=by exact Z) (y:Nat.ble (ln args) fn.ntmps=true:=by exact Z) (M:vZ h0=true:=by exact Z) (z:vZ h1=true:=by exact Z) (I:Nat.ble fn.ntmps GS=true:=by rfl):wJ prog f args h0 r h1:=WA tok O hb u y M z h I
def zI {TT:List TI} {u:List ResultVar} (h:LQ TT st u=some vs:=by exact Z) (y:(yV h0).all (([]:List Nat).contains ·)=true:=by exact Z) (z:ZA (wR [] (zD st.h) (ES vs))=r:=by exact Z) (hh:vD [] (zD st.h)=h1:=by exact Z):Fin TT u h0 r h1 .ret st:=zH [] h y z hh
def ny{p:Prop}(h:p:=by(refine WL ?_;exact zI)):p:=h
def mx{p:Prop}(h:p:=by(refine WW ?_;exact zI)):p:=h
structure zT2 (A B:Prop):Prop where
  mk::(a1:A) (b1:B)
def xH (u:A) (y:B):zT2 A B:=⟨u,y⟩
def f9 (z:zT2 A B) (h:A->B->p):p:=h z.a1 z.b1
structure zT3 (A B C:Prop):Prop where
  mk::(a1:A) (b1:B) (c1:C)
def qS (u:A) (y:B) (z:C):zT3 A B C:=⟨u,y,z⟩
def c9 (z:zT3 A B C) (h:A->B->C->p):p:=h z.a1 z.b1 z.c1
structure zT4 (A B C D:Prop):Prop where
  mk::(a1:A) (b1:B) (c1:C) (d1:D)
def cX (u:A) (y:B) (z:C) (I:D):zT4 A B C D:=⟨u,y,z,I⟩
def o9 (z:zT4 A B C D) (h:A->B->C->D->p):p:=h z.a1 z.b1 z.c1 z.d1
structure zT5 (A B C D E:Prop):Prop where
  mk::(a1:A) (b1:B) (c1:C) (d1:D) (e1:E)
def KE (u:A) (y:B) (z:C) (I:D) (e1:E):zT5 A B C D E:=⟨u,y,z,I,e1⟩
def m9 (z:zT5 A B C D E) (h:A->B->C->D->E->p):p:=h z.a1 z.b1 z.c1 z.d1 z.e1
structure zT6 (A B C D E F:Prop):Prop where
  mk::(a1:A) (b1:B) (c1:C) (d1:D) (e1:E) (f1:F)
def BJ (u:A) (y:B) (z:C) (I:D) (e1:E) (M:F):zT6 A B C D E F:=⟨u,y,z,I,e1,M⟩
def l9 (z:zT6 A B C D E F) (h:A->B->C->D->E->F->p):p:=h z.a1 z.b1 z.c1 z.d1 z.e1 z.f1
structure zT7 (A B C D E F G:Prop):Prop where
  mk::(a1:A) (b1:B) (c1:C) (d1:D) (e1:E) (f1:F) (g1:G)
def V6 (u:A) (y:B) (z:C) (I:D) (e1:E) (M:F) (O:G):zT7 A B C D E F G:=⟨u,y,z,I,e1,M,O⟩
def s9 (z:zT7 A B C D E F G) (h:A->B->C->D->E->F->G->p):p:=h z.a1 z.b1 z.c1 z.d1 z.e1 z.f1 z.g1
structure zT8 (A B C D E F G H:Prop):Prop where
  mk::(a1:A) (b1:B) (c1:C) (d1:D) (e1:E) (f1:F) (g1:G) (h1:H)
def Hb (u:A) (y:B) (z:C) (I:D) (e1:E) (M:F) (O:G) (h1:H):zT8 A B C D E F G H:=⟨u,y,z,I,e1,M,O,h1⟩
def i9 (z:zT8 A B C D E F G H) (h:A->B->C->D->E->F->G->H->p):p:=h z.a1 z.b1 z.c1 z.d1 z.e1 z.f1 z.g1 z.h1
structure zT9 (A B C D E F G H I:Prop):Prop where
  mk::(a1:A) (b1:B) (c1:C) (d1:D) (e1:E) (f1:F) (g1:G) (h1:H) (i1:I)
def zt9 {I:Prop} (u:A) (y:B) (z:C) (M:D) (e1:E) (O:F) (R:G) (h1:H) (S:I):zT9 A B C D E F G H I:=⟨u,y,z,M,e1,O,R,h1,S⟩
def Z9 {I:Prop} (z:zT9 A B C D E F G H I) (h:A->B->C->D->E->F->G->H->I->p):p:=h z.a1 z.b1 z.c1 z.d1 z.e1 z.f1 z.g1 z.h1 z.i1
def yB (lc:Y) (k:q) (h:Y->aJ q->p:=by(intro lc ge;(first|refine f9 lc (λgt gv=>?_)|refine c9 lc (λgt gv ic=>?_)|refine o9 lc (λgt gv ic io=>?_)|refine m9 lc (λgt gv ic io kj=>?_)|refine l9 lc (λgt gv ic io kj lb=>?_)|refine s9 lc (λgt gv ic io kj lb lf=>?_)|refine i9 lc (λgt gv ic io kj lb lf lk=>?_)|refine Z9 lc (λgt gv ic io kj lb lf lk lp=>?_));(repeat' (first|refine WZ ?_|refine SG (I2 (λla=>?_) λla=>?_)|refine SG λla=>?_|(refine zG ?_;refine SM ?_)|refine SR ?_|refine SK (I2 (λla=>?_) λla=>?_)|refine SK λla=>?_|fail));(all_goals (repeat revert la));first|done|(exact ge.h;done)|(exact ge.h.1;exact ge.h.2;done)|(exact ge.h.1;exact ge.h.2.1;exact ge.h.2.2;done)|(exact ge.h.1;exact ge.h.2.1;exact ge.h.2.2.1;exact ge.h.2.2.2;done)|(exact ge.h.1;exact ge.h.2.1;exact ge.h.2.2.1;exact ge.h.2.2.2.1;exact ge.h.2.2.2.2;done)|(exact ge.h.1;exact ge.h.2.1;exact ge.h.2.2.1;exact ge.h.2.2.2.1;exact ge.h.2.2.2.2.1;exact ge.h.2.2.2.2.2;done))):p:=h lc ⟨k⟩
def ng{Y p:Prop}(k:Y)(h:Y->p:=by(intro k;refine yB k ?_;exact zI)):p:=h k
def zP (lc:Y) (k:q) (h:Y->aJ q->p:=by(intro gt ge;(repeat' (first|refine WZ ?_|refine SG (I2 (λla=>?_) λla=>?_)|refine SG λla=>?_|(refine zG ?_;refine SM ?_)|refine SR ?_|refine SK (I2 (λla=>?_) λla=>?_)|refine SK λla=>?_|fail));(all_goals (repeat revert la));first|done|(exact ge.h;done)|(exact ge.h.1;exact ge.h.2;done)|(exact ge.h.1;exact ge.h.2.1;exact ge.h.2.2;done)|(exact ge.h.1;exact ge.h.2.1;exact ge.h.2.2.1;exact ge.h.2.2.2;done)|(exact ge.h.1;exact ge.h.2.1;exact ge.h.2.2.1;exact ge.h.2.2.2.1;exact ge.h.2.2.2.2;done)|(exact ge.h.1;exact ge.h.2.1;exact ge.h.2.2.1;exact ge.h.2.2.2.1;exact ge.h.2.2.2.2.1;exact ge.h.2.2.2.2.2;done))):p:=h lc ⟨k⟩
def nl{Y p:Prop}(k:Y)(h:Y->p:=by(intro k;refine zP k ?_;exact zI)):p:=h k
def OJ (lc:Y) (k:q) (h:Y->aJ q->p:=by(intro lc ge;(first|refine f9 lc (λgt gv=>?_)|refine c9 lc (λgt gv ic=>?_)|refine o9 lc (λgt gv ic io=>?_)|refine m9 lc (λgt gv ic io kj=>?_)|refine l9 lc (λgt gv ic io kj lb=>?_)|refine s9 lc (λgt gv ic io kj lb lf=>?_)|refine i9 lc (λgt gv ic io kj lb lf lk=>?_)|refine Z9 lc (λgt gv ic io kj lb lf lk lp=>?_));(repeat' (first|refine WY ?_|refine SG (I2 (λla=>?_) λla=>?_)|refine SG λla=>?_|(refine zG ?_;first|refine SL ?_|refine SM ?_)|refine SB ?_|refine SR ?_|refine SK (I2 (λla=>?_) λla=>?_)|refine SK λla=>?_|fail));(all_goals (repeat revert la));first|done|(exact ge.h;done)|(exact ge.h.1;exact ge.h.2;done)|(exact ge.h.1;exact ge.h.2.1;exact ge.h.2.2;done)|(exact ge.h.1;exact ge.h.2.1;exact ge.h.2.2.1;exact ge.h.2.2.2;done)|(exact ge.h.1;exact ge.h.2.1;exact ge.h.2.2.1;exact ge.h.2.2.2.1;exact ge.h.2.2.2.2;done)|(exact ge.h.1;exact ge.h.2.1;exact ge.h.2.2.1;exact ge.h.2.2.2.1;exact ge.h.2.2.2.2.1;exact ge.h.2.2.2.2.2;done))):p:=h lc ⟨k⟩
def nm{Y p:Prop}(k:Y)(h:Y->p:=by(intro k;refine OJ k ?_;exact zI)):p:=h k
def VR (lc:Y) (k:q) (h:Y->aJ q->p:=by(intro gt ge;(repeat' (first|refine WY ?_|refine SG (I2 (λla=>?_) λla=>?_)|refine SG λla=>?_|(refine zG ?_;first|refine SL ?_|refine SM ?_)|refine SB ?_|refine SR ?_|refine SK (I2 (λla=>?_) λla=>?_)|refine SK λla=>?_|fail));(all_goals (repeat revert la));first|done|(exact ge.h;done)|(exact ge.h.1;exact ge.h.2;done)|(exact ge.h.1;exact ge.h.2.1;exact ge.h.2.2;done)|(exact ge.h.1;exact ge.h.2.1;exact ge.h.2.2.1;exact ge.h.2.2.2;done)|(exact ge.h.1;exact ge.h.2.1;exact ge.h.2.2.1;exact ge.h.2.2.2.1;exact ge.h.2.2.2.2;done)|(exact ge.h.1;exact ge.h.2.1;exact ge.h.2.2.1;exact ge.h.2.2.2.1;exact ge.h.2.2.2.2.1;exact ge.h.2.2.2.2.2;done))):p:=h lc ⟨k⟩
def pb{Y p:Prop}(k:Y)(h:Y->p:=by(intro k;refine VR k ?_;exact zI)):p:=h k
def u0 (lc:Y) (k:q) (h:Y->aJ q->p:=by(intro lc ge;(first|refine f9 lc (λgt gv=>?_)|refine c9 lc (λgt gv ic=>?_)|refine o9 lc (λgt gv ic io=>?_)|refine m9 lc (λgt gv ic io kj=>?_)|refine l9 lc (λgt gv ic io kj lb=>?_)|refine s9 lc (λgt gv ic io kj lb lf=>?_)|refine i9 lc (λgt gv ic io kj lb lf lk=>?_)|refine Z9 lc (λgt gv ic io kj lb lf lk lp=>?_));(repeat' (first|refine WZ ?_|refine SG (I2 (λla=>?_) λla=>?_)|refine SG λla=>?_|(refine zG ?_;refine SM ?_)|refine SX ?_|fail));(all_goals (repeat revert la));first|done|(exact ge.h;done)|(exact ge.h.1;exact ge.h.2;done)|(exact ge.h.1;exact ge.h.2.1;exact ge.h.2.2;done)|(exact ge.h.1;exact ge.h.2.1;exact ge.h.2.2.1;exact ge.h.2.2.2;done)|(exact ge.h.1;exact ge.h.2.1;exact ge.h.2.2.1;exact ge.h.2.2.2.1;exact ge.h.2.2.2.2;done)|(exact ge.h.1;exact ge.h.2.1;exact ge.h.2.2.1;exact ge.h.2.2.2.1;exact ge.h.2.2.2.2.1;exact ge.h.2.2.2.2.2;done))):p:=h lc ⟨k⟩
def WDo (lc:Y) (k:q) (h:Y->aJ q->p:=by(intro gt ge;(repeat' (first|refine WZ ?_|refine SG (I2 (λla=>?_) λla=>?_)|refine SG λla=>?_|(refine zG ?_;refine SM ?_)|refine SX ?_|fail));(all_goals (repeat revert la));first|done|(exact ge.h;done)|(exact ge.h.1;exact ge.h.2;done)|(exact ge.h.1;exact ge.h.2.1;exact ge.h.2.2;done)|(exact ge.h.1;exact ge.h.2.1;exact ge.h.2.2.1;exact ge.h.2.2.2;done)|(exact ge.h.1;exact ge.h.2.1;exact ge.h.2.2.1;exact ge.h.2.2.2.1;exact ge.h.2.2.2.2;done)|(exact ge.h.1;exact ge.h.2.1;exact ge.h.2.2.1;exact ge.h.2.2.2.1;exact ge.h.2.2.2.2.1;exact ge.h.2.2.2.2.2;done))):p:=h lc ⟨k⟩
def eM {f:Nat} {fn:Func} {body:Code} {args:List AV} (u:bD prog f) (h:∀F:Fr (yV h0),F.ro=none/\F.it=false->uG prog F fn.ntmps body ⟨UA 0 args,h0⟩ (Fin TT fn.results.toList h0 r h1)) (O:prog.funcs[f]? =some fn:=by exact Z) (hb:fn.body=some body:=by exact Z) (y:Nat.ble (ln args) fn.ntmps=true:=by exact Z) (M:vZ h0=true:=by exact Z) (z:vZ h1=true:=by exact Z) (I:Nat.ble fn.ntmps GS=true:=by rfl):wJ prog f args h0 r h1:=eN O u h hb y M z I
abbrev zO:=wJ prog
def LN (h:p:=by(apply gN;(exact zI);simp only[kL,zAz,zAg,zBd,zCg,zBv,zC2,zD0];omega)):p:=h
def JY (h:p:=by(exfalso;omega)):p:=h
def zB (h:p:=by omega):p:=h
def iA (n:Int):AV:= .s (.int .i64 n)
def yA (n:Int):AV:= .s (.int .u8 n)
def bA (b:Bool):AV:= .s (.bool b)
def zE (f:α->AV) (l:List α):AV:= .sl false (l.map f)
structure Cl where
 ag:Int
 id:Int
 ph:Int
 k:Int
 si:Int
structure Sv where
 ph:Int
 gr:Int
 en:List Int
structure Ph where
 ring:Int
 group:Int
 ming:Int
 maxg:Int
 yel:Int
 red:Int
 walk:Int
 clear:Int
structure Jn where
 ph:List Ph
 cf:List Int
 st:Int
structure Ag where
 sec:List Int
 rights:Int
 cls:Int
 lim:List Int
 req:Int
 ses:Int
 rate:Int
 burst:Int
structure Cf where
 js:List Jn
 ags:List Ag
 per:Int
 cap:Int
 hold:Int
 lock:Int
structure Tk where
 used:Bool
 sec:List Int
 par:Int
 rights:Int
 cls:Int
 til:Int
structure Vh where
 id:Int
 cls:Int
structure Bk where
 level:Int
 rate:Int
 burst:Int
structure Rg where
 num:Int
 ag:Ag
 tk:List Tk
 vh:List Vh
 bk:Bk
structure Ms where
 kind:Int
 tok:List Int
 args:List Int
 data:List Int
def uK (c:Cl):AV:= .agg [iA c.ag,iA c.id,iA c.ph,iA c.k,iA c.si]
def xZ (s:Sv):AV:= .agg [iA s.ph,iA s.gr,zE iA s.en]
def yU (p:Ph):AV:= .agg [iA p.ring,iA p.group,iA p.ming,iA p.maxg,iA p.yel,iA p.red,iA p.walk,iA p.clear]
def xC (j:Jn):AV:= .agg [zE yU j.ph,zE iA j.cf,iA j.st]
def wP (a:Ag):AV:= .agg [zE yA a.sec,iA a.rights,iA a.cls,zE iA a.lim,iA a.req,iA a.ses,iA a.rate,iA a.burst]
def vL (c:Cf):AV:= .agg [zE xC c.js,zE wP c.ags,iA c.per,iA c.cap,iA c.hold,iA c.lock]
def yK (t:Tk):AV:= .agg [bA t.used,zE yA t.sec,iA t.par,iA t.rights,iA t.cls,iA t.til]
def vB (v:Vh):AV:= .agg [iA v.id,iA v.cls]
def oq (b:Bk):AV:= .agg [iA b.level,iA b.rate,iA b.burst]
def kD (r:Rg):AV:= .agg [iA r.num,zE yA r.ag.sec,iA r.ag.rights,iA r.ag.cls,zE iA r.ag.lim,iA r.ag.req,iA r.ag.ses,iA r.ag.rate,iA r.ag.burst,zE yK r.tk,zE vB r.vh,iA r.bk.level,iA r.bk.rate,iA r.bk.burst]
def yO (m:Ms):AV:= .agg [iA m.kind,zE yA m.tok,zE iA m.args,zE yA m.data]
instance:Inhabited Tk:=⟨⟨false,[],-1,0,0,0⟩⟩
instance:Inhabited Vh:=⟨⟨0,0⟩⟩
instance:Inhabited Cl:=⟨⟨0,0,0,0,0⟩⟩
instance:Inhabited Ph:=⟨⟨0,0,0,0,0,0,0,0⟩⟩
instance:Inhabited Jn:=⟨⟨[],[],0⟩⟩
instance:Inhabited Ag:=⟨⟨[],0,0,[],0,0,0,0⟩⟩
def gN {TT:List TI} {y:List ResultVar} {e:Exit} {b u:Bool} (h:Fin TT y h0 (bA u) h1 e st) (hb:u=b):Fin TT y h0 (bA b) h1 e st:=hb▸h
def zJ [Inhabited α] (f:α->AV) (l:List α) (i:Nat) (h:i<ln l):(l.map f)[i]? =some (f (l.getD i dd)):=by simp[List.getD,h]
def yC [Inhabited α] (f:α->AV) (l:List α) (i:Int) (h0:0<=i) (h:i<ln l):(l.map f)[i.toNat]? =some (f (l.getD i.toNat dd)):=zJ f l _ (by omega)
theorem du (v n:Int) (h1:1<=n): -n<v.tmod n/\v.tmod n<n/\v % n=if v.tmod n<0 then v.tmod n+n else v.tmod n:=by
 have u:=zCx v (show n≠0 by omega);have e1:=zCq v (show 0<n by omega)
 grind [Int.tmod_eq_emod,Int.dvd_of_emod_eq_zero]
def JZ (v n:Int) (h1:1<=n) (h2:n<=1099511627776):wJ prog 11 [iA v,iA n] [] (iA (v % n)) []:=by
 obtain⟨u,y,e⟩:=du v n h1;by_cases h:v.tmod n<0
 .rw[e,Os h]
  (refine eM call11 λF hF=>?_)
  (repeat' (first|refine aK ?_|refine yY (λhc=>?_) λhc=>?_|fail))
  exact zI
 .rw[e,hW h]
  (refine eM call11 λF hF=>?_)
  (repeat' (first|refine aK ?_|refine yY (λhc=>?_) λhc=>?_|fail))
  exact zI
structure Dk where
 l:List Int
 a:Nat
 h:a<=l.length
 hl:l.length<=9223372036854775807
def cB (d:Dk):xM:= .box [zE iA d.l,iA d.a]
def nx (d:Dk) (n:Int):Int:=if d.a<ln d.l then d.l.getD d.a 0 % n else 0
def ad (d:Dk):Dk:=if h:d.a<ln d.l then⟨d.l,d.a+1,h,d.hl⟩else d
theorem yN (d:Dk) (n:Int) (h1:1<=n):0<=nx d n/\nx d n<n:=by
 unfold nx;split
 .exact⟨zCx _ (by omega),zCq _ (by omega)⟩
 .omega
def U6 (l:List Int) (hl:ln l<=9223372036854775807):wJ prog 8 [zE iA l] [] (.ptr 1000 0 0) [(1000,cB ⟨l,0,zAn _,hl⟩)]:=by
 (refine eM call8 λF hF=>?_)
 repeat' (first|refine vT tok Z Z ?_|(first|apply wF|apply wB|refine uW Z ?_|refine yT Z ?_|refine yH Z ?_|refine wL Z (λhc=>?_) λhc=>?_|apply xO|apply xP|apply wA|apply xE)|apply qV|refine qH (eK (v:= .agg _) 1000 Z Z) Z Z Z ?_)
 exact zV [1000] Z Z Z Z
def yR (d:Dk) (n:Int) (h1:1<=n) (h2:n<=1099511627776):wJ prog 16 [.ptr 1000 0 0,iA n] [(1000,cB d)] (iA (nx d n)) [(1000,cB (ad d))]:=by
 have hl:(d.l.map iA).length=ln d.l:=by simp
 have hb:=d.hl;by_cases h:d.a<ln d.l
 .have u:=yC iA d.l ((d.a:Int)+1-1) (by omega) (by omega);rw[show nx d n=d.l.getD ((d.a:Int)+1-1).toNat 0 % n by unfold nx;rw[Os h,show((d.a:Int)+1-1).toNat=d.a by omega]];rw[show ad d=⟨d.l,d.a+1,h,d.hl⟩ by unfold ad;rw[zFa h]]
  (refine eM call16 λF hF=>?_)
  (repeat' (first|refine aK ?_|refine yY (λhc=>?_) λhc=>?_|(apply zG;apply xJ;refine wO (zK (JZ _ _ h1 h2) Z Z Z Z Z) Z ?_)|fail))
  exact zV [1000] Z Z Z Z
 .rw[show nx d n=0 by unfold nx;rw[hW h],show ad d=d by unfold ad;rw[dif_neg h]]
  (refine eM call16 λF hF=>?_)
  (repeat' (first|refine aK ?_|refine yY (λhc=>?_) λhc=>?_|(apply zG;apply xJ;refine wO (zK (JZ _ _ h1 h2) Z Z Z Z Z) Z ?_)|fail))
  exact zV [1000] Z Z Z Z
def jD (d:Dk) (lo hi:Int) (h1:0<=lo) (h2:lo<=hi) (u:hi<=1000000000):wJ prog 68 [.ptr 1000 0 0,iA lo,iA hi] [(1000,cB d)] (iA (lo+nx d (hi-lo+1))) [(1000,cB (ad d))]:=by
 have hb:=yN d (hi-lo+1) (by omega)
 (refine eM call68 λF hF=>?_)
 (repeat' (first|refine aK ?_|refine yY (λhc=>?_) λhc=>?_|(apply zG;apply xJ;refine qH (zK (yR d _ (by omega) (by omega)) Z Z Z Z Z) Z Z Z ?_)|fail))
 exact zV [1000] Z Z Z Z
structure Lg where
 jn:Int
 ph:Int
 fr:Int
 to:Int
 sc:Int
variable {post gd:List Lg}
structure Rq where
 id:Int
 vh:Int
 cls:Int
 til:Int
 legs:List Lg
instance:Inhabited Lg:=⟨⟨0,0,0,0,0⟩⟩
instance:Inhabited Rq:=⟨⟨0,0,0,0,[]⟩⟩
def xK (l:Lg):AV:= .agg [iA l.jn,iA l.ph,iA l.fr,iA l.to,iA l.sc]
def yS (r:Rq):AV:= .agg [iA r.id,iA r.vh,iA r.cls,iA r.til,zE xK r.legs]
def Bh (j p f t ga:Int):Bool:=decide (0<=j/\j<4/\0<=p/\p<8/\0<=ga/\ga<=1073741824/\0<=f/\f<=t/\t<=600)
def Ig (j p f t ga:Int):Lg:=if Bh j p f t ga=true then⟨j,p,ga+f,ga+t,-1⟩else⟨0,0,0,0,0⟩
def GX (l:Lg):Bool:=decide (0<=l.jn/\l.jn<4/\0<=l.ph/\l.ph<8/\0<=l.fr/\l.fr<=l.to/\l.to<=2147483648/\ -1<=l.sc/\l.sc<=1073741824)
def BK (l:Lg) (ga:Int):Bool:=decide (l.fr<=ga/\ga<=l.to)
def ZB (l:Lg) (ga:Int):Lg:=if BK l ga=true then(if l.sc= -1 then⟨l.jn,l.ph,l.fr,l.to,ga⟩else l)else⟨l.jn,l.ph,l.fr,l.to,-1⟩
def qZ (n a b:Int):wJ prog 296 [iA n,iA a,iA b] [] (bA (decide (a<=n/\n<=b))) []:=by
 cases hb:decide (a<=n/\n<=b)with
 |false=>
  rw[zAz]at hb
  (refine eM call296 λF hF=>?_)
  (refine WW (I2 (λhc=>?_) λhc=>?_))
  all_goals (first|exact zI|(exfalso;omega)|(apply gN;(exact zI);simp only[kL,zAz,zAg,zBd,zCg,zBv,zC2,zD0];omega))
 |true=>
  rw[zAg]at hb
  (refine eM call296 λF hF=>?_)
  (refine WW ?_)
  all_goals (first|exact zI|(exfalso;omega)|(apply gN;(exact zI);simp only[kL,zAz,zAg,zBd,zCg,zBv,zC2,zD0];omega))
def BL (j p f t ga:Int):wJ prog 292 [iA j,iA p,iA f,iA t,iA ga] [] (.tup [xK (Ig j p f t ga),iA (if Bh j p f t ga=true then 0 else 8)]) []:=by
 have u:=qZ j 0 3;have y:=qZ p 0 7;have z:=qZ ga 0 1073741824;have I:=qZ f 0 t;unfold Ig
 cases hb:Bh j p f t ga with
 | false=>
  rw[hW zAs,hW zAs];unfold Bh at hb;rw[zAz]at hb;unfold xK;by_cases h1:0<=j/\j<=3
  case neg=>
   rw[zAb h1]at u
   (refine eM call292 λF hF=>?_)
   (have gt:=u;refine WW ?_;clear gt)
   exact zI
  rw[zAc h1]at u;by_cases h2:0<=p/\p<=7
  case neg=>
   rw[zAb h2]at y
   (refine eM call292 λF hF=>?_)
   (have gt:=u;have gv:=y;refine WW ?_;clear gt gv)
   exact zI
  rw[zAc h2]at y;by_cases M:0<=ga/\ga<=1073741824
  case neg=>
   rw[zAb M]at z
   (refine eM call292 λF hF=>?_)
   (have gt:=u;have gv:=y;have ic:=z;refine WW ?_;clear gt gv ic)
   exact zI
  rw[zAc M]at z;by_cases O:0<=f/\f<=t
  case neg=>
   rw[zAb O]at I
   (refine eM call292 λF hF=>?_)
   (have gt:=u;have gv:=y;have ic:=z;have io:=I;refine WW ?_;clear gt gv ic io)
   exact zI
  rw[zAc O]at I
  (refine eM call292 λF hF=>?_)
  (have gt:=u;have gv:=y;have ic:=z;have io:=I;refine WW ?_;clear gt gv ic io)
  all_goals (first|exact zI|(exfalso;omega))
 |true=>
  rw[Os Z,Os Z];unfold Bh at hb;rw[zAg]at hb;rw[zAc (by omega)]at u y z I;unfold xK
  (refine eM call292 λF hF=>?_)
  (have gt:=u;have gv:=y;have ic:=z;have io:=I;refine WW ?_;clear gt gv ic io)
  exact zI
def o0 (l:Lg) (ga:Int):wJ prog 274 [xK l,iA ga] [] (bA (BK l ga)) []:=by
 (cases hb:BK l ga with|false=>((refine eM call274 λF hF=>?_);((refine WW (I2 (λhc=>?_) λhc=>?_)));all_goals (first|exact zI|(simp only[BK,zAz]at hb;first|(exfalso;omega)|(apply gN;(exact zI);simp only[kL,zAz,zAg,zBd,zCg,zBv,zC2,zD0];omega))))|true=>(simp only[BK,zAg]at hb;(refine eM call274 λF hF=>?_);((refine WW ?_));all_goals (first|exact zI|(exfalso;omega)|(apply gN;(exact zI);simp only[kL,zAz,zAg,zBd,zCg,zBv,zC2,zD0];omega))))
def Ye (l:Lg) (ga:Int):wJ prog 247 [xK l,iA ga] [] (bA (BK l ga)) []:=by
 have c:=qZ ga l.fr l.to;unfold BK;generalize decide (l.fr<=ga/\ga<=l.to)=b at*
 (refine eM call247 λF hF=>?_)
 (have gt:=c;refine WW ?_;clear gt)
 exact zI
def jV (l:Lg) (ga:Int):wJ prog 194 [xK l,iA ga] [] (xK (ZB l ga)) []:=by
 have c:=Ye l ga;unfold ZB;generalize BK l ga=b at*
 cases b with
 |false=>
  rw[hW zAs];unfold xK at*
  (refine eM call194 λF hF=>?_)
  (have gt:=c;refine WW ?_;clear gt)
  exact zI
 | true=>
  rw[Os Z];by_cases h:l.sc= -1
  .rw[Os h];unfold xK at*
   (refine eM call194 λF hF=>?_)
   (have gt:=c;refine WW ?_;clear gt)
   exact zI
  .rw[hW h];unfold xK at*
   (refine eM call194 λF hF=>?_)
   (have gt:=c;refine WW ?_;clear gt)
   exact zI
def Hg (l:Lg):wJ prog 369 [xK l] [] (bA (GX l)) []:=by
 have u:=qZ l.jn 0 3;have y:=qZ l.ph 0 7;have z:=qZ l.fr 0 l.to;have I:=qZ l.sc (-1) 1073741824
 cases hb:GX l with
 | false=>
  unfold GX at hb;rw[zAz]at hb;by_cases h1:0<=l.jn/\l.jn<=3
  case neg=>
   rw[zAb h1]at u
   (refine eM call369 λF hF=>?_)
   (have gt:=u;refine WW ?_;clear gt)
   exact zI
  rw[zAc h1]at u;by_cases h2:0<=l.ph/\l.ph<=7
  case neg=>
   rw[zAb h2]at y
   (refine eM call369 λF hF=>?_)
   (have gt:=u;have gv:=y;refine WW ?_;clear gt gv)
   exact zI
  rw[zAc h2]at y;by_cases M:0<=l.fr/\l.fr<=l.to
  case neg=>
   rw[zAb M]at z
   (refine eM call369 λF hF=>?_)
   (have gt:=u;have gv:=y;have ic:=z;refine WW ?_;clear gt gv ic)
   exact zI
  rw[zAc M]at z;by_cases O: -1<=l.sc/\l.sc<=1073741824
  case neg=>
   rw[zAb O]at I
   (refine eM call369 λF hF=>?_)
   (have gt:=u;have gv:=y;have ic:=z;have io:=I;refine WW (I2 (λhc=>?_) λhc=>?_)<;>clear gt gv ic io)
   all_goals (first|exact zI|(exfalso;omega))
  rw[zAc O]at I
  (refine eM call369 λF hF=>?_)
  (have gt:=u;have gv:=y;have ic:=z;have io:=I;refine WW ?_;clear gt gv ic io)
  all_goals (first|exact zI|(exfalso;omega))
 |true=>
  unfold GX at hb;rw[zAg]at hb;rw[zAc (by omega)]at u y z I
  (refine eM call369 λF hF=>?_)
  (have gt:=u;have gv:=y;have ic:=z;have io:=I;refine WW ?_;clear gt gv ic io)
  all_goals (first|exact zI|(exfalso;omega))
def kT:List Lg->List Lg->Bool
 |_,[]=>true
 |gd,x::post=>GX x&&(!(gd.any λy=>y.jn==x.jn)&&kT (gd++[x]) post)
def Gb (l:List Lg):Bool:=decide (1<=(ln l:Int)/\(ln l:Int)<=3)&&kT [] l
def cu {x:Lg} (h:GX x=false):kT gd (x::post)=false:=by simp[kT,h]
theorem pu {x y:Lg} (u:y∈gd) (h:y.jn=x.jn):kT gd (x::post)=false:=by grind [kT]
theorem Gg {x:Lg} (h:GX x=true) (u:∀y∈gd,y.jn≠x.jn):kT gd (x::post)=kT (gd++[x]) post:=by grind [GX,kT]
def wN (n a b:Int):wJ prog 334 [iA n,iA a,iA b] [] (bA (decide (a<=n/\n<=b))) []:=by
 cases hb:decide (a<=n/\n<=b)with
 |false=>
  rw[zAz]at hb
  (refine eM call334 λF hF=>?_)
  (refine WW (I2 (λhc=>?_) λhc=>?_))
  all_goals (first|exact zI|(exfalso;omega)|(apply gN;(exact zI);simp only[kL,zAz,zAg,zBd,zCg,zBv,zC2,zD0];omega))
 |true=>
  rw[zAg]at hb
  (refine eM call334 λF hF=>?_)
  (refine WW ?_)
  all_goals (first|exact zI|(exfalso;omega)|(apply gN;(exact zI);simp only[kL,zAz,zAg,zBd,zCg,zBv,zC2,zD0];omega))
def GY (l:List Lg) (hn:ln l<=1000000):wJ prog 335 [zE xK l] [] (bA (Gb l)) []:=by
 have hl:=zA xK l;have cw:=wN ((l.map xK).length:Int) 1 3;have e:decide (1<=((l.map xK).length:Int)/\((l.map xK).length:Int)<=3)=decide (1<=(ln l:Int)/\(ln l:Int)<=3):=by rw[hl]
 rw[e]at cw;clear e;unfold Gb
 (refine eM call335 λF hF=>?_)
 (refine WW ?_)
 (refine kU (l) [] [] [0,7,8] [9,0,7,8] Z (λi gd T U X=>(∀post,l=gd++post->kT [] l=kT gd post)/\X=⟨(9,iA i)::T,U⟩) (Lp ?_ ?_ ?_))
 .exact⟨λpost h=>by rw[h];rfl,rfl⟩
 .rintro i gd x post st hx hi ⟨hp,rfl⟩;have hy:=zY xK hx hi;have ar:=zX hx hi;rw[hp _ hx];have M:=Hg x
  have u:GX x=true->(∀y∈gd,y.jn≠x.jn)->∀p,l=(gd++[x])++p->kT gd (x::post)=kT (gd++[x]) p:=λa b p h=>by
   have e:p=post:=by rw[hx,zA2]at h;simpa using h.symm
   rw[e];exact Gg a b
  cases hv:GX x with
  |false=>
   rw[cu hv,zB3];rw[hv]at M;clear hx hp u
   (have gt:=M;refine WW ?_;clear gt)
   exact zI
  | true=>
   rw[hv]at M;have V:l.take i=gd:=by rw[hx,<-hi];simp
   have ag:(List.map xK (pi (i:Int).toNat l)).length=(l.take i).length:=zA xK (l.take i);have ap:(l.take i).length=i:=by rw[V];exact hi
   (have gt:=M;refine WW ?_;clear gt)
   (refine kU (l.take i) [4] [4] [0,4,7,8,9,19,20] [21,0,4,7,8,9,19,20] Z (λi gd T U X=>(∀y∈gd,y.jn≠x.jn)/\X=⟨(21,iA i)::T,U⟩) (Lp ?_ ?_ ?_))
   .exact⟨by simp,rfl⟩
   .rintro k pr y po W I hk ⟨hp2,rfl⟩;have au:=zY xK I hk;have ac:=zX I hk;by_cases he:y.jn=x.jn
    .rw[pu (by rw[<-V,I];simp) he,zB3];clear I hx hp u
     exact mx
    .have S:∀z∈pr++[y],z.jn≠x.jn:=λz O=>by
      simp only[zAy,zA8]at O
      rcases O with O|rfl
      .exact hp2 z O
      .exact he
     clear I hx hp u
     (refine WW ?_)
     exact⟨S,rfl⟩
   .rintro W ⟨hp2,rfl⟩;have R:=u hv (by rw[<-V];exact hp2);clear hx hp u
    (refine WW ?_)
    exact⟨R,rfl⟩
 .rintro st ⟨hp,rfl⟩;rw[hp [] yE,show kT l []=true from rfl,zCv];generalize decide (1<=(ln l:Int)/\(ln l:Int)<=3)=b at*
  (have gt:=cw;refine WW ?_;clear gt)
  exact zI
structure RqO (r:Rq):Prop where
 i0:0<=r.id
 i1:r.id<=4294967295
 v0:0<=r.vh
 v1:r.vh<=4294967295
 c0:0<=r.cls
 c1:r.cls<=3
 t0:0<=r.til
 t1:r.til<=2147483648
 lg:Gb r.legs=true
structure VI (l:List Rq):Prop where
 ok:∀r∈l,RqO r
 so:l.Pairwise λa b=>a.id<b.id
 n4:l.length<=4
theorem VI.lt {l:List Rq} (h:VI l) {i:Nat} (h0:0<i) (hi:i<ln l):(l.getD (i-1) dd).id<(l.getD i dd).id:=by
 have:=List.pairwise_iff_getElem.1 h.so (i-1) i (by omega) hi (by omega)
 grind
theorem TE {l:List Lg} (h:Gb l=true):1<=(ln l:Int)/\(ln l:Int)<=3:=by grind [Gb]
def YX (l:List Rq) (q:Int) (hv:VI l) (hq:(ln l:Int)<=q):wJ prog 295 [zE yS l,iA q] [] (bA true) []:=by
 have hl:=zA yS l;have h4:=hv.n4
 (refine eM call295 λF hF=>?_)
 (refine WW ?_)
 (refine zM (ln l) [] [] [0,1,7,8] [9,0,1,7,8] Z (λi T U=>⟨(9,iA i)::T,U⟩) (Lq ?_ ?_))
 .intro i hi;have hy:=zJ yS l i hi;have I:l.getD i dd∈l:=by simp[List.getD,hi]
  obtain⟨i0,i1,v0,v1,c0,c1,t0,t1,y⟩:=hv.ok _ I;have M:=wN (l.getD i dd).id 0 4294967295;have O:=wN (l.getD i dd).vh 0 4294967295;have R:=wN (l.getD i dd).cls 0 3;have V:=wN (l.getD i dd).til 0 2147483648;have S:=GY (l.getD i dd).legs (by have:=TE y;omega);rw[zAc (by omega)]at M O R V;rw[y]at S;by_cases z:0<i
  .have u:=yC yS l ((i:Int)-1) (by omega) (by omega);rw[show((i:Int)-1).toNat=i-1 by omega]at u;have X:(l.map yS)[((i:Int)-1).toNat]? =some (yS (l.getD (i-1) dd)):=by rw[show((i:Int)-1).toNat=i-1 by omega];exact u
   have W:=hv.lt z hi;clear u I y;generalize l.getD i dd=t,l.getD (i-1) dd=p at *
   (have gt:=M;have gv:=O;have ic:=R;have io:=V;have kj:=S;refine WW ?_;clear gt gv ic io kj)
   rfl
  .obtain rfl:i=0:=by omega
   clear I y;generalize l.getD 0 dd=t at*
   (have gt:=M;have gv:=O;have ic:=R;have io:=V;have kj:=S;refine WW ?_;clear gt gv ic io kj)
   rfl
 .exact mx
def GZ (n:Int) (i:Nat):Int:=IntKind.u8.wrap (BitVec.ofInt IntKind.u8.bits (IntKind.u8.wrap ((IntKind.u64.wrap n).fdiv (2 ^ (min (8*(i:Int)).toNat IntKind.u64.bits)))) ^^^ BitVec.ofInt IntKind.u8.bits (29*(i:Int)+7)).toNat
def eV (n:Int):List Int:=(pg 8).map (GZ n)
def fO (n:Int):wJ prog 35 [iA n] [] (zE yA (eV n)) []:=by
 have I:∀i:Nat,((pg i).map (GZ n)).map yA=((pg i).map (GZ n)).map yA:=λ_=>rfl
 (refine eM call35 λF hF=>?_)
 (repeat' (first|refine aK ?_|refine yY (λhc=>?_) λhc=>?_|fail))
 refine zW 3 1001 1 Z Z Z ?_
 refine wH (λk st=>∃i:Nat,k+i=8/\st=⟨[(0,iA n),(3,.ref 1001 0 (((pg i).map (GZ n)).map yA).length),(5,iA i)],[(1001,.arr 1 (((pg i).map (GZ n)).map yA) true)]⟩)
  8 [1001] [0,3,5] Z ⟨0,rfl,rfl⟩ ?_
 rintro k st ⟨i,hi,rfl⟩;by_cases u:i<8
 .have y:((pg (i+1)).map (GZ n)).map yA=((pg i).map (GZ n)).map yA++[yA (GZ n i)]:=by rw[zB4];simp
  have z:((pg i).map (GZ n)).length=i:=by simp
  (repeat' (first|refine aK ?_|refine yY (λhc=>?_) λhc=>?_|fail))
  exact⟨k-1,by omega,i+1,by omega,by rw[y];rfl⟩
 .obtain rfl:i=8:=by omega
  (repeat' (first|refine aK ?_|refine yY (λhc=>?_) λhc=>?_|fail))
  exact zH [] Z Z (zAt (AV.sl false) zAa) Z
def nq (d:Dk):Dk:=ad (ad (ad (ad (ad (ad (ad d))))))
def wn (d:Dk) (y u:Int):Ag:=⟨eV (1000+y),u,3,[1+nx d (3-1+1),1+nx (ad d) (3-1+1),nx (ad (ad d)) 3,nx (ad (ad (ad d))) 3],1+nx (ad (ad (ad (ad d)))) (3-1+1),1+nx (ad (ad (ad (ad (ad d))))) (2-1+1),
 1+nx (ad (ad (ad (ad (ad (ad d)))))) (3-1+1),1+nx (ad (ad (ad (ad (ad (ad d)))))) (3-1+1)+nx (nq d) 5⟩
def vn (d:Dk) (y u:Int) (h0:0<=y) (h1:y<=1000):wJ prog 92 [.ptr 1000 0 0,iA y,iA u] [(1000,cB d)] (wP (wn d y u)) [(1000,cB (ad (nq d)))]:=by
 have hb:=yN (ad (ad (ad (ad (ad (ad d)))))) (3-1+1) (by omega);have I:=yN (nq d) 5 (by omega);have z:=fO (1000+y);unfold wn nq at *;generalize eV (1000+y)=M at*
 (refine eM call92 λF hF=>?_)
 (repeat' (first|refine aK ?_|refine yY (λhc=>?_) λhc=>?_|(apply zG;apply xJ;(first|(refine vF 35 ?_;first|refine wO (zK (z) Z Z Z Z Z) Z ?_|refine qH (zK (z) Z Z Z Z Z) Z Z Z ?_|refine bX (zK (z) Z Z Z Z Z) Z Z Z ?_)|(refine vF 68 ?_;first|refine wO (zK (jD _ _ _ (by omega) (by omega) (by omega)) Z Z Z Z Z) Z ?_|refine qH (zK (jD _ _ _ (by omega) (by omega) (by omega)) Z Z Z Z Z) Z Z Z ?_|refine bX (zK (jD _ _ _ (by omega) (by omega) (by omega)) Z Z Z Z Z) Z Z Z ?_)|(refine vF 16 ?_;first|refine wO (zK (yR _ _ (by omega) (by omega)) Z Z Z Z Z) Z ?_|refine qH (zK (yR _ _ (by omega) (by omega)) Z Z Z Z Z) Z Z Z ?_|refine bX (zK (yR _ _ (by omega) (by omega)) Z Z Z Z Z) Z Z Z ?_)))|fail))
 exact zV [1000] Z Z Z Z
