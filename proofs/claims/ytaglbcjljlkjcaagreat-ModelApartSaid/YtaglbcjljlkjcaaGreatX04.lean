/- Part 4. -/
import Derived.Test.YtaglbcjljlkjcaaGreatX03
import Derived.Lib.Overlaps
import Derived.LoopNIn
namespace Go.Proofs.YtaglbcjljlkjcaaGreat.Av
set_option linter.all false
open List renaming length->ln,replicate->pb
open Inhabited renaming default->dd
variable {Q:Exit->St->Prop}{vs xs ys:List AV}{L T c e k len sz:Nat}{s x:Operand}{st:St}{te ti:TI}{w:World}{β:uP}{h:yT}
mutual
def MT (k L:Nat):AV->Prop
 | .ref j off len=>j=k->off=0/\len=L
 | .ptr j _ _=>j≠k
 | .agg cs| .fn _ cs| .tup cs=>fT k L cs
 |_=>True
def fT (k L:Nat):List AV->Prop
 | []=>True
 |v::r=>MT k L v/\fT k L r
end
def FO (k L:Nat):List (Nat×AV)->Prop
 | []=>True
 |(_,v)::r=>MT k L v/\FO k L r
def FQ (k L:Nat):List (Nat×xV)->Prop
 | []=>True
 |(_,e)::r=>(match e with
  | .box cs=>fT k L cs
  | .obj cs=>True
  | .arr _ xs u=>u.nest=false\/fT k L xs
  | .dead=>True)/\FQ k L r
theorem fT.at :∀{cs:List AV} {i:Nat} {v:AV},fT k L cs->cs[i]? =some v->MT k L v
 | [],_,_,_,h=>by simp at h
 |x::r,0,v,hk,h=>by simp at h;subst h;exact hk.1
 |x::r,i+1,v,hk,h=>fT.at hk.2 MJ
theorem FO.at :∀{u:List (Nat×AV)},FO k L u->∀t,MT k L (zK u t)
 | [],_,t=>trivial
 |(j,v)::r,h,t=>by
  rw[xF];split
  .exact h.1
  .exact FO.at h.2 t
theorem FQ.at :∀{h:List (Nat×xV)} {j:Nat} {e:xV},FQ k L h->zD h j=some e->match e with
  | .box cs=>fT k L cs
  | .obj cs=>True
  | .arr _ xs z=>z.nest=false\/fT k L xs
  | .dead=>True
 | [],_,_,_,u=>by simp[zD]at u
 |(i,e0)::r,j,e,h,u=>by
  rw[xK]at u;split at u
  .cases u;exact h.1
  .exact FQ.at h.2 u
theorem MT.cells {x:AV} (h:MT k L x):fT k L x.cells:=by
 cases x<;>first
  |exact h
  |exact⟨h,trivial⟩
theorem yK.whole {D D':Nat->Prop} {h':yT} {β':uP} (k L:Nat) (G:∀b,D' b->D b) (hh:∀j,j≠k->h' j=h j) (hβ:∀j,j≠k->β' j=β j) (O:∀c,yK w D h β (.ref k 0 L) c->yK w D' h' β' (.ref k 0 L) c) {v:AV} {c:Value} (hv:yK w D h β v c):MT k L v->yK w D' h' β' v c:=by
 have u:∀{off len j c},(j=k->off=0/\len=L)->yK w D h β (.ref j off len) c->(j≠k->yK w D' h' β' (.ref j off len) c)->yK w D' h' β' (.ref j off len) c:=λ{off len j c} h1 h2 h3=>by
  grind
 induction hv with
 |fz v c I=>exact λ_=> .fz v c (I.less G)
 |agg cs c hl h1 C B=>exact λhk=> .agg cs c hl h1 λi v hv=>B i v hv (fT.at hk hv)
 |fn f z c hl C B=>exact λhk=> .fn f z c hl λi v hv=>B i v hv (fT.at hk hv)
 |tup vs c hl C B=>exact λhk=> .tup vs c hl λi v hv=>B i v hv (fT.at hk hv)
 |dref j off len c hk' h1=>exact λhk=>u hk (.dref j off len c hk' h1) λhj=> .dref j off len c MM h1
 |dptr j i off c hk' h1=>exact λhk=> .dptr j i off c qn h1
 |ref j off len sz xs st b n cap hk' hb A hc E=>exact λhk=>u hk (.ref j off len sz xs st b n cap hk' hb A hc E) λhj=> .ref j off len sz xs st b n cap MM Qf A hc E
 |ref0 j off sz xs st a hk' A=>exact λhk=>u hk (.ref0 j off sz xs st a hk' A) λhj=> .ref0 j off sz xs st a MM A
 |pbox j off cs b n hk' hb=>exact λhk=> .pbox j off cs b n qn (by rw[hβ j hk];exact hb)
 |parr j i off sz xs st b n hk' hb hi M=>exact λhk=> .parr j i off sz xs st b n qn (by rw[hβ j hk];exact hb) hi M
section
variable {P:Program} {K0:List Nat} {F:Fr K0} {m:Nat} {tm:List (Nat×AV)} {h:List (Nat×xV)}
end
section
variable {P:Program} {TT:List TI} {K0:List Nat} {F:Fr K0} {m:Nat} {ops:Array Oper} {dr:Bool} {rest:List Oper} {fs:List FP} {Q:List FP->St->Prop} {tm:List (Nat×AV)} {h:List (Nat×xV)} {ty:Nat} {pos:String} {after:Array Edge} {t:Nat}
def qF (k:Nat) (E:uW P TT) {C:Array (Nat×Operand)} (hT:TT[T]? =some ti) (hd:ti.d= .slice e) (G:TT[e]? =some te) (M:Nat.ble 1 te.size=true) (z:bW ⟨tm,h⟩ C=(xs.zipIdx 0).map λx=>(x.2,x.1)) (hl:Nat.beq (ln xs) len=true)
 (O:xs.all (λx=>Nat.beq (ln x.cells) te.size&&x.ok)=true) (hb:Nat.ble (len*te.size) 65536=true) (B:Nat.beq (ln te.zero) te.size=true) (I:Nat.blt t m=true) (u:(zD h k).isNone=true)
 (A:te.size=sz) (hk:yP P F m ops dr rest ⟨(t,.ref k 0 len)::tm,(k,.arr sz xs ⟨false,true⟩)::h⟩ (⟨true,[k,k],[]⟩::fs) Q):yP P F m ops dr (⟨some t,.buildSlice T len C,ty,pos,after,none⟩::rest) ⟨tm,h⟩ fs Q:=by
 subst A;exact qA (nw:=[k]) (PC E k hT hd G M z hl O hb B) I (Gc u) Z hk
end
structure E7 (P:Program) (st:St) (op:Op) (O:AV->List (Nat×xV)->Prop) (r nw:List Nat):Prop where
 run:∀(X:Nat->Prop) (tm:Nat->AV) (h:yT),(∀t,t∈fO op->tm t=zK st.tm t)->(∀k,k∈r->h k=zD st.h k)->(∀k,k∈nw->h k=none)->∀(o:Oper) (a:Act) (w:World) (β:uP),o.op=op->jM X h β w->(∀t,yK w (xT X β) h β (tm t) (a.eval (.tmp t)))->
  aP P (λc w'=>∃v d,O v d/\∃β',xU X w h β w' (over d h) β'/\yK w' (xT X β') (over d h) β' v c) ((execOp a.eval o).run P w)
section
variable {P:Program} {K0:List Nat} {F:Fr K0} {m:Nat} {ops:Array Oper} {rest:List Oper} {fs fs':List FP} {Q:List FP->St->Prop} {tm:List (Nat×AV)} {h:List (Nat×xV)} {op:Op} {ty:Nat} {pos:String} {after:Array Edge} {t:Nat} {r nw:List Nat} {O:AV->List (Nat×xV)->Prop}
def x_m (hs:E7 P ⟨tm,h⟩ op O r nw) (Y:Nat.blt t m=true) (hn:nw.all (λj=>(zD h j).isNone)=true) (hd:∀v d,O v d->uB d=true) (hk:∀v d,O v d->yP P F m ops false rest ⟨(t,v)::tm,d++h⟩ fs' Q):
  yP P F m ops false (⟨some t,op,ty,pos,after,none⟩::rest) ⟨tm,h⟩ fs Q:=⟨λa w R=>wpListIn_plain Z λK U=>by
 obtain⟨⟨X,β,V,A,B,C,S,M⟩,nd,gs,hl⟩:=R;refine aP.wp (hs.run X (zK tm) (zD h) (λ_ _=>rfl) (λ_ _=>rfl) (λk hk=>by have:=zBk.1 hn k hk;simpa using this) ⟨some t,op,ty,pos,after,none⟩ a w β rfl A B) ?_;rintro c w' ⟨v,d,hO,β',G,hc⟩;have u:=hd v d hO
 have z:∀k,over d (zD h) k≠some .dead:=λk=>by
  unfold over;split
  .rename_i e W;intro I;cases I;exact qI u W
  .exact nd k
 refine U _ _ ((hk v d hO).run _ _ ?_);have E:=VC.put V A B C S M gs hl G z hc (some t) (λj hj=>by cases hj;exact zBo Y)
 have e1:zK ((t,v)::tm)=λj=>if some t=some j then v else zK tm j:=funext λj=>by rw[xF];simp[eq_comm]
 show VC F m (zK ((t,v)::tm)) (zD (d++h)) _ _
 rw[e1,vF]
 exact E⟩
end
section
variable {P:Program} {st:St}
end
def dG (sz:Nat):AV:= .agg (pb sz .bot)
section
variable {P:Program} {TT:List TI} {st:St}
theorem zi {X:Nat->Prop} (HH:jM X h β w) {k N:Nat} {cx:Value} (hk':h k=some (.arr sz xs ⟨false,false⟩)) (h1:yK w (xT X β) h β (.ref k 0 len) cx) (hl:1<=len) (hN:ln xs<=N) (az:N<=1073741824):
  ∃b cap,cx= .slice (some ⟨b,0*sz,none⟩) len cap/\(N<=cap->∃β',xU X w h β w (over [(k,.arr sz (xs++pb (N-xs.length) (dG sz)) ⟨false,false⟩)] h) β'):=by
 cases h1 with
 |fz _ _ hf=>cases hf
 |dref _ _ _ _ hd _=>rw[hk']at hd;cases hd
 |ref0 _ _ au av st' b M hn=>omega
 | ref _ _ _ au av st' b n cap M hb hn hc ar=>
  have h3:=M;rw[hk']at h3;cases h3;refine⟨b,cap,rfl,λax=>?_⟩;obtain⟨g1,g2,g3,g4,g5,f,g6,g7,g8⟩:=HH.ent k _ hk'
  obtain⟨V,hbk,ap,O⟩:∃V,β k=(b,n)::V/\n=ln xs/\∀C A,(C,A)∈V->A=0:=by
   cases hbk:β k with
   |nil=>rw[hbk]at hb;simp at hb
   |cons q r=>
    obtain⟨b0,n0⟩:=q;obtain⟨e1,S,_⟩:=g5 b0 n0 r hbk;have S:=S Z;rw[hbk]at hb;simp at hb
    rcases hb with⟨rfl,rfl⟩|u
    .exact⟨r,rfl,e1,S⟩
    .have:=S b n u;omega
  subst ap;obtain⟨c,el,c1,c2,c3,c4⟩:=g8 b _ hb
  have ac:c.size=cap*sz:=by
   have:wO w b=c.size:=by unfold wO World.shape?;rw[c1];rfl
   rw[<-this,<-ar,zCn]
  have Y:N*sz<=c.size:=by rw[ac];exact zBt _ (by omega)
  have z:(xs++pb (N-xs.length) (dG sz)).length=N:=by simp;omega
  have R:∀(i:Nat) y,(xs++pb (N-xs.length) (dG sz))[i]? =some y->(i<ln xs/\xs[i]? =some y)\/(¬i<ln xs/\i<N/\y=dG sz):=λi y B=>by
   by_cases hi:i<ln xs
   .rw[zB9 hi]at B;exact .inl ⟨hi,B⟩
   .have ag:i<N:=by rw[<-z];exact(zBw.1 B).1
    rw[zCe (by omega),zDq]at B;split at B
    .exact .inr ⟨hi,ag,(zEg B).symm⟩
    .cases B
  have I:∀i j,i<N->j<sz->i*sz+j<c.size:=λi j hi hj=>by
   have:=zBt sz (show i+1<=N by omega);rw[zCi,zDh]at this;omega
  let U:Nat->Nat->Value:=λi j=>if i<ln xs then f i j else c.getD (i*sz+j) undef
  have G:=xU.step (w':=w) HH k (.arr sz (xs++pb (N-xs.length) (dG sz)) ⟨false,false⟩) ((b,N)::V) (zBb _) (λ_ _ _=>rfl) Z Z Z
   (λC A u=>by
    simp at u
    rcases u with⟨rfl,_⟩|u
    .exact .inl ⟨_,hb⟩
    .exact .inl ⟨A,by rw[hbk];simp[u]⟩) (λ_ _ _=>rfl)
   (λe he=>by
    rw[hk']at he;cases he;refine .inr ⟨⟨_,_,rfl,by rw[z];exact hN⟩,λC A u=>?_⟩;rw[hbk]at u;simp at u
    rcases u with⟨rfl,rfl⟩|u
    .exact⟨N,hN,by simp⟩
    .exact⟨A,zBb _,by simp[u]⟩)
   (λE=>⟨g1,by rw[z];unfold cF;omega,λ_=>by rw[yL];simp,λi y B=>by
    rcases R i y B with⟨_,h⟩|⟨_,_,rfl⟩
    .exact g4 i y h
    .simp[dG,AV.cells],λC A r hr=>by
    rw[yL]at hr;simp at hr;obtain⟨⟨rfl,rfl⟩,rfl⟩:=hr
    exact⟨z.symm,λ_=>O,λC A u=>by have:=O C A u;rw[z];omega⟩,U,λi y j v B hv=>by
    simp only[U]
    rcases R i y B with⟨hi,h⟩|⟨hi,_,rfl⟩
    .rw[zA5 hi];exact⟨(g6.toV i y j v h hv).evo E,λ_=>(g6.toF Z i y j v h hv).evo E.size E.fz⟩
    .have:v= .bot:=by
      simp only[dG,AV.cells,zDq]at hv;split at hv
      .exact(zEg hv).symm
      .cases hv
     subst this
     exact⟨.fz _ _ (.bot _),λ_=> .bot _⟩,λi j hi hj=>by
    rw[z]at hi;simp only[U];split
    .exact g7 i j ‹_› hj
    .exact c4 _ (I i j hi hj),λC A u=>by
    rw[yL]at u;simp at u
    rcases u with⟨rfl,rfl⟩|u
    .refine⟨c,el,c1,Y,λi j hi hj=>?_,c4⟩;simp only[U];split
     .exact c3 i j ‹_› hj
     .exact jO c _ (I i j hi hj)
    .obtain⟨c',W,d1,d2,_,d4⟩:=g8 C A (by rw[hbk];simp[u]);have:=O C A u;subst this
     exact⟨c',W,d1,d2,λi j hi _=>by omega,d4⟩⟩)
  exact⟨_,G⟩
def yi (hP:uW P TT) {hi:Operand} {N:Nat} {ki:IntKind} (hx:yX (zK st.tm) x= .ref k 0 len) (hk:zD st.h k=some (.arr sz xs ⟨false,false⟩)) (hh:yX (zK st.tm) hi= .s (.int ki (N:Int))) (hT:TT[T]? =some ti) (hd:ti.d= .slice e) (he:TT[e]? =some te)
 (hl:1<=len) (hN:N<=ln xs) (ac:1<=N) (ag:N<=1073741824):vA P st (.slice T x none (some hi) none) (.ref k 0 N) [] [k] []:=
 yZ λoo X tm h w β a ho hg R HH W=>by
  obtain⟨d0,o0,y0,p0,f0,g0⟩:=oo;dsimp only at ho;subst ho;have h1:=gZ W hg (x:=x) uO hx;have hk':=(R k zV).trans hk;obtain⟨u,hu,M⟩:=wI (hP _ _ hT) w;obtain rfl:=uE (M.trans hd);have hs:=qN (hP _ _ he) w;generalize I:a.eval x=cx at h1
  cases h1 with
  |fz _ _ hf=>cases hf
  |dref _ _ _ _ hd _=>rw[hk']at hd;cases hd
  |ref0 _ _ U V st' b z hn=>omega
  | ref _ _ _ U V st' b n cap z hb hn hc C=>
   have Y:=z;rw[hk']at Y;cases Y;obtain⟨g1,g2,g3,g4,g5,f,g6,g7,g8⟩:=HH.ent k _ hk'
   have O:n=ln xs:=by
    cases hbk:β k with
    |nil=>rw[hbk]at hb;simp at hb
    |cons q r=>
     obtain⟨b0,n0⟩:=q;obtain⟨e1,E,_⟩:=g5 b0 n0 r hbk;have E:=E Z;rw[hbk]at hb;simp at hb
     rcases hb with⟨rfl,rfl⟩|hm
     .exact e1
     .have:=E b n hm;omega
   subst O;obtain⟨c,el,c1,c2,c3,c4⟩:=g8 b _ hb
   have G:c.size=cap*sz:=by
    have:wO w b=c.size:=by unfold wO World.shape?;rw[c1];rfl
    rw[<-this,<-C,zCn]
   have B:N<=cap:=by
    have h5:N*sz<=cap*sz:=by rw[<-G];exact zCa (zBt _ hN) c2
    exact zFf h5 (by omega)
   have A:=fQ (P:=P) W hg (lo:=none) (hi:=some hi) (len:=len) (cap:=cap) (l:=0) (r:=N) (λy S=>by cases S) (λy S=>by cases S;simp[Op.operands]) Z ⟨ki,N,hh,rfl⟩ (zBn _) B true;rw[zD9]at A;refine⟨_,by simp only[execOp,Instr.sliceAt,Instr.slice,Sem.run_bind,hu,Result.andThen_ok,I,zD9,A,hs,Sem.run_pure];rfl,?_⟩
   have e0:(if cap=0 then(some ⟨b,0*sz,none⟩:Option Addr)else(some ⟨b,0*sz,none⟩:Option Addr).map (·.add (0*te.size)))=some ⟨b,0*sz,none⟩:=by
    split
    .rfl
    .rw[zC0,ZW];simp
   have:=yK.ref (w:=w) (D:=xT X β) (h:=h) (β:=β) k 0 N sz xs ⟨false,false⟩ b (ln xs) cap hk' hb (by omega) B C;rw[e0];exact this
theorem FR (hP:uW P TT) {f:Nat} {fn:Func} {R:Nat} {fx y:Operand} {az:Array Nat} {S U A I B ax C:Nat} {xa xb:List AV} {fa fb:Fl} (a3:yX (zK st.tm) fx= .fn f []) (hx:yX (zK st.tm) x= .ref S 0 A) (a5:zD st.h S=some (.arr ax xa fa)) (hy:yX (zK st.tm) y= .ref U I B) (a6:zD st.h U=some (.arr C xb fb))
 (bd:Nat.beq S U=false) (a9:1<=B) (a8:1<=A) (hT:TT[T]? =some ti) (hd:ti.d= .slice e) (he:TT[e]? =some te) (bs:1<=C)
 (hf:P.funcs[f]? =some fn) (O:(fn.name== "runtime.NumGoroutine")=false) (hb:fn.body.isNone=true) (hn:Extern.findNext fn=none) (hE:Extern.find fn=some (Extern.SlicesOverlaps.overlaps #[T,T] #[R])):
  vA P st (.call ⟨.value fx, #[x,y],az⟩) (.s (.bool false)) [] [S,U] []:=
 yZ λoo X tm h w β a ho hg hr HH Ht=>by
  obtain⟨d0,o0,y0,p0,f0,g0⟩:=oo;dsimp only at ho;subst ho;have h1:=gZ Ht hg (x:=x) kS hx;have h2:=gZ Ht hg (x:=y) kS hy;have h3:=gZ Ht hg (x:=fx) kS a3;have ap:=(hr S zV).trans a5;have ar:=(hr U zV).trans a6;have a7:S≠U:=λe=>by subst e;simp at bd
  obtain⟨u,hu,bl⟩:=wI (hP _ _ hT) w;obtain⟨i,z,bk,hi,hz,e1,e2,e3⟩:=vB hP hT hd he
  have a2:a.eval fx= .func (.func f) #[] #[]:=by
   generalize a.eval fx=cx at h3
   cases h3 with
   |fz _ _ hf=>cases hf
   |fn _ _ c hl hh=>
    have:c= #[]:=Array.eq_empty_of_size_eq_zero BU;rw[this]
  have av:∀{k off len sz xs fl c},h k=some (.arr sz xs fl)->1<=len->yK w (xT X β) h β (.ref k off len) c->∃b n cap cc el,c= .slice (some ⟨b,off*sz,none⟩) len cap/\(b,n)∈β k/\off+len<=n/\w.heap[b]? =some (.cells cc el (0,0))/\n*sz<=cc.size/\1<=sz:=λ{k off len sz xs fl c} hk hl hv=>by
   cases hv with
   |fz _ _ hf=>cases hf
   |dref _ _ _ _ hd _=>rw[hk]at hd;cases hd
   |ref0 _ _ _ _ _ _ _ _=>omega
   |ref _ _ _ bu bx st' b n cap E hb hn hc br=>
    rw[hk]at E;cases E;obtain⟨g1,_,_,_,_,f,_,_,g8⟩:=HH.ent k _ hk;obtain⟨cc,el,c1,c2,_⟩:=g8 b n hb;exact⟨b,n,cap,cc,el,rfl,hb,hn,c1,c2,g1⟩
  obtain⟨V,na,ca,W,Y,q1,q2,q3,q4,q5,q6⟩:=av ap a8 h1;obtain⟨bb,nb,cb,M,ac,r1,r2,r3,r4,r5,r6⟩:=av ar a9 h2;have a1:V≠bb:=λe=>a7 (HH.disj S U V na nb q2 (by rw[e];exact r2))
  have bf:w.shape? V=some (Y,W.size):=by unfold World.shape?;rw[q4]
  have au:w.shape? bb=some (ac,M.size):=by unfold World.shape?;rw[r4]
  have a4:M.size≠0:=by
   have:=zBt C (show 1<=nb by omega);omega
  have ag:∀o,w.frozen? ⟨V,o,none⟩=false:=λo=>by simp[World.frozen?,q4]
  have G:=run_callFunc_extern hf O hb hn hE #[a.eval x,a.eval y] w;rw[q1,r1,Lib.run_overlaps_apart w T R e bk te.size (λw=>qN (hP _ _ he) w) ⟨V,0*ax,none⟩ ⟨bb,I*C,none⟩ A ca B cb a1 Y ac W.size M.size bf au a4 (ag _) (ag _)]at G;exact⟨_,by simp only[execOp,resolve,a2,Deferred.ofValue,invoke];simpa [q1,r1]using G,.fz _ _ (.s _)⟩
theorem IJ {X:Nat->Prop} (M:jM X h β w) {kn:Nat} (U:h kn=none) {gc:Nat} {olds news:List Value} {zc:Array Value} (f g:Nat->Nat->Value) (hp:1<=sz) (A:ln olds=ln ys*sz) (ho:∀i j,i<ln ys->j<sz->olds[i*sz+j]? =some (f i j)) (ac:∀u∈olds,u.oneCell'=true)
 (E:ln news=ln vs*sz) (hn:∀i j,i<ln vs->j<sz->news[i*sz+j]? =some (g i j)) (Y:∀u∈news,u.oneCell'=true) (au:∀(i:Nat) (y:AV),ys[i]? =some y->ln y.cells=sz) (ar:∀(i:Nat) (y:AV),vs[i]? =some y->ln y.cells=sz)
 (O:∀i j,i<ln ys->j<sz->(f i j).oneCell'=true) (R:∀i j,i<ln vs->j<sz->(g i j).oneCell'=true) (ag:∀(i:Nat) (y:AV) (j:Nat) v,ys[i]? =some y->y.cells[j]? =some v->xM w (xT X β) v (f i j)) (ap:∀(i:Nat) (y:AV) (j:Nat) v,vs[i]? =some y->y.cells[j]? =some v->xM w (xT X β) v (g i j))
 (av:∀v∈zc.toList,v.oneCell'=true) (ax:zc.size=sz) (S:ln ys+ln vs<=gc) (W:ln ys+ln vs<=cF):
  ∃β',xU X w h β (w.drew.alloc (.cells (olds.toArray++news.toArray++Builtin.zeroCells zc (gc-(ln ys+ln vs))) e)) (over [(kn,.arr sz (ys++vs) false)] h) β'/\
   yK (w.drew.alloc (.cells (olds.toArray++news.toArray++Builtin.zeroCells zc (gc-(ln ys+ln vs))) e)) (xT X β') (over [(kn,.arr sz (ys++vs) false)] h) β' (.ref kn 0 (ys++vs).length) (.slice (some ⟨w.heap.size,0,none⟩) (ln ys+ln vs) gc):=by
 have HD:=M.drew (w.drawn+1);have z:(ys++vs).length=ln ys+ln vs:=by simp
 have C:∀(i:Nat) y,(ys++vs)[i]? =some y->(i<ln ys/\ys[i]? =some y)\/(¬i<ln ys/\vs[i-ys.length]? =some y):=λi y I=>by
  grind
 have B:∀{v c},xM w (xT X β) v c->xM w.drew (xT X β) v c:=λhf=>xM.evo (w:=w) (w':=w.drew) (zBb _) (λ_ _ hd=>⟨rfl,hd⟩) hf
 have:=xU.newArr (w:=w.drew) HD U (olds.toArray++news.toArray++Builtin.zeroCells zc (gc-(ln ys+ln vs))) e sz (ys++vs) gc (λi j=>if i<ln ys then f i j else g (i-ys.length) j) hp (by rw[z];exact W) (by rw[z];exact S) (by
   simp only[zFm,zD6,size_zeroCells,ax,A,E,<-zCi]
   congr 1;omega) (kE.get (((kE.arr ac).app (kE.arr Y)).app (kE.zero av _))) (λi y I=>by
   rcases C i y I with⟨_,h⟩|⟨_,h⟩
   .exact au i y h
   .exact ar _ y h) (λi j hi hj=>by
   rw[z]at hi
   have V:i*sz+j<(ln ys+ln vs)*sz:=by
    have:=zBt sz (show i+1<=ln ys+ln vs by omega)
    grind
   rw[zCi]at V;rw[zC8 (by simp[A,E];omega)];split
   .rename_i hi'
    have a1:i*sz+j<ln ys*sz:=by
     grind
    rw[zC8 (by simp[A];omega)];simpa using ho i j hi' hj
   .rename_i hi';have az:ln ys*sz<=i*sz:=zBt _ (by omega);have e4:i*sz+j-ys.length*sz=(i-ys.length)*sz+j:=by rw[zF7];omega
    rw[zE9 (by simp[A];omega)];simp only[zD6,A,e4,zDv]
    exact hn _ _ (by omega) hj) (λi j hi hj=>by
   rw[z]at hi;split
   .exact O i j ‹_› hj
   .exact R _ j (by omega) hj) (λi y j v I hv=>by
   rcases C i y I with⟨hi,h⟩|⟨hi,h⟩
   .rw[zA5 hi];exact B (ag i y j v h hv)
   .rw[Os hi];exact B (ap _ y j v h hv))
 obtain⟨β',G,hv⟩:=this;refine⟨β',xU.trans M (xU.drew M (w.drawn+1)) G,?_⟩;rw[z]at hv⊢;exact hv
def Vn (E:uW P TT) {c:Nat} (O:yX (zK st.tm) x= .slc c xs) (hT:TT[T]? =some ti) (hd:ti.d= .slice e):vA P st (.call ⟨.builtin .cap, #[x], #[T]⟩) (.s (.int .i64 (c:Int))) [] [] []:=
 yZ λR X tm h w β a B I Y S C=>by
  obtain⟨d0,o0,y0,p0,V,W⟩:=R;dsimp only at B;subst B;have h1:=gZ C I (x:=x) kS O;obtain⟨u,M,A⟩:=wI (E _ _ hT) w;obtain rfl:=uE (A.trans hd);generalize z:a.eval x=U at h1
  cases h1 with
  | fz _ _ G=>
   cases G with
   |slc _ _ b o sz f hL hc hh=>
    exact⟨_,by simp[execOp,resolve,invoke,builtin,Builtin.cap_,z,M,goInt],.fz _ _ (.s _)⟩
def AM (E:uW P TT) {xs:List AV} (O:yX (zK st.tm) x= .slc c xs) (hT:TT[T]? =some ti) (hd:ti.d= .slice e):vA P st (.call ⟨.builtin .len, #[x], #[T]⟩) (.s (.int .i64 (ln xs:Int))) [] [] []:=
 yZ λR X tm h w β a B I Y S C=>by
  obtain⟨d0,o0,y0,p0,V,W⟩:=R;dsimp only at B;subst B;have h1:=gZ C I (x:=x) kS O;obtain⟨u,M,A⟩:=wI (E _ _ hT) w;obtain rfl:=uE (A.trans hd);generalize z:a.eval x=U at h1
  cases h1 with
  | fz _ _ G=>
   cases G with
   |slc _ _ b o sz f hL hc hh=>
    exact⟨_,by simp[execOp,resolve,invoke,builtin,Builtin.len_,z,M,goInt],.fz _ _ (.s _)⟩
def Un (R:uW P TT) {r:Nat} {hi:Operand} {V:IntKind} (hx:yX (zK st.tm) x= .slc c xs) (hh:yX (zK st.tm) hi= .s (.int V (r:Int))) (hT:TT[T]? =some ti) (hd:ti.d= .slice e) (Y:TT[e]? =some te) (M:r<=ln xs):
  vA P st (.slice T x none (some hi) none) (.slc c (xs.take r)) [] [] []:=
 yZ λoo X tm h w β a U S ac HH O=>by
  obtain⟨d0,o0,y0,p0,f0,g0⟩:=oo;dsimp only at U;subst U;have h1:=gZ O S (x:=x) uO hx;obtain⟨u,hu,G⟩:=wI (R _ _ hT) w;obtain rfl:=uE (G.trans hd);have hs:=qN (R _ _ Y) w;generalize E:a.eval x=cx at h1
  cases h1 with
  | fz _ _ hf=>
   cases hf with
   | slc _ _ b o sz f hL hc I=>
    have C:=fQ (P:=P) O S (lo:=none) (hi:=some hi) (len:=ln xs) (cap:=c) (l:=0) (r:=r) (λy z=>by cases z) (λy z=>by cases z;simp[Op.operands]) Z ⟨V,r,hh,rfl⟩ (zBn _) (zCa M hc) true;rw[zD9]at C;have A:(xs.take r).length=r:=by simp;omega
    have B:∀(i:Nat) y,(xs.take r)[i]? =some y->xs[i]? =some y:=λi y z=>by
     rw[zCv]at z;split at z
     .exact z
     .cases z
    refine⟨_,by simp only[execOp,Instr.sliceAt,Instr.slice,Sem.run_bind,hu,Result.andThen_ok,E,zD9,C,hs,Sem.run_pure];rfl,.fz _ _ ?_⟩
    have W:(if c=0 then(some ⟨b,o,none⟩:Option Addr)else(some ⟨b,o,none⟩:Option Addr).map (·.add (0*te.size)))=some ⟨b,o,none⟩:=by
     split
     .rfl
     .rw[zC0,ZW];simp
    have:=xM.slc (w:=w) (D:=xT X β) c (xs.take r) b o sz f ⟨hL.lt,hL.nd,hL.pos,by rw[A];exact zCa M hL.max,λi y z=>hL.wide i y (B i y z),λi j hi hj=>hL.cell i j (by omega) hj,λi j hi hj=>hL.one i j (by omega) hj⟩ (by rw[A];exact zCa M hc) (λi y j v z hv=>I i y j v (B i y z) hv);rw[A]at this;rw[zF0,zF0,W];exact this
theorem Tn (hP:uW P TT) {I n:Nat} {tn:TI} {k0:IntKind} {nx:Int} (kn:Nat) (hs:yX (zK st.tm) s= .slc c ys) (hx:yX (zK st.tm) x= .s (.int .i64 nx)) (hT:TT[T]? =some ti) (hd:ti.d= .slice e) (he:TT[e]? =some te) (hI:TT[I]? =some tn) (a5:tn.d= .int k0)
 (hb:Nat.ble te.bytes 65536=true) (hp:Nat.ble 1 te.size=true) (E:Nat.beq (ln te.zero) te.size=true) (ax:te.zero.all (·.oneCell')=true) (V:Nat.beq (uK te).cells.length te.size=true) (az:(uK te).cells=te.zero.map .s)
 (bk:nx=(n:Int)) (au:1<=n) (ap:ln ys+n<=1073741824) (hc:c<ln ys+n) (U:∀(i:Nat) (y:AV),ys[i]? =some y->ln y.cells=te.size):
  vA P st (.call ⟨.builtin .append, #[s,x], #[T,I]⟩) (.ref kn 0 (ys++pb n (uK te)).length) [(kn,.arr te.size (ys++pb n (uK te)) false)] [] [kn]:=by
 refine⟨?_⟩;intro X tm h hg _ hn o a w β ho HH Ht;obtain⟨d0,o0,y0,p0,f0,g0⟩:=o;dsimp only at ho;subst ho;have h1:=gZ Ht hg (x:=s) kS hs;have h2:=vS Ht hg (x:=x) kS hx;have hp:=zBo hp;have hb:=zBo hb;have E:=zBz E;have V:=zBz V;subst bk;obtain⟨i,z,S,hi,hz,e1,e2,e3⟩:=vB hP hT hd he;obtain⟨_,u2,_,_,br,_,a4,_⟩:=vR (hP _ _ hI);obtain rfl:=MO (a4.symm.trans a5);generalize a3:a.eval s=cx at h1
 cases h1 with
 | fz _ _ hf=>
  cases hf with
  | slc _ _ b o sz f hL bz hh=>
   have Y:z.cells.size=te.size:=by rw[<-E,<-e3];simp
   have hS:Z3 w (xT X β) h β false ys te.size b o f:=⟨U,λi j hi hj=>by
    have:sz=te.size:=by
     have h4:=hL.wide i ys[i] KG;have h5:=U i ys[i] KG;omega
    subst this;exact hL.cell i j hi hj,λi j hi hj=>by
    have:sz=te.size:=by
     have h4:=hL.wide i ys[i] KG;have h5:=U i ys[i] KG;omega
    subst this;exact hL.one i j hi hj,.ofF hh⟩
   obtain⟨a7,a8⟩:=hS.flat hp
   have C:(ln ys+n)*i.bytes<=140737488355328:=by
    have:=zDx ap (show i.bytes<=65536 by omega);omega
   have bx:=growslice_fits (need:=ln ys+n) (old:=c) (bytes:=i.bytes) hc C;have hw:IntKind.i64.wrap (n:Int)=(n:Int):=kL ⟨by show(-9223372036854775808:Int)<=_;omega,by show _<=(9223372036854775807:Int);omega⟩
   have bl:n*i.size≠0:=by
    have:1*1<=n*i.size:=zDx au (by omega);omega
   have a1:¬(281474976710656<(n:Int)*(i.bytes:Int)):=by
    grind
   have ac:¬(281474976710656<Builtin.nextslicecap (ln ys+n) c*i.bytes):=by omega
   have a2:¬(9223372036854775807<((ln ys:Int)+(n:Int))):=by omega
   have R:¬(ln ys+n<=c):=by omega
   have ar:¬((n:Int)<0):=by omega
   have a9:=run_firstCells_some (P:=P) w.drew i.size (ln ys) ⟨b,o,none⟩ (ln ys) c (flat f (ln ys) i.size) (zZ _ _ _) (by rw[e1];simpa using a7)
   have G:(Builtin.append_ #[T,I] y0 #[.slice (some ⟨b,o,none⟩) (ln ys) c,.int .i64 (n:Int)]).run P w= .ok (.slice (some ⟨w.heap.size,0,none⟩) (ln ys+n) (grownCap w (ln ys+n) c e)) (w.drew.alloc (.cells ((flat f (ln ys) i.size).toArray++(Builtin.zeroCells z.cells n).toList.toArray++Builtin.zeroCells z.cells (grownCap w (ln ys+n) c e-(ln ys+n))) e)):=by
    have ha:(asIntOf (.int .i64 (n:Int))).run P w= .ok (.i64,(n:Int)) w:=rfl;simp[Builtin.append_,run_underlying S,run_underlying br,sizeOf,typeInfo,zeroValue,hi,hz,asInt,ha,hw,ar,a1,bl,a2,ac,R,Question.forced,a9,newRow,grownCap]
   generalize hW:w.drew.alloc (.cells ((flat f (ln ys) i.size).toArray++(Builtin.zeroCells z.cells n).toList.toArray++Builtin.zeroCells z.cells (grownCap w (ln ys+n) c e-(ln ys+n))) e)=W at G
   have a6:(execOp a.eval ⟨d0,.call ⟨.builtin .append, #[s,x], #[T,I]⟩,y0,p0,f0,g0⟩).run P w= .ok (.value (.slice (some ⟨w.heap.size,0,none⟩) (ln ys+n) (grownCap w (ln ys+n) c e))) W:=by
    simp[execOp,resolve,invoke,builtin,a3,h2,G]
   rw[a6];have ba:=grownCap_ge w (ln ys+n) c e;have A:(pb n (uK te)).length=n:=by simp
   have ag:∀(j:Nat) v,(pb n (uK te))[j]? =some v->v=uK te:=λj v hv=>by
    grind
   have O:∀j,j<te.size->∃v,te.zero[j]? =some v/\z.cells.getD j undef=v:=λj hj=>by
    have:=jO z.cells j (by omega)
    grind
   have M:∀v∈z.cells.toList,v.oneCell'=true:=λv hv=>zBk.1 ax v MN
   have:=IJ (X:=X) (kn:=kn) (e:=e) (gc:=grownCap w (ln ys+n) c e) HH (hn kn zV) (ys:=ys) (vs:=pb n (uK te)) (sz:=te.size) (olds:=flat f (ln ys) i.size) (news:=(Builtin.zeroCells z.cells n).toList) (zc:=z.cells) f (λ_ j=>z.cells.getD j undef) hp
    (by rw[zZ,e1]) (λB j hi' hj=>by rw[e1];exact kT f hi' hj) (by rw[e1];exact a8) (by rw[A,zD8,size_zeroCells,Y]) (λB j hi' hj=>by
     rw[A]at hi'
     have bd:B*te.size+j<n*te.size:=by
      have:=zBt te.size (show B+1<=n by omega)
      grind
     have bf:(B*te.size+j) % te.size=j:=by rw[zE7,zFz];exact zD0 hj
     rw[Array.getElem?_toList];simp only[Builtin.zeroCells,zF9,zFt,Y,bd,zE8,zC0,bf]
     congr 1
     have bb:j<z.cells.size:=by omega
     simp[zB4,bb]) (λu S=>kE.zero M n u S) hS.wide (λB y hy=>by rw[ag B y hy];exact V) hS.one (λB j _ hj=>by
     obtain⟨v,hv,bs⟩:=O j hj;rw[bs]
     exact zBk.1 ax v (zCq hv)) (λB y j v hy hv=>hS.rep.toF Z B y j v hy hv) (λB v j u hv S=>by
     rw[ag B v hv,az]at S;rw[zBe,zBp]at S;obtain⟨q,hq,rfl⟩:=S;have hj:j<te.size:=by rw[<-E];exact(zBw.1 hq).1
     obtain⟨v',av,bu⟩:=O j hj;rw[hq]at av;cases av;rw[bu]
     exact .s _) M Y (by rw[A];exact ba) (by rw[A];unfold cF;omega)
   rw[A,hW]at this;exact this
theorem xi (hP:uW P TT) {xv:AV} (kn:Nat) (hs:yX (zK st.tm) s= .slc c ys) (hx:yX (zK st.tm) x=xv) (hT:TT[T]? =some ti) (hd:ti.d= .slice e) (he:TT[e]? =some te) (av:AI (zD st.h) xv=some vs)
 (hb:Nat.ble te.bytes 65536=true) (M:Nat.ble 1 te.size=true) (G:Nat.beq (ln te.zero) te.size=true) (ax:te.zero.all (·.oneCell')=true)
 (au:∀y,vs[0]? =some y->ln y.cells=te.size) (B:1<=ln vs) (I:ln ys+ln vs<=1073741824) (hc:c<ln ys+ln vs) (E:∀(i:Nat) (y:AV),ys[i]? =some y->ln y.cells=te.size):
  vA P st (.call ⟨.builtin .append, #[s,x], #[T,T]⟩) (.ref kn 0 (ys++vs).length) [(kn,.arr te.size (ys++vs) false)] (OE xv) [kn]:=by
 refine⟨?_⟩;intro X tm h hg hr hn o a w β ho HH Ht;obtain⟨d0,o0,y0,p0,f0,g0⟩:=o;dsimp only at ho;subst ho;have h1:=gZ Ht hg (x:=s) kS hs;have h2:=gZ Ht hg (x:=x) kS hx;have M:=zBo M;have hb:=zBo hb;have G:=zBz G;obtain⟨i,z,hu,hi,hz,e1,e2,e3⟩:=vB hP hT hd he;obtain⟨ad,cap,S,_,a2,O⟩:=cX HH h2 ((fS hr).trans av) au;obtain⟨b2,q,g,rfl,u⟩:=O (λh0=>by rw[h0]at B;simp at B);obtain⟨ag,ap⟩:=u.flat M;generalize U:a.eval s=cx at h1
 cases h1 with
 | fz _ _ hf=>
  cases hf with
  | slc _ _ b o sz f hL a1 hh=>
   have az:z.cells.size=te.size:=by rw[<-G,<-e3];simp
   have R:Z3 w (xT X β) h β false ys te.size b o f:=⟨E,λi j hi hj=>by
    have:sz=te.size:=by
     have h4:=hL.wide i ys[i] KG;have h5:=E i ys[i] KG;omega
    subst this;exact hL.cell i j hi hj,λi j hi hj=>by
    have:sz=te.size:=by
     have h4:=hL.wide i ys[i] KG;have h5:=E i ys[i] KG;omega
    subst this;exact hL.one i j hi hj,.ofF hh⟩
   obtain⟨Y,ac⟩:=R.flat M
   have A:(ln ys+ln vs)*i.bytes<=140737488355328:=by
    have:=zDx I (show i.bytes<=65536 by omega);omega
   have C:=run_append_grow (P:=P) w T y0 e i z hu hi hz ⟨b,o,none⟩ (ln ys) c (flat f (ln ys) te.size) (by rw[zZ,e1]) Y ⟨b2,q,none⟩ (ln vs) cap (flat g (ln vs) te.size) (by rw[zZ,e1]) ag hc (by omega) (growslice_fits hc A);generalize hW:w.drew.alloc (.cells ((flat f (ln ys) te.size).toArray++(flat g (ln vs) te.size).toArray++Builtin.zeroCells z.cells (grownCap w (ln ys+ln vs) c e-(ln ys+ln vs))) e)=W at C
   have V:(execOp a.eval ⟨d0,.call ⟨.builtin .append, #[s,x], #[T,T]⟩,y0,p0,f0,g0⟩).run P w= .ok (.value (.slice (some ⟨w.heap.size,0,none⟩) (ln ys+ln vs) (grownCap w (ln ys+ln vs) c e))) W:=by
    simp[execOp,resolve,invoke,builtin,U,S,C]
   rw[V];have ar:=grownCap_ge w (ln ys+ln vs) c e
   have:=IJ (X:=X) (kn:=kn) (e:=e) (gc:=grownCap w (ln ys+ln vs) c e) HH (hn kn zV) (ys:=ys) (vs:=vs) (sz:=te.size) (olds:=flat f (ln ys) te.size) (news:=flat g (ln vs) te.size) (zc:=z.cells) f g M
    (zZ _ _ _) (λi' j hi' hj=>kT f hi' hj) ac (zZ _ _ _) (λi' j hi' hj=>kT g hi' hj) ap R.wide u.wide R.one u.one (R.rep.toF Z) (u.rep.toF Z) (λv hv=>zBk.1 ax v MN) az ar (by unfold cF;omega)
   rw[hW]at this;exact this
theorem wi (hP:uW P TT) {k:Nat} {xv:AV} (hs:yX (zK st.tm) s= .ref k 0 len) (hk:zD st.h k=some (.arr sz xs ⟨false,false⟩)) (hx:yX (zK st.tm) x=xv) (hT:TT[T]? =some ti) (hd:ti.d= .slice e) (he:TT[e]? =some te) (bx:AI (zD st.h) xv=some vs)
 (S:Nat.beq sz te.size=true) (bu:∀y,vs[0]? =some y->ln y.cells=sz) (ag:1<=ln vs) (hl:1<=len) (a1:len+ln vs<=ln xs) (b3:ln xs<=1073741824):
    vA P st (.call ⟨.builtin .append, #[s,x], #[T,T]⟩) (.ref k 0 (len+ln vs)) [(k,.arr sz (xs.take len++vs++xs.drop (len+ln vs)) ⟨false,false⟩)] (k::OE xv) []:=by
  refine⟨?_⟩;intro X tm h hg hr _ o a w β ho HH Ht;obtain⟨d0,o0,y0,p0,f0,g0⟩:=o;dsimp only at ho;subst ho;have hk':=(hr k zV).trans hk;have h1:=gZ Ht hg (x:=s) kS hs;have h2:=gZ Ht hg (x:=x) kS hx;have S:=zBz S;obtain⟨i,z,hu,hi,hz,e1,e2,e3⟩:=vB hP hT hd he;obtain⟨g1,g2,g3,g4,g5,f,g6,g7,g8⟩:=HH.ent k _ hk';obtain⟨ad,cap,bf,_,b6,a9⟩:=cX HH h2 ((fS λk' hk=>hr k' (by simp[hk])).trans bx) bu;obtain⟨b2,q,fy,rfl,hS⟩:=a9 (λh0=>by rw[h0]at ag;simp at ag);obtain⟨br,a5⟩:=hS.flat g1;generalize bk:a.eval s=cx at h1
  cases h1 with
  |fz _ _ hf=>cases hf
  |dref _ _ _ _ hd _=>rw[hk']at hd;cases hd
  |ref0 _ _ bz b1 st' b ac hn=>omega
  | ref _ _ _ bz b1 st' b n cp ac M hn hc a8=>
    have h3:=ac;rw[hk']at h3;cases h3
    obtain⟨rr,hbk,bs,az⟩:∃rr,β k=(b,n)::rr/\n=ln xs/\∀R V,(R,V)∈rr->V=0:=by
      cases hbk:β k with
      |nil=>rw[hbk]at M;simp at M
      | cons q r=>
        obtain⟨b0,n0⟩:=q;obtain⟨e1,e2,_⟩:=g5 b0 n0 r hbk;have e2:=e2 Z;rw[hbk]at M;simp at M
        rcases M with⟨rfl,rfl⟩|hm
        · exact⟨r,rfl,e1,e2⟩
        · have:=e2 b n hm;omega
    subst bs;obtain⟨I,el,c1,c2,c3,c4⟩:=g8 b _ M
    have bd:I.size=cp*sz:=by
      have:wO w b=I.size:=by unfold wO World.shape?;rw[c1];rfl
      rw[<-this,<-a8,zCn]
    have b4:ln xs<=cp:=by
      have h5:ln xs*sz<=cp*sz:=by rw[<-bd];exact c2
      exact zFf h5 (by omega)
    have Y:(len+ln vs)*sz<=I.size:=zCa (zBt _ a1) c2
    have ap:=bJ hP hT hd he w y0 b 0 len cp I el c1 ⟨b2,q,none⟩ (ln vs) cap (flat fy (ln vs) sz) (by rw[zZ,S]) br a5 (by omega) (by
      rw[zZ,<-S,zCn,<-zCi];exact Y)
    have bb:0*sz=0:=zEp _;generalize C:(I.toList.take (0+len*te.size)++flat fy (ln vs) sz++I.toList.drop (0+len*te.size+(flat fy (ln vs) sz).length)).toArray=B at ap
    have bl:(execOp a.eval ⟨d0,.call ⟨.builtin .append, #[s,x], #[T,T]⟩,y0,p0,f0,g0⟩).run P w= .ok (.value (.slice (some ⟨b,0,none⟩) (len+ln vs) cp)) (w.setRow b B):=by
      simp[execOp,resolve,invoke,builtin,bk,bf,ap]
    rw[bl];rw[zCi]at Y;rw[zCn,<-S]at C
    have ar:B.size=I.size:=by
      rw[<-C];simp only[zD6,zBa,zBv,zB6,zD8,zZ];omega
    have ax:∀q,q<B.size->(B.getD q undef).oneCell'=true:=by
      rw[<-C];refine kE.get (kE.arr λv hv=>?_);have a4:=kE.of c4
      rcases zBs.1 hv with hv|hv
      · rcases zBs.1 hv with hv|hv
        · exact a4 v (zC2 hv)
        · exact a5 v hv
      · exact a4 v (zCc hv)
    let f':Nat->Nat->Value:=λi j=>if len<=i/\i<len+ln vs then fy (i-len) j else f i j
    have O:(xs.take len++vs++xs.drop (len+ln vs)).length=ln xs:=by
      simp only[zBa,zBv,zB6];omega
    have a3:∀(i:Nat) y,(xs.take len++vs++xs.drop (len+ln vs))[i]? =some y->(len<=i/\i<len+ln vs/\vs[i-len]? =some y)\/(¬(len<=i/\i<len+ln vs)/\xs[i]? =some y):=λi y hy=>by
      have ht:(xs.take len).length=len:=by simp;omega
      by_cases h5:i<len
      · rw[zBy,zB9 (by omega),zCv,zA5 h5]at hy;exact .inr ⟨by omega,hy⟩
      · by_cases h6:i<len+ln vs
        · rw[zBy,zCe (by omega),ht,zB9 (by omega)]at hy;exact .inl ⟨by omega,h6,hy⟩
        · rw[zCe qD]at hy;simp only[zBa,ht]at hy;rw[zDe,show len+ln vs+(i-(len+ln vs))=i by omega]at hy;exact .inr ⟨by omega,hy⟩
    have av:∀i j,i<ln xs->j<sz->B[i*sz+j]? =some (f' i j):=λi j hi hj=>by
      rw[<-C];simp only[f',zDv];by_cases h5:i<len
      · have a7:i*sz+j<len*sz:=by
          have:=zBt sz (show i+1<=len by omega);rw[zCi,zDh]at this;omega
        rw[Os (by omega),zBy,zB9 qD,zCv,zA5 a7];simpa using c3 i j hi hj
      · have ht:(List.take (len*sz) I.toList).length=len*sz:=by simp;omega
        have b5:len*sz<=i*sz:=zBt _ (by omega);by_cases h6:i<len+ln vs
        · have e4:i*sz+j-len*sz=(i-len)*sz+j:=by rw[zF7];omega
          have a7:(i-len)*sz+j<ln vs*sz:=by
            have:=zBt sz (show(i-len)+1<=ln vs by omega);rw[zCi,zDh]at this;omega
          rw[zA5 (by omega),zBy,zCe (by rw[ht];omega),ht,zB9 (by rw[zZ];omega),e4];exact kT fy (by omega) hj
        · have a6:(len+ln vs)*sz<=i*sz:=zBt _ (by omega);rw[zCi]at a6;rw[Os (by omega),zCe (by simp only[zBa,ht,zZ];omega),zDe];simp only[zBa,ht,zZ];rw[show len*sz+ln vs*sz+(i*sz+j-(len*sz+ln vs*sz))=i*sz+j by omega];simpa using c3 i j hi hj
    have G:=xU.step (w':=w.setRow b B) HH k (.arr sz (xs.take len++vs++xs.drop (len+ln vs)) ⟨false,false⟩) (β k) zV (λj hj hn=>setRow_other w b j B (λe=>hn (ln xs) Of)) Z Z Z (λb n hm=> .inl ⟨n,hm⟩) (λb n _=>kM c1 ar b)
      (λe he=>by rw[hk']at he;cases he;exact .inr ⟨⟨_,_,rfl,by rw[O];exact zBb _⟩,λ_ n hm=>⟨n,zBb _,hm⟩⟩) λE=>⟨g1,by rw[O];exact g2,λ_=>by rw[yL,hbk];simp,λU W a2=>by
        rcases a3 U W a2 with⟨_,_,h⟩|⟨_,h⟩
        · exact hS.wide _ W h
        · exact g4 U W h,λR V r A=>by
        rw[yL]at A;rw[O]
        exact g5 R V r A,f',λU W j u a2 hu=>by
        simp only[f']
        rcases a3 U W a2 with⟨q1,q2,h⟩|⟨q1,h⟩
        · rw[zA5 ⟨q1,q2⟩];exact⟨(hS.rep.toV _ W j u h hu).evo E,λ_=>(hS.rep.toF Z _ W j u h hu).evo E.size E.fz⟩
        · rw[Os q1];exact⟨(g6.toV U W j u h hu).evo E,λ_=>(g6.toF Z U W j u h hu).evo E.size E.fz⟩,λU j hi' hj=>by
        rw[O]at hi';simp only[f'];split
        · exact hS.one _ _ (by omega) hj
        · exact g7 U j hi' hj,λR V A=>by
        rw[yL,hbk]at A;simp at A;by_cases au:R=b
        · subst au;refine⟨B,el,setRow_heap w _ _ _ _ _ c1,?_,λU j hi' hj=>?_,ax⟩
          · rw[ar]
            rcases A with⟨_,rfl⟩|A
            · exact c2
            · have:=az R V A;subst this;omega
          · rcases A with⟨_,rfl⟩|A
            · exact av U j hi' hj
            · have:=az R V A;omega
        · have A : (R, V) ∈ rr := by     rcases A with⟨h,_⟩|h;· exact absurd h au
                                         · exact h
          obtain⟨c',ba,q1,q2,_,q4⟩:=g8 R V (by rw[hbk];simp[A]);have:=az R V A;subst this
          exact⟨c',ba,(setRow_other w b R B au).trans q1,q2,λU j hi' _=>by omega,q4⟩⟩
    refine⟨_,G,?_⟩;have hR:yK w (xT X β) h β (.ref k 0 (len+ln vs)) (.slice (some ⟨b,0*sz,none⟩) (len+ln vs) cp):= .ref k 0 (len+ln vs) sz xs ⟨false,false⟩ b (ln xs) cp hk' M (by omega) (by omega) a8;rw[bb]at hR;exact hR.evo G.evo
theorem xd (hP:uW P TT) {xs:List AV} (hx:yX (zK st.tm) x= .ref k 0 len) (hk:zD st.h k=some (.arr sz xs ⟨false,false⟩)) (hT:TT[T]? =some ti) (hd:ti.d= .slice e) (hl:1<=len):
  E7 P st (.call ⟨.builtin .cap, #[x], #[T]⟩) (λv d=>∃c:Int,v= .s (.int .i64 c)/\(ln xs:Int)<=c/\d=[]) [k] []:=by
 refine⟨λX tm h hg hr _ o a w β U R V=>?_⟩;obtain⟨d0,o0,y0,p0,f0,g0⟩:=o;dsimp only at U;subst U;have h1:=gZ V hg (x:=x) kS hx;have hk':=(hr k zV).trans hk;obtain⟨u,hu,E⟩:=wI (hP _ _ hT) w;obtain rfl:=uE (E.trans hd);generalize C:a.eval x=cx at h1
 cases h1 with
 |fz _ _ hf=>cases hf
 |dref _ _ _ _ hd _=>rw[hk']at hd;cases hd
 |ref0 _ _ M O st' b z hn=>omega
 | ref _ _ _ M O st' b n cap z hb hn hc I=>
  have S:=z;rw[hk']at S;cases S
  have A:(execOp a.eval ⟨d0,.call ⟨.builtin .cap, #[x], #[T]⟩,y0,p0,f0,g0⟩).run P w= .ok (.value (.int .i64 cap)) w:=by
   simp[execOp,resolve,invoke,builtin,Builtin.cap_,C,hu,goInt]
  rw[A];obtain⟨g1,g2,g3,g4,g5,f,g6,g7,g8⟩:=R.ent k _ hk'
  have G:n=ln xs:=by
   cases hbk:β k with
   |nil=>rw[hbk]at hb;simp at hb
   |cons q r=>
    grind
  subst G;obtain⟨c,el,W,Y,c3,c4⟩:=g8 b _ hb
  have B:c.size=cap*sz:=by
   have:wO w b=c.size:=by unfold wO World.shape?;rw[W];rfl
   rw[<-this,<-I,zCn]
  have ac:ln xs<=cap:=by
   have h5:ln xs*sz<=cap*sz:=by rw[<-B];exact Y
   exact zFf h5 (by omega)
  exact⟨_,[],⟨cap,rfl,by omega,rfl⟩,β,by rw[cG];exact xU.refl R,by rw[cG];exact .fz _ _ (.s _)⟩
end
section
variable {P:Program} {K0:List Nat} {F:Fr K0} {m:Nat} {ops:Array Oper} {rest:List Oper} {fs:List FP} {Q:List FP->St->Prop} {tm:List (Nat×AV)} {h:List (Nat×xV)}
theorem wL.restr2 {a:Act} (R:wL F m st a w) (K A:List Nat) (G:K0.all (K.contains ·)=true) (t:Nat) (v:AV) (hg:∀i,v≠ .gh i)
 (hv:∀X β,jM X (zD st.h) β w->yK w (xT X β) (zD st.h) β (zK st.tm t) (a.eval (.tmp t))->yK w (xT X λk=>if k∈K then β k else []) (zD (wZ K (zD st.h))) (λk=>if k∈K then β k else []) v (a.eval (.tmp t))):
  wL F m ⟨(t,v)::(Av.restr K A st).tm,(Av.restr K A st).h⟩ a w:=by
 have R':=wL.restr R K A G;obtain⟨⟨X,β,hX,H,W,z,hJ,hD⟩,nd,gs,hl⟩:=R;obtain⟨V,M⟩:=H.restr K;refine⟨⟨X,_,hX,V,λj=>?_,⟨λk e Y=>?_,z.size,z.keep,λk b n u=>?_,λk b n u=>?_,z.bs,z.os,z.tape,z.output⟩,λi hi=>?_,hD⟩,R'.nd,gs,hl⟩
 .show yK _ _ _ _ (zK ((t,v)::(Av.restr K A st).tm) j) _
  rw[xF];split
  .rename_i hj;subst hj;exact hv X β H (W j)
  .rw[gG];split
   .exact M _ _ (W j)
   .exact .fz _ _ (.bot _)
 .have hk:k∈K:=by
   have:=zBk.1 G k (F.hh k e Y);simpa using this
  have h1:=z.knd k e Y;have I:∀C,zD st.h k=some C->zD (wZ K (zD st.h)) k=some (kD K (zD st.h) C):=λC h2=>by rw[wH,zA5 hk,h2];rfl
  cases e with
  |dead=>exact h1
  |box cs=>obtain⟨B,h2⟩:=h1;exact⟨_,I _ h2⟩
  |obj cs=>obtain⟨B,h2⟩:=h1;exact⟨_,I _ h2⟩
  |arr sz xs sl=>obtain⟨S,O,h2,h3⟩:=h1;obtain⟨U,E,h4,h5⟩:=gV K (zD st.h) sz S O;exact⟨U,E,(I _ h2).trans (by rw[h4]),by rw[h5];exact h3⟩
 ·(try dsimp only at u)
  split at u
  .exact z.own k b n u
  .simp at u
 .have hk:k∈K:=by
   have:=zBk.1 G k (F.hK k b n u);simpa using this
  (try dsimp only)
  rw[zA5 hk];exact z.pas k b n u
 .have h1:zK st.tm GS= .gh i:=by
   change zK ((t,v)::(Av.restr K A st).tm) GS= .gh i at hi
   grind [wL,zD,xT,zK,wZ,xF,gG,GV]
  refine F.Jst i _ X w w _ (hJ i h1) (zBb _) (λ_ _ _=>rfl) (λb hb=>?_) (λb hb=>?_) Z Z Z
  .obtain⟨k,n,u⟩:=hb
   (try dsimp only at u)
   split at u
   .exact .inl ⟨k,n,u⟩
   .simp at u
  .obtain⟨k,n,u⟩:=hb;exact V.lt b (.inr ⟨k,n,u⟩)
def Y3 (t k N:Nat) (K ts:List Nat) (hv:zK tm t= .ref k 0 (ln xs)) (hk:zD h k=some (.arr sz xs ⟨false,false⟩)) (hl:1<=ln xs) (hN:ln xs<=N) (O:N<=1073741824) (hK:K0.all (K.contains ·)=true) (I:K.contains k=false) {st':St} (he:restr K ts ⟨tm,h⟩=st')
 (h1:∀c,c<N->yP P F m ops false rest ⟨(t,.slc c xs)::st'.tm,st'.h⟩ fs Q) (h2:yP P F m ops false rest ⟨tm,(k,.arr sz (xs++pb (N-xs.length) (dG sz)) ⟨false,false⟩)::h⟩ fs Q):yP P F m ops false rest ⟨tm,h⟩ fs Q:=⟨λa w R=>by
 subst he;have R0:=R;obtain⟨⟨X,β,hX,W,Y,KK,hJ,hD⟩,nd,gs,M⟩:=R0;have u:=Y t;dsimp only at u;rw[hv]at u;obtain⟨b,cap,A,z⟩:=zi W hk u hl hN O;by_cases hc:cap<N
 .refine(h1 cap hc).run a w (wL.restr2 R K ts hK t (.slc cap xs) (λi h=>by cases h) λX β H C=>?_);dsimp only at C;rw[hv]at C;obtain⟨H',U⟩:=H.restr K;have B:=U _ _ C
  have e5:wY K (zD h) (.ref k 0 (ln xs))= .sl false xs:=by
   simp only[wY,I,zC7,hk];rw[zBr,zA8]
  dsimp only at B⊢;rw[e5,A]at B;rw[A];have S:xs≠[]:=λh0=>by rw[h0]at hl;simp at hl
  generalize E:(Value.slice (some ⟨b,0*sz,none⟩) (ln xs) cap)=cs at B
  cases B with
  | fz _ _ hf=>
   cases hf with
   |nil a cap=>exact absurd Z S
   |sl nn xs b o sz cap f hx hL hc hh=>
    cases E;exact .fz _ _ (.slc _ _ _ _ _ f hL hc hh)
 .obtain⟨β',G⟩:=z (by omega);refine h2.run a w ?_;have V:∀j,over [(k,xV.arr sz (xs++pb (N-xs.length) (dG sz)) ⟨false,false⟩)] (zD h) j≠some .dead:=eV Z nd;have R':=VC.put hX W Y KK hJ hD gs M G V (v:= .bot) (c:=undef) (.fz _ _ (.bot _)) none (λd hd=>by cases hd);have e1:(λj=>if(none:Option Nat)=some j then AV.bot else zK tm j)=zK tm:=funext λj=>by simp
  show VC F m (zK tm) (zD ((k,xV.arr sz (xs++pb (N-xs.length) (dG sz)) ⟨false,false⟩)::h)) a w
  rw[show zD ((k,xV.arr sz (xs++pb (N-xs.length) (dG sz)) ⟨false,false⟩)::h)=over [(k,xV.arr sz (xs++pb (N-xs.length) (dG sz)) ⟨false,false⟩)] (zD h)from vF [(k,xV.arr sz (xs++pb (N-xs.length) (dG sz)) ⟨false,false⟩)] h,<-e1]
  exact R'⟩
def wd (t:Nat) (hv:zK tm t= .slc c xs) (z:1<=ln xs) (hk:yP P F m ops false rest ⟨(t,.sl true xs)::tm,h⟩ fs Q):yP P F m ops false rest ⟨tm,h⟩ fs Q:=⟨λa w R=>hk.run a w (by
 obtain⟨⟨X,β,I,A,u,B,G,E⟩,O,gs,hl⟩:=R;refine⟨⟨X,β,I,A,λj=>?_,B,λi hi=>?_,E⟩,O,gs,hl⟩
 .rw[xF];split
  .rename_i hj;subst hj;have:=u j;dsimp only at this;rw[hv]at this;generalize a.eval (.tmp j)=S at this
   cases this with
   |fz _ _ M=>
    cases M with
    |slc _ _ b o sz f hL hc hh=>exact .fz _ _ (.sl true xs b o sz c f (λC=>by rw[C]at z;simp at z) hL hc hh)
  .exact u j
 .rw[xF]at hi;split at hi
  .cases hi
  .exact G i hi)⟩
end
section
variable {P:Program} {K0:List Nat} {F:Fr K0} {m:Nat} {ops:Array Oper} {rest:List Oper} {fs:List FP} {tm:List (Nat×AV)} {h:List (Nat×xV)}
def Sn {K u:List Nat} {k:List (Nat×AV)->List (Nat×xV)->Prop} (hk:jY K (zD st.h) st.tm u λT=>jR K (zD st.h) K λU=>k T U):k (restr K u st).tm (restr K u st).h:=by
 rw[dU,kP]at hk;exact hk
def vU {Q:List FP->St->Prop} (K u:List Nat) (z:K0.all (K.contains ·)=true) (h1:jY K (zD h) tm u λT=>jR K (zD h) K λU=>yP P F m ops false rest ⟨T,U⟩ fs Q):yP P F m ops false rest ⟨tm,h⟩ fs Q:=
 ⟨λa w R=>(Sn (st:=⟨tm,h⟩) (k:=λT U=>yP P F m ops false rest ⟨T,U⟩ fs Q) h1).run a w (wL.restr R K u z)⟩
def wB {c:Code} (K u:List Nat) (z:K0.all (K.contains ·)=true) (h1:jY K (zD st.h) st.tm u λT=>jR K (zD st.h) K λU=>uG P F m c ⟨T,U⟩ Q):uG P F m c st Q:=
 kY K u z Z (Sn (k:=λT U=>uG P F m c ⟨T,U⟩ Q) h1)
structure Ru (p:Prop):Prop where
 h:p
def OF (P:Program) (F:Fr K0) (m:Nat) (c:Code) (Q:Exit->St->Prop) (K u:List Nat):Nat->St->Prop
 |0,_=>False
 |n+1,st=>uG P F m c (restr K u st) (cB Q λs=>Ru (OF P F m c Q K u n s))
def wC {c:Code} (n:Nat) (K u:List Nat) (z:K0.all (K.contains ·)=true) (h1:Ru (OF P F m c Q K u n st)):uG P F m (.loop c) st Q:=⟨λa w R=>by
 refine wpIn_loop_rounds n ?_
 induction n generalizing st a w with
 |zero=>exact h1.h.elim
 |succ n A=>
  refine Code.wpIn_mono (λe a' w' ⟨s,q1,q2⟩=>?_) (h1.h.run a w (wL.restr R K u z))
  cases e with
  |normal=>exact A q1 a' w' q2
  |_=>exact⟨s,q1,q2⟩⟩
def yD {st0:St} {c:Code} {n:Nat} {K u:List Nat} (z:restr K u st=st0) (h1:uG P F m c st0 (cB Q λs=>Ru (OF P F m c Q K u n s))):Ru (OF P F m c Q K u (n+1) st):=by
 subst z;exact⟨h1⟩
theorem vd {α:Type} {cs vs:List α} (hl:ln vs=ln cs):TB cs 0 vs=vs:=by
 apply zCf;intro j;rw[XB _ _ _ _ (by omega)]
 grind
def W3 {TT:List TI} {A:Bool} {Q:List FP->St->Prop} {ty:Nat} {pos:String} {u:Array Edge} (E:uW P TT) {k:Nat} {p:Operand} {cs:List AV} (G:yX (zK tm) p= .ptr k 0 0) (z:zD h k=some (.box cs)) (I:yX (zK tm) x= .agg vs) (hT:TT[T]? =some ti) (B:Nat.beq (ln vs) ti.size=true) (hl:Nat.beq (ln vs) (ln cs)=true)
 (hk:yP P F m ops A rest ⟨tm,(k,.box vs)::h⟩ (⟨true,[k],[k]⟩::fs) Q):yP P F m ops A (⟨none,.store T p x,ty,pos,u,none⟩::rest) ⟨tm,h⟩ fs Q:=by
 have e1:=zBz B;have C:=zBz hl;refine cV (v:= .bot) (k:=k) (e:= .box vs) (r:=[k]) (nw:=[]) E ?_ Z Z hk;simp only[exec,G,hT,z,I,Xj,AV.ok,AV.cells,gX,vd C]
 rw[show(true&&(Nat.beq (ln vs) ti.size&&Nat.ble (0+ti.size) (ln cs)))=true by
  rw[B,zEn (by omega)];rfl]
 rfl
end
