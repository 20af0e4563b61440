/- Part 4. -/
import Derived.Test.YtaglbcjljlkjcaaGreatU03
import Derived.Lib.Overlaps
import Derived.LoopNIn
namespace Go.Proofs.YtaglbcjljlkjcaaGreat.Av
set_option linter.all false
open List renaming length->ln,replicate->pi
open Inhabited renaming default->dd
variable {Q:Exit->St->Prop}{vs xs ys:List AV}{T c e len sz:Nat}{s x:Operand}{st:St}{te ti:TI}{w:World}
structure i7 (P:Program) (st:St) (op:Op) (O:AV->List (Nat×xW)->Prop) (r nw:List Nat):Prop where
 run:∀(X:Nat->Prop) (tm:Nat->AV) (h:yT),(∀t,t∈fJ op->tm t=zK st.tm t)->(∀k,k∈r->h k=zD st.h k)->(∀k,k∈nw->h k=none)->∀(o:Oper) (a:Act) (w:World) (β:uN),o.op=op->jM X h β w->(∀t,yI w (xU X β) h β (tm t) (a.eval (.tmp t)))->
  aJ P (λc w'=>∃v d,O v d/\∃β',xV X w h β w' (over d h) β'/\yI w' (xU X β') (over d h) β' v c) ((execOp a.eval o).run P w)
section
variable {P:Program} {K0:List Nat} {F:Fr K0} {m:Nat} {ops:Array Oper} {rest:List Oper} {fs fs':List FP} {Q:List FP->St->Prop} {tm:List (Nat×AV)} {h:List (Nat×xW)} {op:Op} {ty:Nat} {pos:String} {after:Array Edge} {t:Nat} {r nw:List Nat} {O:AV->List (Nat×xW)->Prop}
def x_m (hs:i7 P ⟨tm,h⟩ op O r nw) (W:Nat.blt t m=true) (Y:nw.all (λj=>(zD h j).isNone)=true) (hd:∀v d,O v d->vX d=true) (hk:∀v d,O v d->yN P F m ops false rest ⟨(t,v)::tm,d++h⟩ fs' Q):
  yN P F m ops false (⟨some t,op,ty,pos,after,none⟩::rest) ⟨tm,h⟩ fs Q:=⟨λa w R=>wpListIn_plain Z λK S=>by
 obtain⟨⟨X,β,U,A,B,C,M,L⟩,nd,gs,hl⟩:=R;refine aJ.wp (hs.run X (zK tm) (zD h) (λ_ _=>rfl) (λ_ _=>rfl) (λk hk=>by have:=zA7.1 Y k hk;simpa using this) ⟨some t,op,ty,pos,after,none⟩ a w β rfl A B) ?_;rintro c w' ⟨v,d,hO,β',G,hc⟩;have u:=hd v d hO
 have z:∀k,over d (zD h) k≠some .dead:=λk=>by
  unfold over;split
  .rename_i e V;intro I;cases I;exact qG u V
  .exact nd k
 refine S _ _ ((hk v d hO).run _ _ ?_);have E:=WM.put U A B C M L gs hl G z hc (some t) (λj hj=>by cases hj;exact zBa W)
 have e1:zK ((t,v)::tm)=λj=>if some t=some j then v else zK tm j:=funext λj=>by rw[xF];simp[eq_comm]
 show WM F m (zK ((t,v)::tm)) (zD (d++h)) _ _
 rw[e1,vE]
 exact E⟩
end
section
variable {P:Program} {st:St}
end
def dD (sz:Nat):AV:= .agg (pi sz .bot)
section
variable {P:Program} {TT:List TI} {st:St}
theorem zi {X:Nat->Prop} {h:yT} {β:uN} (HH:jM X h β w) {k N:Nat} {cx:Value} (hk':h k=some (.arr sz xs ⟨false,false⟩)) (h1:yI w (xU X β) h β (.ref k 0 len) cx) (hl:1<=len) (hN:ln xs<=N) (az:N<=1073741824):
  ∃b cap,cx= .slice (some ⟨b,0*sz,none⟩) len cap/\(N<=cap->∃β',xV X w h β w (over [(k,.arr sz (xs++pi (N-xs.length) (dD sz)) ⟨false,false⟩)] h) β'):=by
 cases h1 with
 |fz _ _ hf=>cases hf
 |dref _ _ _ _ hd _=>rw[hk']at hd;cases hd
 |ref0 _ _ au av st' b L hn=>omega
 | ref _ _ _ au av st' b n cap L hb hn hc ar=>
  have h3:=L;rw[hk']at h3;cases h3;refine⟨b,cap,rfl,λax=>?_⟩;obtain⟨g1,g2,g3,g4,g5,f,g6,g7,g8⟩:=HH.ent k _ hk'
  obtain⟨V,hbk,ap,M⟩:∃V,β k=(b,n)::V/\n=ln xs/\∀C A,(C,A)∈V->A=0:=by
   cases hbk:β k with
   |nil=>rw[hbk]at hb;simp at hb
   |cons q r=>
    obtain⟨b0,n0⟩:=q;obtain⟨e1,S,_⟩:=g5 b0 n0 r hbk;have S:=S Z;rw[hbk]at hb;simp at hb
    rcases hb with⟨rfl,rfl⟩|u
    .exact⟨r,rfl,e1,S⟩
    .have:=S b n u;omega
  subst ap;obtain⟨c,el,c1,c2,c3,c4⟩:=g8 b _ hb
  have ac:c.size=cap*sz:=by
   have:wO w b=c.size:=by unfold wO World.shape?;rw[c1];rfl
   rw[<-this,<-ar,zCa]
  have Y:N*sz<=c.size:=by rw[ac];exact zBg _ (by omega)
  have z:(xs++pi (N-xs.length) (dD sz)).length=N:=by simp;omega
  have O:∀(i:Nat) y,(xs++pi (N-xs.length) (dD sz))[i]? =some y->(i<ln xs/\xs[i]? =some y)\/(¬i<ln xs/\i<N/\y=dD sz):=λi y B=>by
   by_cases hi:i<ln xs
   .rw[zBw hi]at B;exact .inl ⟨hi,B⟩
   .have ag:i<N:=by rw[<-z];exact(zBk.1 B).1
    rw[zBy (by omega),zC9]at B;split at B
    .exact .inr ⟨hi,ag,(zD4 B).symm⟩
    .cases B
  have I:∀i j,i<N->j<sz->i*sz+j<c.size:=λi j hi hj=>by
   have:=zBg sz (show i+1<=N by omega);rw[zB4,zC4]at this;omega
  let U:Nat->Nat->Value:=λi j=>if i<ln xs then f i j else c.getD (i*sz+j) undef
  have G:=xV.step (w':=w) HH k (.arr sz (xs++pi (N-xs.length) (dD sz)) ⟨false,false⟩) ((b,N)::V) (zAy _) (λ_ _ _=>rfl) Z Z Z
   (λC A u=>by
    simp at u
    rcases u with⟨rfl,_⟩|u
    .exact .inl ⟨_,hb⟩
    .exact .inl ⟨A,by rw[hbk];simp[u]⟩) (λ_ _ _=>rfl)
   (λe he=>by
    rw[hk']at he;cases he;refine .inr ⟨⟨_,_,rfl,by rw[z];exact hN⟩,λC A u=>?_⟩;rw[hbk]at u;simp at u
    rcases u with⟨rfl,rfl⟩|u
    .exact⟨N,hN,by simp⟩
    .exact⟨A,zAy _,by simp[u]⟩)
   (λE=>⟨g1,by rw[z];unfold dY;omega,λ_=>by rw[yL];simp,λi y B=>by
    rcases O i y B with⟨_,h⟩|⟨_,_,rfl⟩
    .exact g4 i y h
    .simp[dD,AV.cells],λC A r hr=>by
    rw[yL]at hr;simp at hr;obtain⟨⟨rfl,rfl⟩,rfl⟩:=hr
    exact⟨z.symm,λ_=>M,λC A u=>by have:=M C A u;rw[z];omega⟩,U,λi y j v B hv=>by
    simp only[U]
    rcases O i y B with⟨hi,h⟩|⟨hi,_,rfl⟩
    .rw[zAs hi];exact⟨(g6.toV i y j v h hv).evo E,λ_=>(g6.toF Z i y j v h hv).evo E.size E.fz⟩
    .have:v= .bot:=by
      simp only[dD,AV.cells,zC9]at hv;split at hv
      .exact(zD4 hv).symm
      .cases hv
     subst this
     exact⟨.fz _ _ (.bot _),λ_=> .bot _⟩,λi j hi hj=>by
    rw[z]at hi;simp only[U];split
    .exact g7 i j ‹_› hj
    .exact c4 _ (I i j hi hj),λC A u=>by
    rw[yL]at u;simp at u
    rcases u with⟨rfl,rfl⟩|u
    .refine⟨c,el,c1,Y,λi j hi hj=>?_,c4⟩;simp only[U];split
     .exact c3 i j ‹_› hj
     .exact jO c _ (I i j hi hj)
    .obtain⟨c',W,d1,d2,_,d4⟩:=g8 C A (by rw[hbk];simp[u]);have:=M C A u;subst this
     exact⟨c',W,d1,d2,λi j hi _=>by omega,d4⟩⟩)
  exact⟨_,G⟩
def yi (hP:uY P TT) {hi:Operand} {k N:Nat} {ki:IntKind} (hx:yX (zK st.tm) x= .ref k 0 len) (hk:zD st.h k=some (.arr sz xs ⟨false,false⟩)) (hh:yX (zK st.tm) hi= .s (.int ki (N:Int))) (hT:TT[T]? =some ti) (hd:ti.d= .slice e) (he:TT[e]? =some te)
 (hl:1<=len) (hN:N<=ln xs) (ac:1<=N) (ag:N<=1073741824):wZ P st (.slice T x none (some hi) none) (.ref k 0 N) [] [k] []:=
 yZ λoo X tm h w β a ho hg O HH W=>by
  obtain⟨d0,o0,y0,p0,f0,g0⟩:=oo;dsimp only at ho;subst ho;have h1:=fD W hg (x:=x) uO hx;have hk':=(O k zV).trans hk;obtain⟨u,hu,L⟩:=wI (hP _ _ hT) w;obtain rfl:=uC (L.trans hd);have hs:=qK (hP _ _ he) w;generalize I:a.eval x=cx at h1
  cases h1 with
  |fz _ _ hf=>cases hf
  |dref _ _ _ _ hd _=>rw[hk']at hd;cases hd
  |ref0 _ _ U V st' b z hn=>omega
  | ref _ _ _ U V st' b n cap z hb hn hc C=>
   have Y:=z;rw[hk']at Y;cases Y;obtain⟨g1,g2,g3,g4,g5,f,g6,g7,g8⟩:=HH.ent k _ hk'
   have M:n=ln xs:=by
    cases hbk:β k with
    |nil=>rw[hbk]at hb;simp at hb
    |cons q r=>
     obtain⟨b0,n0⟩:=q;obtain⟨e1,E,_⟩:=g5 b0 n0 r hbk;have E:=E Z;rw[hbk]at hb;simp at hb
     rcases hb with⟨rfl,rfl⟩|hm
     .exact e1
     .have:=E b n hm;omega
   subst M;obtain⟨c,el,c1,c2,c3,c4⟩:=g8 b _ hb
   have G:c.size=cap*sz:=by
    have:wO w b=c.size:=by unfold wO World.shape?;rw[c1];rfl
    rw[<-this,<-C,zCa]
   have B:N<=cap:=by
    have h5:N*sz<=cap*sz:=by rw[<-G];exact zBx (zBg _ hN) c2
    exact zE1 h5 (by omega)
   have A:=fL (P:=P) W hg (lo:=none) (hi:=some hi) (len:=len) (cap:=cap) (l:=0) (r:=N) (λy S=>by cases S) (λy S=>by cases S;simp[Op.operands]) Z ⟨ki,N,hh,rfl⟩ (zBb _) B true;rw[zDv]at A;refine⟨_,by simp only[execOp,Instr.sliceAt,Instr.slice,Sem.run_bind,hu,Result.andThen_ok,I,zDv,A,hs,Sem.run_pure];rfl,?_⟩
   have e0:(if cap=0 then(some ⟨b,0*sz,none⟩:Option Addr)else(some ⟨b,0*sz,none⟩:Option Addr).map (·.add (0*te.size)))=some ⟨b,0*sz,none⟩:=by
    split
    .rfl
    .rw[zCq,ZN];simp
   have:=yI.ref (w:=w) (D:=xU X β) (h:=h) (β:=β) k 0 N sz xs ⟨false,false⟩ b (ln xs) cap hk' hb (by omega) B C;rw[e0];exact this
theorem FG (hP:uY P TT) {f:Nat} {fn:Func} {R:Nat} {fx y:Operand} {ax:Array Nat} {O S A I B av C:Nat} {xa xb:List AV} {fa fb:Fl} (a2:yX (zK st.tm) fx= .fn f []) (hx:yX (zK st.tm) x= .ref O 0 A) (a4:zD st.h O=some (.arr av xa fa)) (hy:yX (zK st.tm) y= .ref S I B) (a5:zD st.h S=some (.arr C xb fb))
 (a9:Nat.beq O S=false) (a8:1<=B) (a7:1<=A) (hT:TT[T]? =some ti) (hd:ti.d= .slice e) (he:TT[e]? =some te) (br:1<=C)
 (hf:P.funcs[f]? =some fn) (M:(fn.name== "runtime.NumGoroutine")=false) (hb:fn.body.isNone=true) (hn:Extern.findNext fn=none) (hE:Extern.find fn=some (Extern.SlicesOverlaps.overlaps #[T,T] #[R])):
  wZ P st (.call ⟨.value fx, #[x,y],ax⟩) (.s (.bool false)) [] [O,S] []:=
 yZ λoo X tm h w β a ho hg hr HH Ht=>by
  obtain⟨d0,o0,y0,p0,f0,g0⟩:=oo;dsimp only at ho;subst ho;have h1:=fD Ht hg (x:=x) kR hx;have h2:=fD Ht hg (x:=y) kR hy;have h3:=fD Ht hg (x:=fx) kR a2;have ag:=(hr O zV).trans a4;have ap:=(hr S zV).trans a5;have a6:O≠S:=λe=>by subst e;simp at a9
  obtain⟨u,hu,bk⟩:=wI (hP _ _ hT) w;obtain⟨i,z,bf,hi,hz,e1,e2,e3⟩:=vA hP hT hd he
  have a1:a.eval fx= .func (.func f) #[] #[]:=by
   generalize a.eval fx=cx at h3
   cases h3 with
   |fz _ _ hf=>cases hf
   |fn _ _ c hl hh=>
    have:c= #[]:=Array.eq_empty_of_size_eq_zero CB;rw[this]
  have au:∀{k off len sz xs fl c},h k=some (.arr sz xs fl)->1<=len->yI w (xU X β) h β (.ref k off len) c->∃b n cap cc el,c= .slice (some ⟨b,off*sz,none⟩) len cap/\(b,n)∈β k/\off+len<=n/\w.heap[b]? =some (.cells cc el (0,0))/\n*sz<=cc.size/\1<=sz:=λ{k off len sz xs fl c} hk hl hv=>by
   cases hv with
   |fz _ _ hf=>cases hf
   |dref _ _ _ _ hd _=>rw[hk]at hd;cases hd
   |ref0 _ _ _ _ _ _ _ _=>omega
   |ref _ _ _ bs bu st' b n cap E hb hn hc bl=>
    rw[hk]at E;cases E;obtain⟨g1,_,_,_,_,f,_,_,g8⟩:=HH.ent k _ hk;obtain⟨cc,el,c1,c2,_⟩:=g8 b n hb;exact⟨b,n,cap,cc,el,rfl,hb,hn,c1,c2,g1⟩
  obtain⟨U,na,ca,V,W,q1,q2,q3,q4,q5,q6⟩:=au ag a7 h1;obtain⟨bb,nb,cb,L,Y,r1,r2,r3,r4,r5,r6⟩:=au ap a8 h2;have az:U≠bb:=λe=>a6 (HH.disj O S U na nb q2 (by rw[e];exact r2))
  have bd:w.shape? U=some (W,V.size):=by unfold World.shape?;rw[q4]
  have ar:w.shape? bb=some (Y,L.size):=by unfold World.shape?;rw[r4]
  have a3:L.size≠0:=by
   have:=zBg C (show 1<=nb by omega);omega
  have ac:∀o,w.frozen? ⟨U,o,none⟩=false:=λo=>by simp[World.frozen?,q4]
  have G:=run_callFunc_extern hf M hb hn hE #[a.eval x,a.eval y] w;rw[q1,r1,Lib.run_overlaps_apart w T R e bf te.size (λw=>qK (hP _ _ he) w) ⟨U,0*av,none⟩ ⟨bb,I*C,none⟩ A ca B cb az W Y V.size L.size bd ar a3 (ac _) (ac _)]at G;exact⟨_,by simp only[execOp,resolve,a1,Deferred.ofValue,invoke];simpa [q1,r1]using G,.fz _ _ (.s _)⟩
theorem IJ {X:Nat->Prop} {h:yT} {β:uN} (L:jM X h β w) {kn:Nat} (U:h kn=none) {gc:Nat} {olds news:List Value} {zc:Array Value} (f g:Nat->Nat->Value) (hp:1<=sz) (A:ln olds=ln ys*sz) (ho:∀i j,i<ln ys->j<sz->olds[i*sz+j]? =some (f i j)) (ac:∀u∈olds,u.oneCell'=true)
 (E:ln news=ln vs*sz) (hn:∀i j,i<ln vs->j<sz->news[i*sz+j]? =some (g i j)) (Y:∀u∈news,u.oneCell'=true) (au:∀(i:Nat) (y:AV),ys[i]? =some y->ln y.cells=sz) (ar:∀(i:Nat) (y:AV),vs[i]? =some y->ln y.cells=sz)
 (M:∀i j,i<ln ys->j<sz->(f i j).oneCell'=true) (O:∀i j,i<ln vs->j<sz->(g i j).oneCell'=true) (ag:∀(i:Nat) (y:AV) (j:Nat) v,ys[i]? =some y->y.cells[j]? =some v->xM w (xU X β) v (f i j)) (ap:∀(i:Nat) (y:AV) (j:Nat) v,vs[i]? =some y->y.cells[j]? =some v->xM w (xU X β) v (g i j))
 (av:∀v∈zc.toList,v.oneCell'=true) (ax:zc.size=sz) (S:ln ys+ln vs<=gc) (W:ln ys+ln vs<=dY):
  ∃β',xV X w h β (w.drew.alloc (.cells (olds.toArray++news.toArray++Builtin.zeroCells zc (gc-(ln ys+ln vs))) e)) (over [(kn,.arr sz (ys++vs) false)] h) β'/\
   yI (w.drew.alloc (.cells (olds.toArray++news.toArray++Builtin.zeroCells zc (gc-(ln ys+ln vs))) e)) (xU X β') (over [(kn,.arr sz (ys++vs) false)] h) β' (.ref kn 0 (ys++vs).length) (.slice (some ⟨w.heap.size,0,none⟩) (ln ys+ln vs) gc):=by
 have HD:=L.drew (w.drawn+1);have z:(ys++vs).length=ln ys+ln vs:=by simp
 have C:∀(i:Nat) y,(ys++vs)[i]? =some y->(i<ln ys/\ys[i]? =some y)\/(¬i<ln ys/\vs[i-ys.length]? =some y):=λi y I=>by
  grind
 have B:∀{v c},xM w (xU X β) v c->xM w.drew (xU X β) v c:=λhf=>xM.evo (w:=w) (w':=w.drew) (zAy _) (λ_ _ hd=>⟨rfl,hd⟩) hf
 have:=xV.newArr (w:=w.drew) HD U (olds.toArray++news.toArray++Builtin.zeroCells zc (gc-(ln ys+ln vs))) e sz (ys++vs) gc (λi j=>if i<ln ys then f i j else g (i-ys.length) j) hp (by rw[z];exact W) (by rw[z];exact S) (by
   simp only[zE6,zDr,size_zeroCells,ax,A,E,<-zB4]
   congr 1;omega) (qZ.get (((qZ.arr ac).app (qZ.arr Y)).app (qZ.zero av _))) (λi y I=>by
   rcases C i y I with⟨_,h⟩|⟨_,h⟩
   .exact au i y h
   .exact ar _ y h) (λi j hi hj=>by
   rw[z]at hi
   have V:i*sz+j<(ln ys+ln vs)*sz:=by
    have:=zBg sz (show i+1<=ln ys+ln vs by omega)
    grind
   rw[zB4]at V;rw[zCv (by simp[A,E];omega)];split
   .rename_i hi'
    have a1:i*sz+j<ln ys*sz:=by
     grind
    rw[zCv (by simp[A];omega)];simpa using ho i j hi' hj
   .rename_i hi';have az:ln ys*sz<=i*sz:=zBg _ (by omega);have e4:i*sz+j-ys.length*sz=(i-ys.length)*sz+j:=by rw[zFo];omega
    rw[zEv (by simp[A];omega)];simp only[zDr,A,e4,zDh]
    exact hn _ _ (by omega) hj) (λi j hi hj=>by
   rw[z]at hi;split
   .exact M i j ‹_› hj
   .exact O _ j (by omega) hj) (λi y j v I hv=>by
   rcases C i y I with⟨hi,h⟩|⟨hi,h⟩
   .rw[zAs hi];exact B (ag i y j v h hv)
   .rw[Os hi];exact B (ap _ y j v h hv))
 obtain⟨β',G,hv⟩:=this;refine⟨β',xV.trans L (xV.drew L (w.drawn+1)) G,?_⟩;rw[z]at hv⊢;exact hv
def zo (E:uY P TT) {c:Nat} (M:yX (zK st.tm) x= .slc c xs) (hT:TT[T]? =some ti) (hd:ti.d= .slice e):wZ P st (.call ⟨.builtin .cap, #[x], #[T]⟩) (.s (.int .i64 (c:Int))) [] [] []:=
 yZ λO X tm h w β a B I Y S C=>by
  obtain⟨d0,o0,y0,p0,V,W⟩:=O;dsimp only at B;subst B;have h1:=fD C I (x:=x) kR M;obtain⟨u,L,A⟩:=wI (E _ _ hT) w;obtain rfl:=uC (A.trans hd);generalize z:a.eval x=U at h1
  cases h1 with
  | fz _ _ G=>
   cases G with
   |slc _ _ b o sz f hL hc hh=>
    exact⟨_,by simp[execOp,resolve,invoke,builtin,Builtin.cap_,z,L,goInt],.fz _ _ (.s _)⟩
def AP (E:uY P TT) {xs:List AV} (M:yX (zK st.tm) x= .slc c xs) (hT:TT[T]? =some ti) (hd:ti.d= .slice e):wZ P st (.call ⟨.builtin .len, #[x], #[T]⟩) (.s (.int .i64 (ln xs:Int))) [] [] []:=
 yZ λO X tm h w β a B I Y S C=>by
  obtain⟨d0,o0,y0,p0,V,W⟩:=O;dsimp only at B;subst B;have h1:=fD C I (x:=x) kR M;obtain⟨u,L,A⟩:=wI (E _ _ hT) w;obtain rfl:=uC (A.trans hd);generalize z:a.eval x=U at h1
  cases h1 with
  | fz _ _ G=>
   cases G with
   |slc _ _ b o sz f hL hc hh=>
    exact⟨_,by simp[execOp,resolve,invoke,builtin,Builtin.len_,z,L,goInt],.fz _ _ (.s _)⟩
def yo (O:uY P TT) {r:Nat} {hi:Operand} {V:IntKind} (hx:yX (zK st.tm) x= .slc c xs) (hh:yX (zK st.tm) hi= .s (.int V (r:Int))) (hT:TT[T]? =some ti) (hd:ti.d= .slice e) (Y:TT[e]? =some te) (L:r<=ln xs):
  wZ P st (.slice T x none (some hi) none) (.slc c (xs.take r)) [] [] []:=
 yZ λoo X tm h w β a U S ac HH M=>by
  obtain⟨d0,o0,y0,p0,f0,g0⟩:=oo;dsimp only at U;subst U;have h1:=fD M S (x:=x) uO hx;obtain⟨u,hu,G⟩:=wI (O _ _ hT) w;obtain rfl:=uC (G.trans hd);have hs:=qK (O _ _ Y) w;generalize E:a.eval x=cx at h1
  cases h1 with
  | fz _ _ hf=>
   cases hf with
   | slc _ _ b o sz f hL hc I=>
    have C:=fL (P:=P) M S (lo:=none) (hi:=some hi) (len:=ln xs) (cap:=c) (l:=0) (r:=r) (λy z=>by cases z) (λy z=>by cases z;simp[Op.operands]) Z ⟨V,r,hh,rfl⟩ (zBb _) (zBx L hc) true;rw[zDv]at C;have A:(xs.take r).length=r:=by simp;omega
    have B:∀(i:Nat) y,(xs.take r)[i]? =some y->xs[i]? =some y:=λi y z=>by
     rw[zCi]at z;split at z
     .exact z
     .cases z
    refine⟨_,by simp only[execOp,Instr.sliceAt,Instr.slice,Sem.run_bind,hu,Result.andThen_ok,E,zDv,C,hs,Sem.run_pure];rfl,.fz _ _ ?_⟩
    have W:(if c=0 then(some ⟨b,o,none⟩:Option Addr)else(some ⟨b,o,none⟩:Option Addr).map (·.add (0*te.size)))=some ⟨b,o,none⟩:=by
     split
     .rfl
     .rw[zCq,ZN];simp
    have:=xM.slc (w:=w) (D:=xU X β) c (xs.take r) b o sz f ⟨hL.lt,hL.nd,hL.pos,by rw[A];exact zBx L hL.max,λi y z=>hL.wide i y (B i y z),λi j hi hj=>hL.cell i j (by omega) hj,λi j hi hj=>hL.one i j (by omega) hj⟩ (by rw[A];exact zBx L hc) (λi y j v z hv=>I i y j v (B i y z) hv);rw[A]at this;rw[zFi,zFi,W];exact this
theorem vo (hP:uY P TT) {I n:Nat} {tn:TI} {k0:IntKind} {nx:Int} (kn:Nat) (hs:yX (zK st.tm) s= .slc c ys) (hx:yX (zK st.tm) x= .s (.int .i64 nx)) (hT:TT[T]? =some ti) (hd:ti.d= .slice e) (he:TT[e]? =some te) (hI:TT[I]? =some tn) (a5:tn.d= .int k0)
 (hb:Nat.ble te.bytes 65536=true) (hp:Nat.ble 1 te.size=true) (E:Nat.beq (ln te.zero) te.size=true) (ax:te.zero.all (·.oneCell')=true) (V:Nat.beq (uJ te).cells.length te.size=true) (az:(uJ te).cells=te.zero.map .s)
 (bk:nx=(n:Int)) (au:1<=n) (ap:ln ys+n<=1073741824) (hc:c<ln ys+n) (U:∀(i:Nat) (y:AV),ys[i]? =some y->ln y.cells=te.size):
  wZ P st (.call ⟨.builtin .append, #[s,x], #[T,I]⟩) (.ref kn 0 (ys++pi n (uJ te)).length) [(kn,.arr te.size (ys++pi n (uJ te)) false)] [] [kn]:=by
 refine⟨?_⟩;intro X tm h hg _ hn o a w β ho HH Ht;obtain⟨d0,o0,y0,p0,f0,g0⟩:=o;dsimp only at ho;subst ho;have h1:=fD Ht hg (x:=s) kR hs;have h2:=vR Ht hg (x:=x) kR hx;have hp:=zBa hp;have hb:=zBa hb;have E:=zBp E;have V:=zBp V;subst bk;obtain⟨i,z,S,hi,hz,e1,e2,e3⟩:=vA hP hT hd he;obtain⟨_,u2,_,_,br,_,a4,_⟩:=uI (hP _ _ hI);obtain rfl:=HO (a4.symm.trans a5);generalize a3:a.eval s=cx at h1
 cases h1 with
 | fz _ _ hf=>
  cases hf with
  | slc _ _ b o sz f hL bz hh=>
   have Y:z.cells.size=te.size:=by rw[<-E,<-e3];simp
   have hS:Qz w (xU X β) h β false ys te.size b o f:=⟨U,λi j hi hj=>by
    have:sz=te.size:=by
     have h4:=hL.wide i ys[i] XZ;have h5:=U i ys[i] XZ;omega
    subst this;exact hL.cell i j hi hj,λi j hi hj=>by
    have:sz=te.size:=by
     have h4:=hL.wide i ys[i] XZ;have h5:=U i ys[i] XZ;omega
    subst this;exact hL.one i j hi hj,.ofF hh⟩
   obtain⟨a7,a8⟩:=hS.flat hp
   have C:(ln ys+n)*i.bytes<=140737488355328:=by
    have:=zDj ap (show i.bytes<=65536 by omega);omega
   have bx:=growslice_fits (need:=ln ys+n) (old:=c) (bytes:=i.bytes) hc C;have hw:IntKind.i64.wrap (n:Int)=(n:Int):=kI ⟨by show(-9223372036854775808:Int)<=_;omega,by show _<=(9223372036854775807:Int);omega⟩
   have bl:n*i.size≠0:=by
    have:1*1<=n*i.size:=zDj au (by omega);omega
   have a1:¬(281474976710656<(n:Int)*(i.bytes:Int)):=by
    grind
   have ac:¬(281474976710656<Builtin.nextslicecap (ln ys+n) c*i.bytes):=by omega
   have a2:¬(9223372036854775807<((ln ys:Int)+(n:Int))):=by omega
   have O:¬(ln ys+n<=c):=by omega
   have ar:¬((n:Int)<0):=by omega
   have a9:=run_firstCells_some (P:=P) w.drew i.size (ln ys) ⟨b,o,none⟩ (ln ys) c (flat f (ln ys) i.size) (zZ _ _ _) (by rw[e1];simpa using a7)
   have G:(Builtin.append_ #[T,I] y0 #[.slice (some ⟨b,o,none⟩) (ln ys) c,.int .i64 (n:Int)]).run P w= .ok (.slice (some ⟨w.heap.size,0,none⟩) (ln ys+n) (grownCap w (ln ys+n) c e)) (w.drew.alloc (.cells ((flat f (ln ys) i.size).toArray++(Builtin.zeroCells z.cells n).toList.toArray++Builtin.zeroCells z.cells (grownCap w (ln ys+n) c e-(ln ys+n))) e)):=by
    have ha:(asIntOf (.int .i64 (n:Int))).run P w= .ok (.i64,(n:Int)) w:=rfl;simp[Builtin.append_,run_underlying S,run_underlying br,sizeOf,typeInfo,zeroValue,hi,hz,asInt,ha,hw,ar,a1,bl,a2,ac,O,Question.forced,a9,newRow,grownCap]
   generalize hW:w.drew.alloc (.cells ((flat f (ln ys) i.size).toArray++(Builtin.zeroCells z.cells n).toList.toArray++Builtin.zeroCells z.cells (grownCap w (ln ys+n) c e-(ln ys+n))) e)=W at G
   have a6:(execOp a.eval ⟨d0,.call ⟨.builtin .append, #[s,x], #[T,I]⟩,y0,p0,f0,g0⟩).run P w= .ok (.value (.slice (some ⟨w.heap.size,0,none⟩) (ln ys+n) (grownCap w (ln ys+n) c e))) W:=by
    simp[execOp,resolve,invoke,builtin,a3,h2,G]
   rw[a6];have ba:=grownCap_ge w (ln ys+n) c e;have A:(pi n (uJ te)).length=n:=by simp
   have ag:∀(j:Nat) v,(pi n (uJ te))[j]? =some v->v=uJ te:=λj v hv=>by
    grind
   have M:∀j,j<te.size->∃v,te.zero[j]? =some v/\z.cells.getD j undef=v:=λj hj=>by
    have:=jO z.cells j (by omega)
    grind
   have L:∀v∈z.cells.toList,v.oneCell'=true:=λv hv=>zA7.1 ax v NK
   have:=IJ (X:=X) (kn:=kn) (e:=e) (gc:=grownCap w (ln ys+n) c e) HH (hn kn zV) (ys:=ys) (vs:=pi n (uJ te)) (sz:=te.size) (olds:=flat f (ln ys) i.size) (news:=(Builtin.zeroCells z.cells n).toList) (zc:=z.cells) f (λ_ j=>z.cells.getD j undef) hp
    (by rw[zZ,e1]) (λB j hi' hj=>by rw[e1];exact kS f hi' hj) (by rw[e1];exact a8) (by rw[A,zDt,size_zeroCells,Y]) (λB j hi' hj=>by
     rw[A]at hi'
     have bd:B*te.size+j<n*te.size:=by
      have:=zBg te.size (show B+1<=n by omega)
      grind
     have bf:(B*te.size+j) % te.size=j:=by rw[zEu,zFh];exact zDm hj
     rw[Array.getElem?_toList];simp only[Builtin.zeroCells,zFq,zFa,Y,bd,zE2,zCq,bf]
     congr 1
     have bb:j<z.cells.size:=by omega
     simp[zBu,bb]) (λu S=>qZ.zero L n u S) hS.wide (λB y hy=>by rw[ag B y hy];exact V) hS.one (λB j _ hj=>by
     obtain⟨v,hv,bs⟩:=M j hj;rw[bs]
     exact zA7.1 ax v (zCf hv)) (λB y j v hy hv=>hS.rep.toF Z B y j v hy hv) (λB v j u hv S=>by
     rw[ag B v hv,az]at S;rw[zA1,zBc]at S;obtain⟨q,hq,rfl⟩:=S;have hj:j<te.size:=by rw[<-E];exact(zBk.1 hq).1
     obtain⟨v',av,bu⟩:=M j hj;rw[hq]at av;cases av;rw[bu]
     exact .s _) L Y (by rw[A];exact ba) (by rw[A];unfold dY;omega)
   rw[A,hW]at this;exact this
theorem xi (hP:uY P TT) {xv:AV} (kn:Nat) (hs:yX (zK st.tm) s= .slc c ys) (hx:yX (zK st.tm) x=xv) (hT:TT[T]? =some ti) (hd:ti.d= .slice e) (he:TT[e]? =some te) (av:CQ (zD st.h) xv=some vs)
 (hb:Nat.ble te.bytes 65536=true) (L:Nat.ble 1 te.size=true) (G:Nat.beq (ln te.zero) te.size=true) (ax:te.zero.all (·.oneCell')=true)
 (au:∀y,vs[0]? =some y->ln y.cells=te.size) (B:1<=ln vs) (I:ln ys+ln vs<=1073741824) (hc:c<ln ys+ln vs) (E:∀(i:Nat) (y:AV),ys[i]? =some y->ln y.cells=te.size):
  wZ P st (.call ⟨.builtin .append, #[s,x], #[T,T]⟩) (.ref kn 0 (ys++vs).length) [(kn,.arr te.size (ys++vs) false)] (PN xv) [kn]:=by
 refine⟨?_⟩;intro X tm h hg hr hn o a w β ho HH Ht;obtain⟨d0,o0,y0,p0,f0,g0⟩:=o;dsimp only at ho;subst ho;have h1:=fD Ht hg (x:=s) kR hs;have h2:=fD Ht hg (x:=x) kR hx;have L:=zBa L;have hb:=zBa hb;have G:=zBp G;obtain⟨i,z,hu,hi,hz,e1,e2,e3⟩:=vA hP hT hd he;obtain⟨ad,cap,S,_,a2,M⟩:=cS HH h2 ((fM hr).trans av) au;obtain⟨b2,q,g,rfl,u⟩:=M (λh0=>by rw[h0]at B;simp at B);obtain⟨ag,ap⟩:=u.flat L;generalize U:a.eval s=cx at h1
 cases h1 with
 | fz _ _ hf=>
  cases hf with
  | slc _ _ b o sz f hL a1 hh=>
   have az:z.cells.size=te.size:=by rw[<-G,<-e3];simp
   have O:Qz w (xU X β) h β false ys te.size b o f:=⟨E,λi j hi hj=>by
    have:sz=te.size:=by
     have h4:=hL.wide i ys[i] XZ;have h5:=E i ys[i] XZ;omega
    subst this;exact hL.cell i j hi hj,λi j hi hj=>by
    have:sz=te.size:=by
     have h4:=hL.wide i ys[i] XZ;have h5:=E i ys[i] XZ;omega
    subst this;exact hL.one i j hi hj,.ofF hh⟩
   obtain⟨Y,ac⟩:=O.flat L
   have A:(ln ys+ln vs)*i.bytes<=140737488355328:=by
    have:=zDj I (show i.bytes<=65536 by omega);omega
   have C:=run_append_grow (P:=P) w T y0 e i z hu hi hz ⟨b,o,none⟩ (ln ys) c (flat f (ln ys) te.size) (by rw[zZ,e1]) Y ⟨b2,q,none⟩ (ln vs) cap (flat g (ln vs) te.size) (by rw[zZ,e1]) ag hc (by omega) (growslice_fits hc A);generalize hW:w.drew.alloc (.cells ((flat f (ln ys) te.size).toArray++(flat g (ln vs) te.size).toArray++Builtin.zeroCells z.cells (grownCap w (ln ys+ln vs) c e-(ln ys+ln vs))) e)=W at C
   have V:(execOp a.eval ⟨d0,.call ⟨.builtin .append, #[s,x], #[T,T]⟩,y0,p0,f0,g0⟩).run P w= .ok (.value (.slice (some ⟨w.heap.size,0,none⟩) (ln ys+ln vs) (grownCap w (ln ys+ln vs) c e))) W:=by
    simp[execOp,resolve,invoke,builtin,U,S,C]
   rw[V];have ar:=grownCap_ge w (ln ys+ln vs) c e
   have:=IJ (X:=X) (kn:=kn) (e:=e) (gc:=grownCap w (ln ys+ln vs) c e) HH (hn kn zV) (ys:=ys) (vs:=vs) (sz:=te.size) (olds:=flat f (ln ys) te.size) (news:=flat g (ln vs) te.size) (zc:=z.cells) f g L
    (zZ _ _ _) (λi' j hi' hj=>kS f hi' hj) ac (zZ _ _ _) (λi' j hi' hj=>kS g hi' hj) ap O.wide u.wide O.one u.one (O.rep.toF Z) (u.rep.toF Z) (λv hv=>zA7.1 ax v NK) az ar (by unfold dY;omega)
   rw[hW]at this;exact this
theorem wi (hP:uY P TT) {k:Nat} {xv:AV} (hs:yX (zK st.tm) s= .ref k 0 len) (hk:zD st.h k=some (.arr sz xs ⟨false,false⟩)) (hx:yX (zK st.tm) x=xv) (hT:TT[T]? =some ti) (hd:ti.d= .slice e) (he:TT[e]? =some te) (bx:CQ (zD st.h) xv=some vs)
 (S:Nat.beq sz te.size=true) (bu:∀y,vs[0]? =some y->ln y.cells=sz) (ag:1<=ln vs) (hl:1<=len) (a1:len+ln vs<=ln xs) (b3:ln xs<=1073741824):
    wZ P st (.call ⟨.builtin .append, #[s,x], #[T,T]⟩) (.ref k 0 (len+ln vs)) [(k,.arr sz (xs.take len++vs++xs.drop (len+ln vs)) ⟨false,false⟩)] (k::PN xv) []:=by
  refine⟨?_⟩;intro X tm h hg hr _ o a w β ho HH Ht;obtain⟨d0,o0,y0,p0,f0,g0⟩:=o;dsimp only at ho;subst ho;have hk':=(hr k zV).trans hk;have h1:=fD Ht hg (x:=s) kR hs;have h2:=fD Ht hg (x:=x) kR hx;have S:=zBp S;obtain⟨i,z,hu,hi,hz,e1,e2,e3⟩:=vA hP hT hd he;obtain⟨g1,g2,g3,g4,g5,f,g6,g7,g8⟩:=HH.ent k _ hk';obtain⟨ad,cap,bf,_,b6,a9⟩:=cS HH h2 ((fM λk' hk=>hr k' (by simp[hk])).trans bx) bu;obtain⟨b2,q,fy,rfl,hS⟩:=a9 (λh0=>by rw[h0]at ag;simp at ag);obtain⟨br,a5⟩:=hS.flat g1;generalize bk:a.eval s=cx at h1
  cases h1 with
  |fz _ _ hf=>cases hf
  |dref _ _ _ _ hd _=>rw[hk']at hd;cases hd
  |ref0 _ _ bz b1 st' b ac hn=>omega
  | ref _ _ _ bz b1 st' b n cp ac L hn hc a8=>
    have h3:=ac;rw[hk']at h3;cases h3
    obtain⟨rr,hbk,bs,az⟩:∃rr,β k=(b,n)::rr/\n=ln xs/\∀O V,(O,V)∈rr->V=0:=by
      cases hbk:β k with
      |nil=>rw[hbk]at L;simp at L
      | cons q r=>
        obtain⟨b0,n0⟩:=q;obtain⟨e1,e2,_⟩:=g5 b0 n0 r hbk;have e2:=e2 Z;rw[hbk]at L;simp at L
        rcases L with⟨rfl,rfl⟩|hm
        · exact⟨r,rfl,e1,e2⟩
        · have:=e2 b n hm;omega
    subst bs;obtain⟨I,el,c1,c2,c3,c4⟩:=g8 b _ L
    have bd:I.size=cp*sz:=by
      have:wO w b=I.size:=by unfold wO World.shape?;rw[c1];rfl
      rw[<-this,<-a8,zCa]
    have b4:ln xs<=cp:=by
      have h5:ln xs*sz<=cp*sz:=by rw[<-bd];exact c2
      exact zE1 h5 (by omega)
    have Y:(len+ln vs)*sz<=I.size:=zBx (zBg _ a1) c2
    have ap:=bC hP hT hd he w y0 b 0 len cp I el c1 ⟨b2,q,none⟩ (ln vs) cap (flat fy (ln vs) sz) (by rw[zZ,S]) br a5 (by omega) (by
      rw[zZ,<-S,zCa,<-zB4];exact Y)
    have bb:0*sz=0:=zEc _;generalize C:(I.toList.take (0+len*te.size)++flat fy (ln vs) sz++I.toList.drop (0+len*te.size+(flat fy (ln vs) sz).length)).toArray=B at ap
    have bl:(execOp a.eval ⟨d0,.call ⟨.builtin .append, #[s,x], #[T,T]⟩,y0,p0,f0,g0⟩).run P w= .ok (.value (.slice (some ⟨b,0,none⟩) (len+ln vs) cp)) (w.setRow b B):=by
      simp[execOp,resolve,invoke,builtin,bk,bf,ap]
    rw[bl];rw[zB4]at Y;rw[zCa,<-S]at C
    have ar:B.size=I.size:=by
      rw[<-C];simp only[zDr,zAx,zBi,zBr,zDt,zZ];omega
    have ax:∀q,q<B.size->(B.getD q undef).oneCell'=true:=by
      rw[<-C];refine qZ.get (qZ.arr λv hv=>?_);have a4:=qZ.of c4
      rcases zBe.1 hv with hv|hv
      · rcases zBe.1 hv with hv|hv
        · exact a4 v (zCr hv)
        · exact a5 v hv
      · exact a4 v (zB1 hv)
    let f':Nat->Nat->Value:=λi j=>if len<=i/\i<len+ln vs then fy (i-len) j else f i j
    have M:(xs.take len++vs++xs.drop (len+ln vs)).length=ln xs:=by
      simp only[zAx,zBi,zBr];omega
    have a3:∀(i:Nat) y,(xs.take len++vs++xs.drop (len+ln vs))[i]? =some y->(len<=i/\i<len+ln vs/\vs[i-len]? =some y)\/(¬(len<=i/\i<len+ln vs)/\xs[i]? =some y):=λi y hy=>by
      have ht:(xs.take len).length=len:=by simp;omega
      by_cases h5:i<len
      · rw[zBl,zBw (by omega),zCi,zAs h5]at hy;exact .inr ⟨by omega,hy⟩
      · by_cases h6:i<len+ln vs
        · rw[zBl,zBy (by omega),ht,zBw (by omega)]at hy;exact .inl ⟨by omega,h6,hy⟩
        · rw[zBy qB]at hy;simp only[zAx,ht]at hy;rw[zC1,show len+ln vs+(i-(len+ln vs))=i by omega]at hy;exact .inr ⟨by omega,hy⟩
    have av:∀i j,i<ln xs->j<sz->B[i*sz+j]? =some (f' i j):=λi j hi hj=>by
      rw[<-C];simp only[f',zDh];by_cases h5:i<len
      · have a7:i*sz+j<len*sz:=by
          have:=zBg sz (show i+1<=len by omega);rw[zB4,zC4]at this;omega
        rw[Os (by omega),zBl,zBw qB,zCi,zAs a7];simpa using c3 i j hi hj
      · have ht:(List.take (len*sz) I.toList).length=len*sz:=by simp;omega
        have b5:len*sz<=i*sz:=zBg _ (by omega);by_cases h6:i<len+ln vs
        · have e4:i*sz+j-len*sz=(i-len)*sz+j:=by rw[zFo];omega
          have a7:(i-len)*sz+j<ln vs*sz:=by
            have:=zBg sz (show(i-len)+1<=ln vs by omega);rw[zB4,zC4]at this;omega
          rw[zAs (by omega),zBl,zBy (by rw[ht];omega),ht,zBw (by rw[zZ];omega),e4];exact kS fy (by omega) hj
        · have a6:(len+ln vs)*sz<=i*sz:=zBg _ (by omega);rw[zB4]at a6;rw[Os (by omega),zBy (by simp only[zAx,ht,zZ];omega),zC1];simp only[zAx,ht,zZ];rw[show len*sz+ln vs*sz+(i*sz+j-(len*sz+ln vs*sz))=i*sz+j by omega];simpa using c3 i j hi hj
    have G:=xV.step (w':=w.setRow b B) HH k (.arr sz (xs.take len++vs++xs.drop (len+ln vs)) ⟨false,false⟩) (β k) zV (λj hj hn=>setRow_other w b j B (λe=>hn (ln xs) Re)) Z Z Z (λb n hm=> .inl ⟨n,hm⟩) (λb n _=>kJ c1 ar b)
      (λe he=>by rw[hk']at he;cases he;exact .inr ⟨⟨_,_,rfl,by rw[M];exact zAy _⟩,λ_ n hm=>⟨n,zAy _,hm⟩⟩) λE=>⟨g1,by rw[M];exact g2,λ_=>by rw[yL,hbk];simp,λU W a2=>by
        rcases a3 U W a2 with⟨_,_,h⟩|⟨_,h⟩
        · exact hS.wide _ W h
        · exact g4 U W h,λO V r A=>by
        rw[yL]at A;rw[M]
        exact g5 O V r A,f',λU W j u a2 hu=>by
        simp only[f']
        rcases a3 U W a2 with⟨q1,q2,h⟩|⟨q1,h⟩
        · rw[zAs ⟨q1,q2⟩];exact⟨(hS.rep.toV _ W j u h hu).evo E,λ_=>(hS.rep.toF Z _ W j u h hu).evo E.size E.fz⟩
        · rw[Os q1];exact⟨(g6.toV U W j u h hu).evo E,λ_=>(g6.toF Z U W j u h hu).evo E.size E.fz⟩,λU j hi' hj=>by
        rw[M]at hi';simp only[f'];split
        · exact hS.one _ _ (by omega) hj
        · exact g7 U j hi' hj,λO V A=>by
        rw[yL,hbk]at A;simp at A;by_cases au:O=b
        · subst au;refine⟨B,el,setRow_heap w _ _ _ _ _ c1,?_,λU j hi' hj=>?_,ax⟩
          · rw[ar]
            rcases A with⟨_,rfl⟩|A
            · exact c2
            · have:=az O V A;subst this;omega
          · rcases A with⟨_,rfl⟩|A
            · exact av U j hi' hj
            · have:=az O V A;omega
        · have A : (O, V) ∈ rr := by     rcases A with⟨h,_⟩|h;· exact absurd h au
                                         · exact h
          obtain⟨c',ba,q1,q2,_,q4⟩:=g8 O V (by rw[hbk];simp[A]);have:=az O V A;subst this
          exact⟨c',ba,(setRow_other w b O B au).trans q1,q2,λU j hi' _=>by omega,q4⟩⟩
    refine⟨_,G,?_⟩;have hR:yI w (xU X β) h β (.ref k 0 (len+ln vs)) (.slice (some ⟨b,0*sz,none⟩) (len+ln vs) cp):= .ref k 0 (len+ln vs) sz xs ⟨false,false⟩ b (ln xs) cp hk' L (by omega) (by omega) a8;rw[bb]at hR;exact hR.evo G.evo
theorem wd (hP:uY P TT) {k:Nat} {xs:List AV} (hx:yX (zK st.tm) x= .ref k 0 len) (hk:zD st.h k=some (.arr sz xs ⟨false,false⟩)) (hT:TT[T]? =some ti) (hd:ti.d= .slice e) (hl:1<=len):
  i7 P st (.call ⟨.builtin .cap, #[x], #[T]⟩) (λv d=>∃c:Int,v= .s (.int .i64 c)/\(ln xs:Int)<=c/\d=[]) [k] []:=by
 refine⟨λX tm h hg hr _ o a w β U O V=>?_⟩;obtain⟨d0,o0,y0,p0,f0,g0⟩:=o;dsimp only at U;subst U;have h1:=fD V hg (x:=x) kR hx;have hk':=(hr k zV).trans hk;obtain⟨u,hu,E⟩:=wI (hP _ _ hT) w;obtain rfl:=uC (E.trans hd);generalize C:a.eval x=cx at h1
 cases h1 with
 |fz _ _ hf=>cases hf
 |dref _ _ _ _ hd _=>rw[hk']at hd;cases hd
 |ref0 _ _ L M st' b z hn=>omega
 | ref _ _ _ L M st' b n cap z hb hn hc I=>
  have S:=z;rw[hk']at S;cases S
  have A:(execOp a.eval ⟨d0,.call ⟨.builtin .cap, #[x], #[T]⟩,y0,p0,f0,g0⟩).run P w= .ok (.value (.int .i64 cap)) w:=by
   simp[execOp,resolve,invoke,builtin,Builtin.cap_,C,hu,goInt]
  rw[A];obtain⟨g1,g2,g3,g4,g5,f,g6,g7,g8⟩:=O.ent k _ hk'
  have G:n=ln xs:=by
   cases hbk:β k with
   |nil=>rw[hbk]at hb;simp at hb
   |cons q r=>
    grind
  subst G;obtain⟨c,el,W,Y,c3,c4⟩:=g8 b _ hb
  have B:c.size=cap*sz:=by
   have:wO w b=c.size:=by unfold wO World.shape?;rw[W];rfl
   rw[<-this,<-I,zCa]
  have ac:ln xs<=cap:=by
   have h5:ln xs*sz<=cap*sz:=by rw[<-B];exact Y
   exact zE1 h5 (by omega)
  exact⟨_,[],⟨cap,rfl,by omega,rfl⟩,β,by rw[dZ];exact xV.refl O,by rw[dZ];exact .fz _ _ (.s _)⟩
end
section
variable {P:Program} {K0:List Nat} {F:Fr K0} {m:Nat} {ops:Array Oper} {rest:List Oper} {fs:List FP} {Q:List FP->St->Prop} {tm:List (Nat×AV)} {h:List (Nat×xW)}
theorem wK.restr2 {a:Act} (R:wK F m st a w) (K A:List Nat) (G:K0.all (K.contains ·)=true) (t:Nat) (v:AV) (hg:∀i,v≠ .gh i)
 (hv:∀X β,jM X (zD st.h) β w->yI w (xU X β) (zD st.h) β (zK st.tm t) (a.eval (.tmp t))->yI w (xU X λk=>if k∈K then β k else []) (zD (wX K (zD st.h))) (λk=>if k∈K then β k else []) v (a.eval (.tmp t))):
  wK F m ⟨(t,v)::(Av.restr K A st).tm,(Av.restr K A st).h⟩ a w:=by
 have Y:=wK.restr R K A G;obtain⟨⟨X,β,hX,H,V,z,hJ,hD⟩,nd,gs,hl⟩:=R;obtain⟨U,L⟩:=H.restr K;refine⟨⟨X,_,hX,U,λj=>?_,⟨λk e W=>?_,z.size,z.keep,λk b n u=>?_,λk b n u=>?_,z.bs,z.os,z.tape,z.output⟩,λi hi=>?_,hD⟩,Y.nd,gs,hl⟩
 .show yI _ _ _ _ (zK ((t,v)::(Av.restr K A st).tm) j) _
  rw[xF];split
  .rename_i hj;subst hj;exact hv X β H (V j)
  .rw[gF];split
   .exact L _ _ (V j)
   .exact .fz _ _ (.bot _)
 .have hk:k∈K:=by
   have:=zA7.1 G k (F.hh k e W);simpa using this
  have h1:=z.knd k e W;have I:∀C,zD st.h k=some C->zD (wX K (zD st.h)) k=some (qY K (zD st.h) C):=λC h2=>by rw[wG,zAs hk,h2];rfl
  cases e with
  |dead=>exact h1
  |box cs=>obtain⟨B,h2⟩:=h1;exact⟨_,I _ h2⟩
  |obj cs=>obtain⟨B,h2⟩:=h1;exact⟨_,I _ h2⟩
  |arr sz xs sl=>obtain⟨O,M,h2,h3⟩:=h1;obtain⟨S,E,h4,h5⟩:=gP K (zD st.h) sz O M;exact⟨S,E,(I _ h2).trans (by rw[h4]),by rw[h5];exact h3⟩
 ·(try dsimp only at u)
  split at u
  .exact z.own k b n u
  .simp at u
 .have hk:k∈K:=by
   have:=zA7.1 G k (F.hK k b n u);simpa using this
  (try dsimp only)
  rw[zAs hk];exact z.pas k b n u
 .have h1:zK st.tm GS= .gh i:=by
   change zK ((t,v)::(Av.restr K A st).tm) GS= .gh i at hi
   grind [wK,zD,xU,zK,wX,xF,gF,HG]
  refine F.Jst i _ X w w _ (hJ i h1) (zAy _) (λ_ _ _=>rfl) (λb hb=>?_) (λb hb=>?_) Z Z Z
  .obtain⟨k,n,u⟩:=hb
   (try dsimp only at u)
   split at u
   .exact .inl ⟨k,n,u⟩
   .simp at u
  .obtain⟨k,n,u⟩:=hb;exact U.lt b (.inr ⟨k,n,u⟩)
def U2 (t k N:Nat) (K Y:List Nat) (hv:zK tm t= .ref k 0 (ln xs)) (hk:zD h k=some (.arr sz xs ⟨false,false⟩)) (hl:1<=ln xs) (hN:ln xs<=N) (M:N<=1073741824) (hK:K0.all (K.contains ·)=true) (I:K.contains k=false) {st':St} (he:restr K Y ⟨tm,h⟩=st')
 (h1:∀c,c<N->yN P F m ops false rest ⟨(t,.slc c xs)::st'.tm,st'.h⟩ fs Q) (h2:yN P F m ops false rest ⟨tm,(k,.arr sz (xs++pi (N-xs.length) (dD sz)) ⟨false,false⟩)::h⟩ fs Q):yN P F m ops false rest ⟨tm,h⟩ fs Q:=⟨λa w R=>by
 subst he;have R0:=R;obtain⟨⟨X,β,hX,V,W,KK,hJ,hD⟩,nd,gs,L⟩:=R0;have u:=W t;dsimp only at u;rw[hv]at u;obtain⟨b,cap,A,z⟩:=zi V hk u hl hN M;by_cases hc:cap<N
 .refine(h1 cap hc).run a w (wK.restr2 R K Y hK t (.slc cap xs) (λi h=>by cases h) λX β H C=>?_);dsimp only at C;rw[hv]at C;obtain⟨H',S⟩:=H.restr K;have B:=S _ _ C
  have e5:wW K (zD h) (.ref k 0 (ln xs))= .sl false xs:=by
   simp only[wW,I,zCu,hk];rw[zBf,zAv]
  dsimp only at B⊢;rw[e5,A]at B;rw[A];have O:xs≠[]:=λh0=>by rw[h0]at hl;simp at hl
  generalize E:(Value.slice (some ⟨b,0*sz,none⟩) (ln xs) cap)=cs at B
  cases B with
  | fz _ _ hf=>
   cases hf with
   |nil a cap=>exact absurd Z O
   |sl nn xs b o sz cap f hx hL hc hh=>
    cases E;exact .fz _ _ (.slc _ _ _ _ _ f hL hc hh)
 .obtain⟨β',G⟩:=z (by omega);refine h2.run a w ?_;have U:∀j,over [(k,xW.arr sz (xs++pi (N-xs.length) (dD sz)) ⟨false,false⟩)] (zD h) j≠some .dead:=eQ Z nd;have R':=WM.put hX V W KK hJ hD gs L G U (v:= .bot) (c:=undef) (.fz _ _ (.bot _)) none (λd hd=>by cases hd);have e1:(λj=>if(none:Option Nat)=some j then AV.bot else zK tm j)=zK tm:=funext λj=>by simp
  show WM F m (zK tm) (zD ((k,xW.arr sz (xs++pi (N-xs.length) (dD sz)) ⟨false,false⟩)::h)) a w
  rw[show zD ((k,xW.arr sz (xs++pi (N-xs.length) (dD sz)) ⟨false,false⟩)::h)=over [(k,xW.arr sz (xs++pi (N-xs.length) (dD sz)) ⟨false,false⟩)] (zD h)from vE [(k,xW.arr sz (xs++pi (N-xs.length) (dD sz)) ⟨false,false⟩)] h,<-e1]
  exact R'⟩
def vd (t:Nat) (hv:zK tm t= .slc c xs) (z:1<=ln xs) (hk:yN P F m ops false rest ⟨(t,.sl true xs)::tm,h⟩ fs Q):yN P F m ops false rest ⟨tm,h⟩ fs Q:=⟨λa w R=>hk.run a w (by
 obtain⟨⟨X,β,I,A,u,B,G,E⟩,M,gs,hl⟩:=R;refine⟨⟨X,β,I,A,λj=>?_,B,λi hi=>?_,E⟩,M,gs,hl⟩
 .rw[xF];split
  .rename_i hj;subst hj;have:=u j;dsimp only at this;rw[hv]at this;generalize a.eval (.tmp j)=O at this
   cases this with
   |fz _ _ L=>
    cases L with
    |slc _ _ b o sz f hL hc hh=>exact .fz _ _ (.sl true xs b o sz c f (λC=>by rw[C]at z;simp at z) hL hc hh)
  .exact u j
 .rw[xF]at hi;split at hi
  .cases hi
  .exact G i hi)⟩
end
section
variable {P:Program} {K0:List Nat} {F:Fr K0} {m:Nat} {ops:Array Oper} {rest:List Oper} {fs:List FP} {tm:List (Nat×AV)} {h:List (Nat×xW)}
def uo {K u:List Nat} {k:List (Nat×AV)->List (Nat×xW)->Prop} (hk:hG K (zD st.h) st.tm u λT=>jU K (zD st.h) K λU=>k T U):k (restr K u st).tm (restr K u st).h:=by
 rw[dS,kW]at hk;exact hk
def vV {Q:List FP->St->Prop} (K u:List Nat) (z:K0.all (K.contains ·)=true) (h1:hG K (zD h) tm u λT=>jU K (zD h) K λU=>yN P F m ops false rest ⟨T,U⟩ fs Q):yN P F m ops false rest ⟨tm,h⟩ fs Q:=
 ⟨λa w R=>(uo (st:=⟨tm,h⟩) (k:=λT U=>yN P F m ops false rest ⟨T,U⟩ fs Q) h1).run a w (wK.restr R K u z)⟩
def wJ {c:Code} (K u:List Nat) (z:K0.all (K.contains ·)=true) (h1:hG K (zD st.h) st.tm u λT=>jU K (zD st.h) K λU=>uE P F m c ⟨T,U⟩ Q):uE P F m c st Q:=
 kY K u z Z (uo (k:=λT U=>uE P F m c ⟨T,U⟩ Q) h1)
structure Ku (p:Prop):Prop where
 h:p
def OC (P:Program) (F:Fr K0) (m:Nat) (c:Code) (Q:Exit->St->Prop) (K u:List Nat):Nat->St->Prop
 |0,_=>False
 |n+1,st=>uE P F m c (restr K u st) (cE Q λs=>Ku (OC P F m c Q K u n s))
def wB {c:Code} (n:Nat) (K u:List Nat) (z:K0.all (K.contains ·)=true) (h1:Ku (OC P F m c Q K u n st)):uE P F m (.loop c) st Q:=⟨λa w R=>by
 refine wpIn_loop_rounds n ?_
 induction n generalizing st a w with
 |zero=>exact h1.h.elim
 |succ n A=>
  refine Code.wpIn_mono (λe a' w' ⟨s,q1,q2⟩=>?_) (h1.h.run a w (wK.restr R K u z))
  cases e with
  |normal=>exact A q1 a' w' q2
  |_=>exact⟨s,q1,q2⟩⟩
def yB {st0:St} {c:Code} {n:Nat} {K u:List Nat} (z:restr K u st=st0) (h1:uE P F m c st0 (cE Q λs=>Ku (OC P F m c Q K u n s))):Ku (OC P F m c Q K u (n+1) st):=by
 subst z;exact⟨h1⟩
theorem ud {α:Type} {cs vs:List α} (hl:ln vs=ln cs):UM cs 0 vs=vs:=by
 apply zB2;intro j;rw[YV _ _ _ _ (by omega)]
 grind
def S2 {TT:List TI} {A:Bool} {Q:List FP->St->Prop} {ty:Nat} {pos:String} {u:Array Edge} (E:uY P TT) {k:Nat} {p:Operand} {cs:List AV} (G:yX (zK tm) p= .ptr k 0 0) (z:zD h k=some (.box cs)) (I:yX (zK tm) x= .agg vs) (hT:TT[T]? =some ti) (B:Nat.beq (ln vs) ti.size=true) (hl:Nat.beq (ln vs) (ln cs)=true)
 (hk:yN P F m ops A rest ⟨tm,(k,.box vs)::h⟩ (⟨true,[k],[k]⟩::fs) Q):yN P F m ops A (⟨none,.store T p x,ty,pos,u,none⟩::rest) ⟨tm,h⟩ fs Q:=by
 have e1:=zBp B;have C:=zBp hl;refine cQ (v:= .bot) (k:=k) (e:= .box vs) (r:=[k]) (nw:=[]) E ?_ Z Z hk;simp only[exec,G,hT,z,I,gj,AV.ok,AV.cells,gR,ud C]
 rw[show(true&&(Nat.beq (ln vs) ti.size&&Nat.ble (0+ti.size) (ln cs)))=true by
  rw[B,zEa (by omega)];rfl]
 rfl
end
