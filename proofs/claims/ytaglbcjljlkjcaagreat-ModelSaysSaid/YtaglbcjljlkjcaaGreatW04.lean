/- Part 4. -/
import Derived.Test.YtaglbcjljlkjcaaGreatW03
import Derived.Lib.Overlaps
import Derived.LoopNIn
namespace Go.Proofs.YtaglbcjljlkjcaaGreat.Av
set_option linter.all false
open List renaming length->ln,replicate->pb
open Inhabited renaming default->dd
variable {Q:Exit->St->Prop}{vs xs ys:List AV}{T c e len sz:Nat}{s x:Operand}{st:St}{te ti:TI}{w:World}
structure X7 (P:Program) (st:St) (op:Op) (O:AV->List (Nat×xW)->Prop) (r nw:List Nat):Prop where
 run:∀(X:Nat->Prop) (tm:Nat->AV) (h:yS),(∀t,t∈fI op->tm t=zK st.tm t)->(∀k,k∈r->h k=zD st.h k)->(∀k,k∈nw->h k=none)->∀(o:Oper) (a:Act) (w:World) (β:uM),o.op=op->jL X h β w->(∀t,yI w (xT X β) h β (tm t) (a.eval (.tmp t)))->
  aG P (λc w'=>∃v d,O v d/\∃β',xU X w h β w' (over d h) β'/\yI w' (xT X β') (over d h) β' v c) ((execOp a.eval o).run P w)
section
variable {P:Program} {K0:List Nat} {F:Fr K0} {m:Nat} {ops:Array Oper} {rest:List Oper} {fs fs':List FP} {Q:List FP->St->Prop} {tm:List (Nat×AV)} {h:List (Nat×xW)} {op:Op} {ty:Nat} {pos:String} {after:Array Edge} {t:Nat} {r nw:List Nat} {O:AV->List (Nat×xW)->Prop}
def x_m (hs:X7 P ⟨tm,h⟩ op O r nw) (W:Nat.blt t m=true) (Y:nw.all (λj=>(zD h j).isNone)=true) (hd:∀v d,O v d->vX d=true) (hk:∀v d,O v d->yN P F m ops false rest ⟨(t,v)::tm,d++h⟩ fs' Q):
  yN P F m ops false (⟨some t,op,ty,pos,after,none⟩::rest) ⟨tm,h⟩ fs Q:=⟨λa w R=>wpListIn_plain Z λK S=>by
 obtain⟨⟨X,β,U,A,B,C,M,L⟩,nd,gs,hl⟩:=R;refine aG.wp (hs.run X (zK tm) (zD h) (λ_ _=>rfl) (λ_ _=>rfl) (λk hk=>by have:=zA5.1 Y k hk;simpa using this) ⟨some t,op,ty,pos,after,none⟩ a w β rfl A B) ?_;rintro c w' ⟨v,d,hO,β',G,hc⟩;have u:=hd v d hO
 have z:∀k,over d (zD h) k≠some .dead:=λk=>by
  unfold over;split
  .rename_i e V;intro I;cases I;exact qG u V
  .exact nd k
 refine S _ _ ((hk v d hO).run _ _ ?_);have E:=WK.put U A B C M L gs hl G z hc (some t) (λj hj=>by cases hj;exact zA8 W)
 have e1:zK ((t,v)::tm)=λj=>if some t=some j then v else zK tm j:=funext λj=>by rw[xF];simp[eq_comm]
 show WK F m (zK ((t,v)::tm)) (zD (d++h)) _ _
 rw[e1,vD]
 exact E⟩
end
section
variable {P:Program} {st:St}
end
def dE (sz:Nat):AV:= .agg (pb sz .bot)
section
variable {P:Program} {TT:List TI} {st:St}
theorem Ah {X:Nat->Prop} {h:yS} {β:uM} (HH:jL X h β w) {k N:Nat} {cx:Value} (hk':h k=some (.arr sz xs ⟨false,false⟩)) (h1:yI w (xT X β) h β (.ref k 0 len) cx) (hl:1<=len) (hN:ln xs<=N) (ax:N<=1073741824):
  ∃b cap,cx= .slice (some ⟨b,0*sz,none⟩) len cap/\(N<=cap->∃β',xU X w h β w (over [(k,.arr sz (xs++pb (N-xs.length) (dE sz)) ⟨false,false⟩)] h) β'):=by
 cases h1 with
 |fz _ _ hf=>cases hf
 |dref _ _ _ _ hd _=>rw[hk']at hd;cases hd
 |ref0 _ _ ar au st' b L hn=>omega
 | ref _ _ _ ar au st' b n cap L hb hn hc ap=>
  have h3:=L;rw[hk']at h3;cases h3;refine⟨b,cap,rfl,λav=>?_⟩;obtain⟨g1,g2,g3,g4,g5,f,g6,g7,g8⟩:=HH.ent k _ hk'
  obtain⟨U,hbk,ag,M⟩:∃U,β k=(b,n)::U/\n=ln xs/\∀C A,(C,A)∈U->A=0:=by
   cases hbk:β k with
   |nil=>rw[hbk]at hb;simp at hb
   |cons q r=>
    obtain⟨b0,n0⟩:=q;obtain⟨e1,R,_⟩:=g5 b0 n0 r hbk;have R:=R Z;rw[hbk]at hb;simp at hb
    rcases hb with⟨rfl,rfl⟩|u
    .exact⟨r,rfl,e1,R⟩
    .have:=R b n u;omega
  subst ag;obtain⟨c,el,c1,c2,c3,c4⟩:=g8 b _ hb
  have Y:c.size=cap*sz:=by
   have:wO w b=c.size:=by unfold wO World.shape?;rw[c1];rfl
   rw[<-this,<-ap,zB7]
  have W:N*sz<=c.size:=by rw[Y];exact zBe _ (by omega)
  have z:(xs++pb (N-xs.length) (dE sz)).length=N:=by simp;omega
  have O:∀(i:Nat) y,(xs++pb (N-xs.length) (dE sz))[i]? =some y->(i<ln xs/\xs[i]? =some y)\/(¬i<ln xs/\i<N/\y=dE sz):=λi y B=>by
   by_cases hi:i<ln xs
   .rw[zBp hi]at B;exact .inl ⟨hi,B⟩
   .have ac:i<N:=by rw[<-z];exact(zBj.1 B).1
    rw[zBq (by omega),zDb]at B;split at B
    .exact .inr ⟨hi,ac,(zD2 B).symm⟩
    .cases B
  have I:∀i j,i<N->j<sz->i*sz+j<c.size:=λi j hi hj=>by
   have:=zBe sz (show i+1<=N by omega);rw[zB2,zC2]at this;omega
  let S:Nat->Nat->Value:=λi j=>if i<ln xs then f i j else c.getD (i*sz+j) undef
  have G:=xU.step (w':=w) HH k (.arr sz (xs++pb (N-xs.length) (dE sz)) ⟨false,false⟩) ((b,N)::U) (zAw _) (λ_ _ _=>rfl) Z Z Z
   (λC A u=>by
    simp at u
    rcases u with⟨rfl,_⟩|u
    .exact .inl ⟨_,hb⟩
    .exact .inl ⟨A,by rw[hbk];simp[u]⟩) (λ_ _ _=>rfl)
   (λe he=>by
    rw[hk']at he;cases he;refine .inr ⟨⟨_,_,rfl,by rw[z];exact hN⟩,λC A u=>?_⟩;rw[hbk]at u;simp at u
    rcases u with⟨rfl,rfl⟩|u
    .exact⟨N,hN,by simp⟩
    .exact⟨A,zAw _,by simp[u]⟩)
   (λE=>⟨g1,by rw[z];unfold dY;omega,λ_=>by rw[yL];simp,λi y B=>by
    rcases O i y B with⟨_,h⟩|⟨_,_,rfl⟩
    .exact g4 i y h
    .simp[dE,AV.cells],λC A r hr=>by
    rw[yL]at hr;simp at hr;obtain⟨⟨rfl,rfl⟩,rfl⟩:=hr
    exact⟨z.symm,λ_=>M,λC A u=>by have:=M C A u;rw[z];omega⟩,S,λi y j v B hv=>by
    simp only[S]
    rcases O i y B with⟨hi,h⟩|⟨hi,_,rfl⟩
    .rw[f5 hi];exact⟨(g6.toV i y j v h hv).evo E,λ_=>(g6.toF Z i y j v h hv).evo E.size E.fz⟩
    .have:v= .bot:=by
      simp only[dE,AV.cells,zDb]at hv;split at hv
      .exact(zD2 hv).symm
      .cases hv
     subst this
     exact⟨.fz _ _ (.bot _),λ_=> .bot _⟩,λi j hi hj=>by
    rw[z]at hi;simp only[S];split
    .exact g7 i j ‹_› hj
    .exact c4 _ (I i j hi hj),λC A u=>by
    rw[yL]at u;simp at u
    rcases u with⟨rfl,rfl⟩|u
    .refine⟨c,el,c1,W,λi j hi hj=>?_,c4⟩;simp only[S];split
     .exact c3 i j ‹_› hj
     .exact jN c _ (I i j hi hj)
    .obtain⟨c',V,d1,d2,_,d4⟩:=g8 C A (by rw[hbk];simp[u]);have:=M C A u;subst this
     exact⟨c',V,d1,d2,λi j hi _=>by omega,d4⟩⟩)
  exact⟨_,G⟩
def zi (Y:uZ P TT) {hi:Operand} {k N:Nat} {ki:IntKind} (hx:yX (zK st.tm) x= .ref k 0 len) (hk:zD st.h k=some (.arr sz xs ⟨false,false⟩)) (hh:yX (zK st.tm) hi= .s (.int ki (N:Int))) (hT:TT[T]? =some ti) (hd:ti.d= .slice e) (he:TT[e]? =some te)
 (hl:1<=len) (hN:N<=ln xs) (ac:1<=N) (ag:N<=1073741824):wX P st (.slice T x none (some hi) none) (.ref k 0 N) [] [k] []:=
 yZ λoo X tm h w β a ho hg O HH V=>by
  obtain⟨d0,o0,y0,p0,f0,g0⟩:=oo;dsimp only at ho;subst ho;have h1:=fC V hg (x:=x) uO hx;have hk':=(O k zV).trans hk;obtain⟨u,hu,L⟩:=wH (Y _ _ hT) w;obtain rfl:=uB (L.trans hd);have hs:=qK (Y _ _ he) w;generalize I:a.eval x=cx at h1
  cases h1 with
  |fz _ _ hf=>cases hf
  |dref _ _ _ _ hd _=>rw[hk']at hd;cases hd
  |ref0 _ _ S U st' b z hn=>omega
  | ref _ _ _ S U st' b n cap z hb hn hc C=>
   have W:=z;rw[hk']at W;cases W;obtain⟨g1,g2,g3,g4,g5,f,g6,g7,g8⟩:=HH.ent k _ hk'
   have M:n=ln xs:=by
    cases hbk:β k with
    |nil=>rw[hbk]at hb;simp at hb
    |cons q r=>
     obtain⟨b0,n0⟩:=q;obtain⟨e1,E,_⟩:=g5 b0 n0 r hbk;have E:=E Z;rw[hbk]at hb;simp at hb
     rcases hb with⟨rfl,rfl⟩|hm
     .exact e1
     .have:=E b n hm;omega
   subst M;obtain⟨c,el,c1,c2,c3,c4⟩:=g8 b _ hb
   have G:c.size=cap*sz:=by
    have:wO w b=c.size:=by unfold wO World.shape?;rw[c1];rfl
    rw[<-this,<-C,zB7]
   have B:N<=cap:=by
    have h5:N*sz<=cap*sz:=by rw[<-G];exact zBw (zBe _ hN) c2
    exact zEz h5 (by omega)
   have A:=fK (P:=P) V hg (lo:=none) (hi:=some hi) (len:=len) (cap:=cap) (l:=0) (r:=N) (λy R=>by cases R) (λy R=>by cases R;simp[Op.operands]) Z ⟨ki,N,hh,rfl⟩ (zA9 _) B true;rw[zDu]at A;refine⟨_,by simp only[execOp,Instr.sliceAt,Instr.slice,Sem.run_bind,hu,Result.andThen_ok,I,zDu,A,hs,Sem.run_pure];rfl,?_⟩
   have e0:(if cap=0 then(some ⟨b,0*sz,none⟩:Option Addr)else(some ⟨b,0*sz,none⟩:Option Addr).map (·.add (0*te.size)))=some ⟨b,0*sz,none⟩:=by
    split
    .rfl
    .rw[zCn,ZK];simp
   have:=yI.ref (w:=w) (D:=xT X β) (h:=h) (β:=β) k 0 N sz xs ⟨false,false⟩ b (ln xs) cap hk' hb (by omega) B C;rw[e0];exact this
theorem FC (hP:uZ P TT) {f:Nat} {fn:Func} {R:Nat} {fx y:Operand} {ax:Array Nat} {O S A I B av C:Nat} {xa xb:List AV} {fa fb:Fl} (a2:yX (zK st.tm) fx= .fn f []) (hx:yX (zK st.tm) x= .ref O 0 A) (a4:zD st.h O=some (.arr av xa fa)) (hy:yX (zK st.tm) y= .ref S I B) (a5:zD st.h S=some (.arr C xb fb))
 (a9:Nat.beq O S=false) (a8:1<=B) (a7:1<=A) (hT:TT[T]? =some ti) (hd:ti.d= .slice e) (he:TT[e]? =some te) (br:1<=C)
 (hf:P.funcs[f]? =some fn) (M:(fn.name== "runtime.NumGoroutine")=false) (hb:fn.body.isNone=true) (hn:Extern.findNext fn=none) (hE:Extern.find fn=some (Extern.SlicesOverlaps.overlaps #[T,T] #[R])):
  wX P st (.call ⟨.value fx, #[x,y],ax⟩) (.s (.bool false)) [] [O,S] []:=
 yZ λoo X tm h w β a ho hg hr HH Ht=>by
  obtain⟨d0,o0,y0,p0,f0,g0⟩:=oo;dsimp only at ho;subst ho;have h1:=fC Ht hg (x:=x) kQ hx;have h2:=fC Ht hg (x:=y) kQ hy;have h3:=fC Ht hg (x:=fx) kQ a2;have ag:=(hr O zV).trans a4;have ap:=(hr S zV).trans a5;have a6:O≠S:=λe=>by subst e;simp at a9
  obtain⟨u,hu,bk⟩:=wH (hP _ _ hT) w;obtain⟨i,z,bf,hi,hz,e1,e2,e3⟩:=wY hP hT hd he
  have a1:a.eval fx= .func (.func f) #[] #[]:=by
   generalize a.eval fx=cx at h3
   cases h3 with
   |fz _ _ hf=>cases hf
   |fn _ _ c hl hh=>
    have:c= #[]:=Array.eq_empty_of_size_eq_zero CD;rw[this]
  have au:∀{k off len sz xs fl c},h k=some (.arr sz xs fl)->1<=len->yI w (xT X β) h β (.ref k off len) c->∃b n cap cc el,c= .slice (some ⟨b,off*sz,none⟩) len cap/\(b,n)∈β k/\off+len<=n/\w.heap[b]? =some (.cells cc el (0,0))/\n*sz<=cc.size/\1<=sz:=λ{k off len sz xs fl c} hk hl hv=>by
   cases hv with
   |fz _ _ hf=>cases hf
   |dref _ _ _ _ hd _=>rw[hk]at hd;cases hd
   |ref0 _ _ _ _ _ _ _ _=>omega
   |ref _ _ _ bs bu st' b n cap E hb hn hc bl=>
    rw[hk]at E;cases E;obtain⟨g1,_,_,_,_,f,_,_,g8⟩:=HH.ent k _ hk;obtain⟨cc,el,c1,c2,_⟩:=g8 b n hb;exact⟨b,n,cap,cc,el,rfl,hb,hn,c1,c2,g1⟩
  obtain⟨U,na,ca,V,W,q1,q2,q3,q4,q5,q6⟩:=au ag a7 h1;obtain⟨bb,nb,cb,L,Y,r1,r2,r3,r4,r5,r6⟩:=au ap a8 h2;have az:U≠bb:=λe=>a6 (HH.disj O S U na nb q2 (by rw[e];exact r2))
  have bd:w.shape? U=some (W,V.size):=by unfold World.shape?;rw[q4]
  have ar:w.shape? bb=some (Y,L.size):=by unfold World.shape?;rw[r4]
  have a3:L.size≠0:=by
   have:=zBe C (show 1<=nb by omega);omega
  have ac:∀o,w.frozen? ⟨U,o,none⟩=false:=λo=>by simp[World.frozen?,q4]
  have G:=run_callFunc_extern hf M hb hn hE #[a.eval x,a.eval y] w;rw[q1,r1,Lib.run_overlaps_apart w T R e bf te.size (λw=>qK (hP _ _ he) w) ⟨U,0*av,none⟩ ⟨bb,I*C,none⟩ A ca B cb az W Y V.size L.size bd ar a3 (ac _) (ac _)]at G;exact⟨_,by simp only[execOp,resolve,a1,Deferred.ofValue,invoke];simpa [q1,r1]using G,.fz _ _ (.s _)⟩
theorem IC {X:Nat->Prop} {h:yS} {β:uM} (L:jL X h β w) {kn:Nat} (S:h kn=none) {gc:Nat} {olds news:List Value} {zc:Array Value} (f g:Nat->Nat->Value) (hp:1<=sz) (A:ln olds=ln ys*sz) (ho:∀i j,i<ln ys->j<sz->olds[i*sz+j]? =some (f i j)) (Y:∀u∈olds,u.oneCell'=true)
 (E:ln news=ln vs*sz) (hn:∀i j,i<ln vs->j<sz->news[i*sz+j]? =some (g i j)) (W:∀u∈news,u.oneCell'=true) (ar:∀(i:Nat) (y:AV),ys[i]? =some y->ln y.cells=sz) (ap:∀(i:Nat) (y:AV),vs[i]? =some y->ln y.cells=sz)
 (M:∀i j,i<ln ys->j<sz->(f i j).oneCell'=true) (O:∀i j,i<ln vs->j<sz->(g i j).oneCell'=true) (ac:∀(i:Nat) (y:AV) (j:Nat) v,ys[i]? =some y->y.cells[j]? =some v->xM w (xT X β) v (f i j)) (ag:∀(i:Nat) (y:AV) (j:Nat) v,vs[i]? =some y->y.cells[j]? =some v->xM w (xT X β) v (g i j))
 (au:∀v∈zc.toList,v.oneCell'=true) (av:zc.size=sz) (R:ln ys+ln vs<=gc) (V:ln ys+ln vs<=dY):
  ∃β',xU X w h β (w.drew.alloc (.cells (olds.toArray++news.toArray++Builtin.zeroCells zc (gc-(ln ys+ln vs))) e)) (over [(kn,.arr sz (ys++vs) false)] h) β'/\
   yI (w.drew.alloc (.cells (olds.toArray++news.toArray++Builtin.zeroCells zc (gc-(ln ys+ln vs))) e)) (xT X β') (over [(kn,.arr sz (ys++vs) false)] h) β' (.ref kn 0 (ys++vs).length) (.slice (some ⟨w.heap.size,0,none⟩) (ln ys+ln vs) gc):=by
 have HD:=L.drew (w.drawn+1);have z:(ys++vs).length=ln ys+ln vs:=by simp
 have C:∀(i:Nat) y,(ys++vs)[i]? =some y->(i<ln ys/\ys[i]? =some y)\/(¬i<ln ys/\vs[i-ys.length]? =some y):=λi y I=>by
  grind
 have B:∀{v c},xM w (xT X β) v c->xM w.drew (xT X β) v c:=λhf=>xM.evo (w:=w) (w':=w.drew) (zAw _) (λ_ _ hd=>⟨rfl,hd⟩) hf
 have:=xU.newArr (w:=w.drew) HD S (olds.toArray++news.toArray++Builtin.zeroCells zc (gc-(ln ys+ln vs))) e sz (ys++vs) gc (λi j=>if i<ln ys then f i j else g (i-ys.length) j) hp (by rw[z];exact V) (by rw[z];exact R) (by
   simp only[zE5,zDq,size_zeroCells,av,A,E,<-zB2]
   congr 1;omega) (kD.get (((kD.arr Y).app (kD.arr W)).app (kD.zero au _))) (λi y I=>by
   rcases C i y I with⟨_,h⟩|⟨_,h⟩
   .exact ar i y h
   .exact ap _ y h) (λi j hi hj=>by
   rw[z]at hi
   have U:i*sz+j<(ln ys+ln vs)*sz:=by
    have:=zBe sz (show i+1<=ln ys+ln vs by omega)
    grind
   rw[zB2]at U;rw[zCu (by simp[A,E];omega)];split
   .rename_i hi'
    have az:i*sz+j<ln ys*sz:=by
     grind
    rw[zCu (by simp[A];omega)];simpa using ho i j hi' hj
   .rename_i hi';have ax:ln ys*sz<=i*sz:=zBe _ (by omega);have e4:i*sz+j-ys.length*sz=(i-ys.length)*sz+j:=by rw[zFm];omega
    rw[zEt (by simp[A];omega)];simp only[zDq,A,e4,zDg]
    exact hn _ _ (by omega) hj) (λi j hi hj=>by
   rw[z]at hi;split
   .exact M i j ‹_› hj
   .exact O _ j (by omega) hj) (λi y j v I hv=>by
   rcases C i y I with⟨hi,h⟩|⟨hi,h⟩
   .rw[f5 hi];exact B (ac i y j v h hv)
   .rw[Os hi];exact B (ag _ y j v h hv))
 obtain⟨β',G,hv⟩:=this;refine⟨β',xU.trans L (xU.drew L (w.drawn+1)) G,?_⟩;rw[z]at hv⊢;exact hv
def Hn (E:uZ P TT) {c:Nat} (hx:yX (zK st.tm) x= .slc c xs) (hT:TT[T]? =some ti) (hd:ti.d= .slice e):wX P st (.call ⟨.builtin .cap, #[x], #[T]⟩) (.s (.int .i64 (c:Int))) [] [] []:=
 yZ λM X Y h w β a B I V O C=>by
  obtain⟨d0,o0,y0,W,S,U⟩:=M;dsimp only at B;subst B;have h1:=fC C I (x:=x) kQ hx;obtain⟨u,L,A⟩:=wH (E _ _ hT) w;obtain rfl:=uB (A.trans hd);generalize z:a.eval x=R at h1
  cases h1 with
  | fz _ _ G=>
   cases G with
   |slc _ _ b o sz f hL hc hh=>
    exact⟨_,by simp[execOp,resolve,invoke,builtin,Builtin.cap_,z,L,goInt],.fz _ _ (.s _)⟩
def AR (E:uZ P TT) {xs:List AV} (hx:yX (zK st.tm) x= .slc c xs) (hT:TT[T]? =some ti) (hd:ti.d= .slice e):wX P st (.call ⟨.builtin .len, #[x], #[T]⟩) (.s (.int .i64 (ln xs:Int))) [] [] []:=
 yZ λM X Y h w β a B I V O C=>by
  obtain⟨d0,o0,y0,W,S,U⟩:=M;dsimp only at B;subst B;have h1:=fC C I (x:=x) kQ hx;obtain⟨u,L,A⟩:=wH (E _ _ hT) w;obtain rfl:=uB (A.trans hd);generalize z:a.eval x=R at h1
  cases h1 with
  | fz _ _ G=>
   cases G with
   |slc _ _ b o sz f hL hc hh=>
    exact⟨_,by simp[execOp,resolve,invoke,builtin,Builtin.len_,z,L,goInt],.fz _ _ (.s _)⟩
def Gn (O:uZ P TT) {r:Nat} {hi:Operand} {U:IntKind} (hx:yX (zK st.tm) x= .slc c xs) (hh:yX (zK st.tm) hi= .s (.int U (r:Int))) (hT:TT[T]? =some ti) (hd:ti.d= .slice e) (W:TT[e]? =some te) (L:r<=ln xs):
  wX P st (.slice T x none (some hi) none) (.slc c (xs.take r)) [] [] []:=
 yZ λoo X tm h w β a S R ac HH M=>by
  obtain⟨d0,o0,y0,p0,f0,g0⟩:=oo;dsimp only at S;subst S;have h1:=fC M R (x:=x) uO hx;obtain⟨u,hu,G⟩:=wH (O _ _ hT) w;obtain rfl:=uB (G.trans hd);have hs:=qK (O _ _ W) w;generalize E:a.eval x=cx at h1
  cases h1 with
  | fz _ _ Y=>
   cases Y with
   | slc _ _ b o sz f hL hc I=>
    have C:=fK (P:=P) M R (lo:=none) (hi:=some hi) (len:=ln xs) (cap:=c) (l:=0) (r:=r) (λy z=>by cases z) (λy z=>by cases z;simp[Op.operands]) Z ⟨U,r,hh,rfl⟩ (zA9 _) (zBw L hc) true;rw[zDu]at C;have A:(xs.take r).length=r:=by simp;omega
    have B:∀(i:Nat) y,(xs.take r)[i]? =some y->xs[i]? =some y:=λi y z=>by
     rw[zCg]at z;split at z
     .exact z
     .cases z
    refine⟨_,by simp only[execOp,Instr.sliceAt,Instr.slice,Sem.run_bind,hu,Result.andThen_ok,E,zDu,C,hs,Sem.run_pure];rfl,.fz _ _ ?_⟩
    have V:(if c=0 then(some ⟨b,o,none⟩:Option Addr)else(some ⟨b,o,none⟩:Option Addr).map (·.add (0*te.size)))=some ⟨b,o,none⟩:=by
     split
     .rfl
     .rw[zCn,ZK];simp
    have:=xM.slc (w:=w) (D:=xT X β) c (xs.take r) b o sz f ⟨hL.lt,hL.nd,hL.pos,by rw[A];exact zBw L hL.max,λi y z=>hL.wide i y (B i y z),λi j hi hj=>hL.cell i j (by omega) hj,λi j hi hj=>hL.one i j (by omega) hj⟩ (by rw[A];exact zBw L hc) (λi y j v z hv=>I i y j v (B i y z) hv);rw[A]at this;rw[zFg,zFg,V];exact this
theorem Cn (hP:uZ P TT) {I n:Nat} {tn:TI} {k0:IntKind} {nx:Int} (kn:Nat) (hs:yX (zK st.tm) s= .slc c ys) (hx:yX (zK st.tm) x= .s (.int .i64 nx)) (hT:TT[T]? =some ti) (hd:ti.d= .slice e) (he:TT[e]? =some te) (hI:TT[I]? =some tn) (a4:tn.d= .int k0)
 (hb:Nat.ble te.bytes 65536=true) (hp:Nat.ble 1 te.size=true) (E:Nat.beq (ln te.zero) te.size=true) (av:te.zero.all (·.oneCell')=true) (U:Nat.beq (uH te).cells.length te.size=true) (ax:(uH te).cells=te.zero.map .s)
 (bf:nx=(n:Int)) (ar:1<=n) (ag:ln ys+n<=1073741824) (hc:c<ln ys+n) (S:∀(i:Nat) (y:AV),ys[i]? =some y->ln y.cells=te.size):
  wX P st (.call ⟨.builtin .append, #[s,x], #[T,I]⟩) (.ref kn 0 (ys++pb n (uH te)).length) [(kn,.arr te.size (ys++pb n (uH te)) false)] [] [kn]:=by
 refine⟨?_⟩;intro X tm h hg _ hn o a w β ho HH Ht;obtain⟨d0,o0,y0,p0,f0,g0⟩:=o;dsimp only at ho;subst ho;have h1:=fC Ht hg (x:=s) kQ hs;have h2:=vP Ht hg (x:=x) kQ hx;have hp:=zA8 hp;have hb:=zA8 hb;have E:=zBo E;have U:=zBo U;subst bf;obtain⟨i,z,R,hi,hz,e1,e2,e3⟩:=wY hP hT hd he;obtain⟨_,u2,_,_,bl,_,a3,_⟩:=uG (hP _ _ hI);obtain rfl:=HJ (a3.symm.trans a4);generalize a2:a.eval s=cx at h1
 cases h1 with
 | fz _ _ hf=>
  cases hf with
  | slc _ _ b o sz f hL bx hh=>
   have V:z.cells.size=te.size:=by rw[<-E,<-e3];simp
   have hS:Qz w (xT X β) h β false ys te.size b o f:=⟨S,λi j hi hj=>by
    have:sz=te.size:=by
     have h4:=hL.wide i ys[i] XX;have h5:=S i ys[i] XX;omega
    subst this;exact hL.cell i j hi hj,λi j hi hj=>by
    have:sz=te.size:=by
     have h4:=hL.wide i ys[i] XX;have h5:=S i ys[i] XX;omega
    subst this;exact hL.one i j hi hj,.ofF hh⟩
   obtain⟨a6,a7⟩:=hS.flat hp
   have C:(ln ys+n)*i.bytes<=140737488355328:=by
    have:=zDi ag (show i.bytes<=65536 by omega);omega
   have bu:=growslice_fits (need:=ln ys+n) (old:=c) (bytes:=i.bytes) hc C;have hw:IntKind.i64.wrap (n:Int)=(n:Int):=kI ⟨by show(-9223372036854775808:Int)<=_;omega,by show _<=(9223372036854775807:Int);omega⟩
   have bk:n*i.size≠0:=by
    have:1*1<=n*i.size:=zDi ar (by omega);omega
   have az:¬(281474976710656<(n:Int)*(i.bytes:Int)):=by
    grind
   have Y:¬(281474976710656<Builtin.nextslicecap (ln ys+n) c*i.bytes):=by omega
   have a1:¬(9223372036854775807<((ln ys:Int)+(n:Int))):=by omega
   have O:¬(ln ys+n<=c):=by omega
   have ap:¬((n:Int)<0):=by omega
   have a8:=run_firstCells_some (P:=P) w.drew i.size (ln ys) ⟨b,o,none⟩ (ln ys) c (flat f (ln ys) i.size) (zZ _ _ _) (by rw[e1];simpa using a6)
   have G:(Builtin.append_ #[T,I] y0 #[.slice (some ⟨b,o,none⟩) (ln ys) c,.int .i64 (n:Int)]).run P w= .ok (.slice (some ⟨w.heap.size,0,none⟩) (ln ys+n) (grownCap w (ln ys+n) c e)) (w.drew.alloc (.cells ((flat f (ln ys) i.size).toArray++(Builtin.zeroCells z.cells n).toList.toArray++Builtin.zeroCells z.cells (grownCap w (ln ys+n) c e-(ln ys+n))) e)):=by
    have ha:(asIntOf (.int .i64 (n:Int))).run P w= .ok (.i64,(n:Int)) w:=rfl;simp[Builtin.append_,run_underlying R,run_underlying bl,sizeOf,typeInfo,zeroValue,hi,hz,asInt,ha,hw,ap,az,bk,a1,Y,O,Question.forced,a8,newRow,grownCap]
   generalize hW:w.drew.alloc (.cells ((flat f (ln ys) i.size).toArray++(Builtin.zeroCells z.cells n).toList.toArray++Builtin.zeroCells z.cells (grownCap w (ln ys+n) c e-(ln ys+n))) e)=W at G
   have a5:(execOp a.eval ⟨d0,.call ⟨.builtin .append, #[s,x], #[T,I]⟩,y0,p0,f0,g0⟩).run P w= .ok (.value (.slice (some ⟨w.heap.size,0,none⟩) (ln ys+n) (grownCap w (ln ys+n) c e))) W:=by
    simp[execOp,resolve,invoke,builtin,a2,h2,G]
   rw[a5];have a9:=grownCap_ge w (ln ys+n) c e;have A:(pb n (uH te)).length=n:=by simp
   have ac:∀(j:Nat) v,(pb n (uH te))[j]? =some v->v=uH te:=λj v hv=>by
    grind
   have M:∀j,j<te.size->∃v,te.zero[j]? =some v/\z.cells.getD j undef=v:=λj hj=>by
    have:=jN z.cells j (by omega)
    grind
   have L:∀v∈z.cells.toList,v.oneCell'=true:=λv hv=>zA5.1 av v NC
   have:=IC (X:=X) (kn:=kn) (e:=e) (gc:=grownCap w (ln ys+n) c e) HH (hn kn zV) (ys:=ys) (vs:=pb n (uH te)) (sz:=te.size) (olds:=flat f (ln ys) i.size) (news:=(Builtin.zeroCells z.cells n).toList) (zc:=z.cells) f (λ_ j=>z.cells.getD j undef) hp
    (by rw[zZ,e1]) (λB j hi' hj=>by rw[e1];exact kR f hi' hj) (by rw[e1];exact a7) (by rw[A,zDs,size_zeroCells,V]) (λB j hi' hj=>by
     rw[A]at hi'
     have bb:B*te.size+j<n*te.size:=by
      have:=zBe te.size (show B+1<=n by omega)
      grind
     have bd:(B*te.size+j) % te.size=j:=by rw[zEs,zFf];exact zDl hj
     rw[Array.getElem?_toList];simp only[Builtin.zeroCells,zFo,zE9,V,bb,zE0,zCn,bd]
     congr 1
     have ba:j<z.cells.size:=by omega
     simp[zBu,ba]) (λu R=>kD.zero L n u R) hS.wide (λB y hy=>by rw[ac B y hy];exact U) hS.one (λB j _ hj=>by
     obtain⟨v,hv,br⟩:=M j hj;rw[br]
     exact zA5.1 av v (zCc hv)) (λB y j v hy hv=>hS.rep.toF Z B y j v hy hv) (λB v j u hv R=>by
     rw[ac B v hv,ax]at R;rw[zAz,zBa]at R;obtain⟨q,hq,rfl⟩:=R;have hj:j<te.size:=by rw[<-E];exact(zBj.1 hq).1
     obtain⟨v',au,bs⟩:=M j hj;rw[hq]at au;cases au;rw[bs]
     exact .s _) L V (by rw[A];exact a9) (by rw[A];unfold dY;omega)
   rw[A,hW]at this;exact this
theorem yi (hP:uZ P TT) {xv:AV} (kn:Nat) (hs:yX (zK st.tm) s= .slc c ys) (hx:yX (zK st.tm) x=xv) (hT:TT[T]? =some ti) (hd:ti.d= .slice e) (he:TT[e]? =some te) (au:CR (zD st.h) xv=some vs)
 (hb:Nat.ble te.bytes 65536=true) (L:Nat.ble 1 te.size=true) (G:Nat.beq (ln te.zero) te.size=true) (av:te.zero.all (·.oneCell')=true)
 (ar:∀y,vs[0]? =some y->ln y.cells=te.size) (B:1<=ln vs) (I:ln ys+ln vs<=1073741824) (hc:c<ln ys+ln vs) (E:∀(i:Nat) (y:AV),ys[i]? =some y->ln y.cells=te.size):
  wX P st (.call ⟨.builtin .append, #[s,x], #[T,T]⟩) (.ref kn 0 (ys++vs).length) [(kn,.arr te.size (ys++vs) false)] (PK xv) [kn]:=by
 refine⟨?_⟩;intro X tm h hg hr hn o a w β ho HH Ht;obtain⟨d0,o0,y0,p0,f0,g0⟩:=o;dsimp only at ho;subst ho;have h1:=fC Ht hg (x:=s) kQ hs;have h2:=fC Ht hg (x:=x) kQ hx;have L:=zA8 L;have hb:=zA8 hb;have G:=zBo G;obtain⟨i,z,hu,hi,hz,e1,e2,e3⟩:=wY hP hT hd he;obtain⟨ad,cap,R,_,a1,M⟩:=cQ HH h2 ((fL hr).trans au) ar;obtain⟨b2,q,g,rfl,u⟩:=M (λh0=>by rw[h0]at B;simp at B);obtain⟨ac,ag⟩:=u.flat L;generalize S:a.eval s=cx at h1
 cases h1 with
 | fz _ _ hf=>
  cases hf with
  | slc _ _ b o sz f hL az hh=>
   have ax:z.cells.size=te.size:=by rw[<-G,<-e3];simp
   have O:Qz w (xT X β) h β false ys te.size b o f:=⟨E,λi j hi hj=>by
    have:sz=te.size:=by
     have h4:=hL.wide i ys[i] XX;have h5:=E i ys[i] XX;omega
    subst this;exact hL.cell i j hi hj,λi j hi hj=>by
    have:sz=te.size:=by
     have h4:=hL.wide i ys[i] XX;have h5:=E i ys[i] XX;omega
    subst this;exact hL.one i j hi hj,.ofF hh⟩
   obtain⟨V,Y⟩:=O.flat L
   have A:(ln ys+ln vs)*i.bytes<=140737488355328:=by
    have:=zDi I (show i.bytes<=65536 by omega);omega
   have C:=run_append_grow (P:=P) w T y0 e i z hu hi hz ⟨b,o,none⟩ (ln ys) c (flat f (ln ys) te.size) (by rw[zZ,e1]) V ⟨b2,q,none⟩ (ln vs) cap (flat g (ln vs) te.size) (by rw[zZ,e1]) ac hc (by omega) (growslice_fits hc A);generalize hW:w.drew.alloc (.cells ((flat f (ln ys) te.size).toArray++(flat g (ln vs) te.size).toArray++Builtin.zeroCells z.cells (grownCap w (ln ys+ln vs) c e-(ln ys+ln vs))) e)=W at C
   have U:(execOp a.eval ⟨d0,.call ⟨.builtin .append, #[s,x], #[T,T]⟩,y0,p0,f0,g0⟩).run P w= .ok (.value (.slice (some ⟨w.heap.size,0,none⟩) (ln ys+ln vs) (grownCap w (ln ys+ln vs) c e))) W:=by
    simp[execOp,resolve,invoke,builtin,S,R,C]
   rw[U];have ap:=grownCap_ge w (ln ys+ln vs) c e
   have:=IC (X:=X) (kn:=kn) (e:=e) (gc:=grownCap w (ln ys+ln vs) c e) HH (hn kn zV) (ys:=ys) (vs:=vs) (sz:=te.size) (olds:=flat f (ln ys) te.size) (news:=flat g (ln vs) te.size) (zc:=z.cells) f g L
    (zZ _ _ _) (λi' j hi' hj=>kR f hi' hj) Y (zZ _ _ _) (λi' j hi' hj=>kR g hi' hj) ag O.wide u.wide O.one u.one (O.rep.toF Z) (u.rep.toF Z) (λv hv=>zA5.1 av v NC) ax ap (by unfold dY;omega)
   rw[hW]at this;exact this
theorem xi (hP:uZ P TT) {k:Nat} {xv:AV} (hs:yX (zK st.tm) s= .ref k 0 len) (hk:zD st.h k=some (.arr sz xs ⟨false,false⟩)) (hx:yX (zK st.tm) x=xv) (hT:TT[T]? =some ti) (hd:ti.d= .slice e) (he:TT[e]? =some te) (bu:CR (zD st.h) xv=some vs)
 (R:Nat.beq sz te.size=true) (bs:∀y,vs[0]? =some y->ln y.cells=sz) (ac:1<=ln vs) (hl:1<=len) (az:len+ln vs<=ln xs) (b1:ln xs<=1073741824):
    wX P st (.call ⟨.builtin .append, #[s,x], #[T,T]⟩) (.ref k 0 (len+ln vs)) [(k,.arr sz (xs.take len++vs++xs.drop (len+ln vs)) ⟨false,false⟩)] (k::PK xv) []:=by
  refine⟨?_⟩;intro X tm h hg hr _ o a w β ho HH Ht;obtain⟨d0,o0,y0,p0,f0,g0⟩:=o;dsimp only at ho;subst ho;have hk':=(hr k zV).trans hk;have h1:=fC Ht hg (x:=s) kQ hs;have h2:=fC Ht hg (x:=x) kQ hx;have R:=zBo R;obtain⟨i,z,hu,hi,hz,e1,e2,e3⟩:=wY hP hT hd he;obtain⟨g1,g2,g3,g4,g5,f,g6,g7,g8⟩:=HH.ent k _ hk';obtain⟨ad,cap,bd,_,b5,a8⟩:=cQ HH h2 ((fL λk' hk=>hr k' (by simp[hk])).trans bu) bs;obtain⟨b2,q,fy,rfl,hS⟩:=a8 (λh0=>by rw[h0]at ac;simp at ac);obtain⟨bl,a4⟩:=hS.flat g1;generalize bf:a.eval s=cx at h1
  cases h1 with
  |fz _ _ hf=>cases hf
  |dref _ _ _ _ hd _=>rw[hk']at hd;cases hd
  |ref0 _ _ bx bz st' b Y hn=>omega
  | ref _ _ _ bx bz st' b n cp Y L hn hc a7=>
    have h3:=Y;rw[hk']at h3;cases h3
    obtain⟨rr,hbk,br,ax⟩:∃rr,β k=(b,n)::rr/\n=ln xs/\∀O U,(O,U)∈rr->U=0:=by
      cases hbk:β k with
      |nil=>rw[hbk]at L;simp at L
      | cons q r=>
        obtain⟨b0,n0⟩:=q;obtain⟨e1,e2,_⟩:=g5 b0 n0 r hbk;have e2:=e2 Z;rw[hbk]at L;simp at L
        rcases L with⟨rfl,rfl⟩|hm
        · exact⟨r,rfl,e1,e2⟩
        · have:=e2 b n hm;omega
    subst br;obtain⟨I,el,c1,c2,c3,c4⟩:=g8 b _ L
    have bb:I.size=cp*sz:=by
      have:wO w b=I.size:=by unfold wO World.shape?;rw[c1];rfl
      rw[<-this,<-a7,zB7]
    have b3:ln xs<=cp:=by
      have h5:ln xs*sz<=cp*sz:=by rw[<-bb];exact c2
      exact zEz h5 (by omega)
    have W:(len+ln vs)*sz<=I.size:=zBw (zBe _ az) c2
    have ag:=bB hP hT hd he w y0 b 0 len cp I el c1 ⟨b2,q,none⟩ (ln vs) cap (flat fy (ln vs) sz) (by rw[zZ,R]) bl a4 (by omega) (by
      rw[zZ,<-R,zB7,<-zB2];exact W)
    have ba:0*sz=0:=zEa _;generalize C:(I.toList.take (0+len*te.size)++flat fy (ln vs) sz++I.toList.drop (0+len*te.size+(flat fy (ln vs) sz).length)).toArray=B at ag
    have bk:(execOp a.eval ⟨d0,.call ⟨.builtin .append, #[s,x], #[T,T]⟩,y0,p0,f0,g0⟩).run P w= .ok (.value (.slice (some ⟨b,0,none⟩) (len+ln vs) cp)) (w.setRow b B):=by
      simp[execOp,resolve,invoke,builtin,bf,bd,ag]
    rw[bk];rw[zB2]at W;rw[zB7,<-R]at C
    have ap:B.size=I.size:=by
      rw[<-C];simp only[zDq,zAv,zBg,zBr,zDs,zZ];omega
    have av:∀q,q<B.size->(B.getD q undef).oneCell'=true:=by
      rw[<-C];refine kD.get (kD.arr λv hv=>?_);have a3:=kD.of c4
      rcases zBc.1 hv with hv|hv
      · rcases zBc.1 hv with hv|hv
        · exact a3 v (zCo hv)
        · exact a4 v hv
      · exact a3 v (zBz hv)
    let f':Nat->Nat->Value:=λi j=>if len<=i/\i<len+ln vs then fy (i-len) j else f i j
    have M:(xs.take len++vs++xs.drop (len+ln vs)).length=ln xs:=by
      simp only[zAv,zBg,zBr];omega
    have a2:∀(i:Nat) y,(xs.take len++vs++xs.drop (len+ln vs))[i]? =some y->(len<=i/\i<len+ln vs/\vs[i-len]? =some y)\/(¬(len<=i/\i<len+ln vs)/\xs[i]? =some y):=λi y hy=>by
      have ht:(xs.take len).length=len:=by simp;omega
      by_cases h5:i<len
      · rw[zBh,zBp (by omega),zCg,f5 h5]at hy;exact .inr ⟨by omega,hy⟩
      · by_cases h6:i<len+ln vs
        · rw[zBh,zBq (by omega),ht,zBp (by omega)]at hy;exact .inl ⟨by omega,h6,hy⟩
        · rw[zBq qA]at hy;simp only[zAv,ht]at hy;rw[zCz,show len+ln vs+(i-(len+ln vs))=i by omega]at hy;exact .inr ⟨by omega,hy⟩
    have au:∀i j,i<ln xs->j<sz->B[i*sz+j]? =some (f' i j):=λi j hi hj=>by
      rw[<-C];simp only[f',zDg];by_cases h5:i<len
      · have a6:i*sz+j<len*sz:=by
          have:=zBe sz (show i+1<=len by omega);rw[zB2,zC2]at this;omega
        rw[Os (by omega),zBh,zBp qA,zCg,f5 a6];simpa using c3 i j hi hj
      · have ht:(List.take (len*sz) I.toList).length=len*sz:=by simp;omega
        have b4:len*sz<=i*sz:=zBe _ (by omega);by_cases h6:i<len+ln vs
        · have e4:i*sz+j-len*sz=(i-len)*sz+j:=by rw[zFm];omega
          have a6:(i-len)*sz+j<ln vs*sz:=by
            have:=zBe sz (show(i-len)+1<=ln vs by omega);rw[zB2,zC2]at this;omega
          rw[f5 (by omega),zBh,zBq (by rw[ht];omega),ht,zBp (by rw[zZ];omega),e4];exact kR fy (by omega) hj
        · have a5:(len+ln vs)*sz<=i*sz:=zBe _ (by omega);rw[zB2]at a5;rw[Os (by omega),zBq (by simp only[zAv,ht,zZ];omega),zCz];simp only[zAv,ht,zZ];rw[show len*sz+ln vs*sz+(i*sz+j-(len*sz+ln vs*sz))=i*sz+j by omega];simpa using c3 i j hi hj
    have G:=xU.step (w':=w.setRow b B) HH k (.arr sz (xs.take len++vs++xs.drop (len+ln vs)) ⟨false,false⟩) (β k) zV (λj hj hn=>setRow_other w b j B (λe=>hn (ln xs) Te)) Z Z Z (λb n hm=> .inl ⟨n,hm⟩) (λb n _=>kJ c1 ap b)
      (λe he=>by rw[hk']at he;cases he;exact .inr ⟨⟨_,_,rfl,by rw[M];exact zAw _⟩,λ_ n hm=>⟨n,zAw _,hm⟩⟩) λE=>⟨g1,by rw[M];exact g2,λ_=>by rw[yL,hbk];simp,λS V a1=>by
        rcases a2 S V a1 with⟨_,_,h⟩|⟨_,h⟩
        · exact hS.wide _ V h
        · exact g4 S V h,λO U r A=>by
        rw[yL]at A;rw[M]
        exact g5 O U r A,f',λS V j u a1 hu=>by
        simp only[f']
        rcases a2 S V a1 with⟨q1,q2,h⟩|⟨q1,h⟩
        · rw[f5 ⟨q1,q2⟩];exact⟨(hS.rep.toV _ V j u h hu).evo E,λ_=>(hS.rep.toF Z _ V j u h hu).evo E.size E.fz⟩
        · rw[Os q1];exact⟨(g6.toV S V j u h hu).evo E,λ_=>(g6.toF Z S V j u h hu).evo E.size E.fz⟩,λS j hi' hj=>by
        rw[M]at hi';simp only[f'];split
        · exact hS.one _ _ (by omega) hj
        · exact g7 S j hi' hj,λO U A=>by
        rw[yL,hbk]at A;simp at A;by_cases ar:O=b
        · subst ar;refine⟨B,el,setRow_heap w _ _ _ _ _ c1,?_,λS j hi' hj=>?_,av⟩
          · rw[ap]
            rcases A with⟨_,rfl⟩|A
            · exact c2
            · have:=ax O U A;subst this;omega
          · rcases A with⟨_,rfl⟩|A
            · exact au S j hi' hj
            · have:=ax O U A;omega
        · have A : (O, U) ∈ rr := by     rcases A with⟨h,_⟩|h;· exact absurd h ar
                                         · exact h
          obtain⟨c',a9,q1,q2,_,q4⟩:=g8 O U (by rw[hbk];simp[A]);have:=ax O U A;subst this
          exact⟨c',a9,(setRow_other w b O B ar).trans q1,q2,λS j hi' _=>by omega,q4⟩⟩
    refine⟨_,G,?_⟩;have hR:yI w (xT X β) h β (.ref k 0 (len+ln vs)) (.slice (some ⟨b,0*sz,none⟩) (len+ln vs) cp):= .ref k 0 (len+ln vs) sz xs ⟨false,false⟩ b (ln xs) cp hk' L (by omega) (by omega) a7;rw[ba]at hR;exact hR.evo G.evo
theorem vd (hP:uZ P TT) {k:Nat} {xs:List AV} (hx:yX (zK st.tm) x= .ref k 0 len) (hk:zD st.h k=some (.arr sz xs ⟨false,false⟩)) (hT:TT[T]? =some ti) (hd:ti.d= .slice e) (hl:1<=len):
  X7 P st (.call ⟨.builtin .cap, #[x], #[T]⟩) (λv d=>∃c:Int,v= .s (.int .i64 c)/\(ln xs:Int)<=c/\d=[]) [k] []:=by
 refine⟨λX tm h hg hr _ o a w β S O U=>?_⟩;obtain⟨d0,o0,y0,p0,Y,g0⟩:=o;dsimp only at S;subst S;have h1:=fC U hg (x:=x) kQ hx;have hk':=(hr k zV).trans hk;obtain⟨u,hu,E⟩:=wH (hP _ _ hT) w;obtain rfl:=uB (E.trans hd);generalize C:a.eval x=cx at h1
 cases h1 with
 |fz _ _ hf=>cases hf
 |dref _ _ _ _ hd _=>rw[hk']at hd;cases hd
 |ref0 _ _ L M st' b z hn=>omega
 | ref _ _ _ L M st' b n cap z hb hn hc I=>
  have R:=z;rw[hk']at R;cases R
  have A:(execOp a.eval ⟨d0,.call ⟨.builtin .cap, #[x], #[T]⟩,y0,p0,Y,g0⟩).run P w= .ok (.value (.int .i64 cap)) w:=by
   simp[execOp,resolve,invoke,builtin,Builtin.cap_,C,hu,goInt]
  rw[A];obtain⟨g1,g2,g3,g4,g5,f,g6,g7,g8⟩:=O.ent k _ hk'
  have G:n=ln xs:=by
   cases hbk:β k with
   |nil=>rw[hbk]at hb;simp at hb
   |cons q r=>
    grind
  subst G;obtain⟨c,el,V,W,c3,c4⟩:=g8 b _ hb
  have B:c.size=cap*sz:=by
   have:wO w b=c.size:=by unfold wO World.shape?;rw[V];rfl
   rw[<-this,<-I,zB7]
  have ac:ln xs<=cap:=by
   have h5:ln xs*sz<=cap*sz:=by rw[<-B];exact W
   exact zEz h5 (by omega)
  exact⟨_,[],⟨cap,rfl,by omega,rfl⟩,β,by rw[dZ];exact xU.refl O,by rw[dZ];exact .fz _ _ (.s _)⟩
end
section
variable {P:Program} {K0:List Nat} {F:Fr K0} {m:Nat} {ops:Array Oper} {rest:List Oper} {fs:List FP} {Q:List FP->St->Prop} {tm:List (Nat×AV)} {h:List (Nat×xW)}
theorem wK.restr2 {a:Act} (R:wK F m st a w) (K A:List Nat) (G:K0.all (K.contains ·)=true) (t:Nat) (v:AV) (hg:∀i,v≠ .gh i)
 (hv:∀X β,jL X (zD st.h) β w->yI w (xT X β) (zD st.h) β (zK st.tm t) (a.eval (.tmp t))->yI w (xT X λk=>if k∈K then β k else []) (zD (wU K (zD st.h))) (λk=>if k∈K then β k else []) v (a.eval (.tmp t))):
  wK F m ⟨(t,v)::(Av.restr K A st).tm,(Av.restr K A st).h⟩ a w:=by
 have Y:=wK.restr R K A G;obtain⟨⟨X,β,hX,H,V,z,hJ,hD⟩,nd,gs,hl⟩:=R;obtain⟨U,L⟩:=H.restr K;refine⟨⟨X,_,hX,U,λj=>?_,⟨λk e W=>?_,z.size,z.keep,λk b n u=>?_,λk b n u=>?_,z.bs,z.os,z.tape,z.output⟩,λi hi=>?_,hD⟩,Y.nd,gs,hl⟩
 .show yI _ _ _ _ (zK ((t,v)::(Av.restr K A st).tm) j) _
  rw[xF];split
  .rename_i hj;subst hj;exact hv X β H (V j)
  .rw[gE];split
   .exact L _ _ (V j)
   .exact .fz _ _ (.bot _)
 .have hk:k∈K:=by
   have:=zA5.1 G k (F.hh k e W);simpa using this
  have h1:=z.knd k e W;have I:∀C,zD st.h k=some C->zD (wU K (zD st.h)) k=some (kC K (zD st.h) C):=λC h2=>by rw[wG,f5 hk,h2];rfl
  cases e with
  |dead=>exact h1
  |box cs=>obtain⟨B,h2⟩:=h1;exact⟨_,I _ h2⟩
  |obj cs=>obtain⟨B,h2⟩:=h1;exact⟨_,I _ h2⟩
  |arr sz xs sl=>obtain⟨O,M,h2,h3⟩:=h1;obtain⟨S,E,h4,h5⟩:=gO K (zD st.h) sz O M;exact⟨S,E,(I _ h2).trans (by rw[h4]),by rw[h5];exact h3⟩
 ·(try dsimp only at u)
  split at u
  .exact z.own k b n u
  .simp at u
 .have hk:k∈K:=by
   have:=zA5.1 G k (F.hK k b n u);simpa using this
  (try dsimp only)
  rw[f5 hk];exact z.pas k b n u
 .have h1:zK st.tm GS= .gh i:=by
   change zK ((t,v)::(Av.restr K A st).tm) GS= .gh i at hi
   grind [wK,zD,xT,zK,wU,xF,gE,HB]
  refine F.Jst i _ X w w _ (hJ i h1) (zAw _) (λ_ _ _=>rfl) (λb hb=>?_) (λb hb=>?_) Z Z Z
  .obtain⟨k,n,u⟩:=hb
   (try dsimp only at u)
   split at u
   .exact .inl ⟨k,n,u⟩
   .simp at u
  .obtain⟨k,n,u⟩:=hb;exact U.lt b (.inr ⟨k,n,u⟩)
def U2 (t k N:Nat) (K Y:List Nat) (hv:zK tm t= .ref k 0 (ln xs)) (hk:zD h k=some (.arr sz xs ⟨false,false⟩)) (hl:1<=ln xs) (hN:ln xs<=N) (M:N<=1073741824) (hK:K0.all (K.contains ·)=true) (I:K.contains k=false) {st':St} (he:restr K Y ⟨tm,h⟩=st')
 (h1:∀c,c<N->yN P F m ops false rest ⟨(t,.slc c xs)::st'.tm,st'.h⟩ fs Q) (h2:yN P F m ops false rest ⟨tm,(k,.arr sz (xs++pb (N-xs.length) (dE sz)) ⟨false,false⟩)::h⟩ fs Q):yN P F m ops false rest ⟨tm,h⟩ fs Q:=⟨λa w R=>by
 subst he;have R0:=R;obtain⟨⟨X,β,hX,V,W,KK,hJ,hD⟩,nd,gs,L⟩:=R0;have u:=W t;dsimp only at u;rw[hv]at u;obtain⟨b,cap,A,z⟩:=Ah V hk u hl hN M;by_cases hc:cap<N
 .refine(h1 cap hc).run a w (wK.restr2 R K Y hK t (.slc cap xs) (λi h=>by cases h) λX β H C=>?_);dsimp only at C;rw[hv]at C;obtain⟨H',S⟩:=H.restr K;have B:=S _ _ C
  have e5:wT K (zD h) (.ref k 0 (ln xs))= .sl false xs:=by
   simp only[wT,I,zCt,hk];rw[zBd,zAt]
  dsimp only at B⊢;rw[e5,A]at B;rw[A];have O:xs≠[]:=λh0=>by rw[h0]at hl;simp at hl
  generalize E:(Value.slice (some ⟨b,0*sz,none⟩) (ln xs) cap)=cs at B
  cases B with
  | fz _ _ hf=>
   cases hf with
   |nil a cap=>exact absurd Z O
   |sl nn xs b o sz cap f hx hL hc hh=>
    cases E;exact .fz _ _ (.slc _ _ _ _ _ f hL hc hh)
 .obtain⟨β',G⟩:=z (by omega);refine h2.run a w ?_;have U:∀j,over [(k,xW.arr sz (xs++pb (N-xs.length) (dE sz)) ⟨false,false⟩)] (zD h) j≠some .dead:=eO Z nd;have R':=WK.put hX V W KK hJ hD gs L G U (v:= .bot) (c:=undef) (.fz _ _ (.bot _)) none (λd hd=>by cases hd);have e1:(λj=>if(none:Option Nat)=some j then AV.bot else zK tm j)=zK tm:=funext λj=>by simp
  show WK F m (zK tm) (zD ((k,xW.arr sz (xs++pb (N-xs.length) (dE sz)) ⟨false,false⟩)::h)) a w
  rw[show zD ((k,xW.arr sz (xs++pb (N-xs.length) (dE sz)) ⟨false,false⟩)::h)=over [(k,xW.arr sz (xs++pb (N-xs.length) (dE sz)) ⟨false,false⟩)] (zD h)from vD [(k,xW.arr sz (xs++pb (N-xs.length) (dE sz)) ⟨false,false⟩)] h,<-e1]
  exact R'⟩
def ud (t:Nat) (hv:zK tm t= .slc c xs) (hx:1<=ln xs) (hk:yN P F m ops false rest ⟨(t,.sl true xs)::tm,h⟩ fs Q):yN P F m ops false rest ⟨tm,h⟩ fs Q:=⟨λa w R=>hk.run a w (by
 obtain⟨⟨X,β,G,z,u,A,E,C⟩,L,gs,hl⟩:=R;refine⟨⟨X,β,G,z,λj=>?_,A,λi hi=>?_,C⟩,L,gs,hl⟩
 .rw[xF];split
  .rename_i hj;subst hj;have:=u j;dsimp only at this;rw[hv]at this;generalize a.eval (.tmp j)=M at this
   cases this with
   |fz _ _ I=>
    cases I with
    |slc _ _ b o sz f hL hc hh=>exact .fz _ _ (.sl true xs b o sz c f (λB=>by rw[B]at hx;simp at hx) hL hc hh)
  .exact u j
 .rw[xF]at hi;split at hi
  .cases hi
  .exact E i hi)⟩
end
section
variable {P:Program} {K0:List Nat} {F:Fr K0} {m:Nat} {ops:Array Oper} {rest:List Oper} {fs:List FP} {tm:List (Nat×AV)} {h:List (Nat×xW)}
def Bn {K u:List Nat} {k:List (Nat×AV)->List (Nat×xW)->Prop} (hk:jY K (zD st.h) st.tm u λT=>jS K (zD st.h) K λU=>k T U):k (restr K u st).tm (restr K u st).h:=by
 rw[dS,kV]at hk;exact hk
def vU {Q:List FP->St->Prop} (K u:List Nat) (z:K0.all (K.contains ·)=true) (h1:jY K (zD h) tm u λT=>jS K (zD h) K λU=>yN P F m ops false rest ⟨T,U⟩ fs Q):yN P F m ops false rest ⟨tm,h⟩ fs Q:=
 ⟨λa w R=>(Bn (st:=⟨tm,h⟩) (k:=λT U=>yN P F m ops false rest ⟨T,U⟩ fs Q) h1).run a w (wK.restr R K u z)⟩
def wI {c:Code} (K u:List Nat) (z:K0.all (K.contains ·)=true) (h1:jY K (zD st.h) st.tm u λT=>jS K (zD st.h) K λU=>uD P F m c ⟨T,U⟩ Q):uD P F m c st Q:=
 kW K u z Z (Bn (k:=λT U=>uD P F m c ⟨T,U⟩ Q) h1)
structure Ku (p:Prop):Prop where
 h:p
def PY (P:Program) (F:Fr K0) (m:Nat) (c:Code) (Q:Exit->St->Prop) (K u:List Nat):Nat->St->Prop
 |0,_=>False
 |n+1,st=>uD P F m c (restr K u st) (cF Q λs=>Ku (PY P F m c Q K u n s))
def wB {c:Code} (n:Nat) (K u:List Nat) (z:K0.all (K.contains ·)=true) (h1:Ku (PY P F m c Q K u n st)):uD P F m (.loop c) st Q:=⟨λa w R=>by
 refine wpIn_loop_rounds n ?_
 induction n generalizing st a w with
 |zero=>exact h1.h.elim
 |succ n A=>
  refine Code.wpIn_mono (λe a' w' ⟨s,q1,q2⟩=>?_) (h1.h.run a w (wK.restr R K u z))
  cases e with
  |normal=>exact A q1 a' w' q2
  |_=>exact⟨s,q1,q2⟩⟩
def yB {st0:St} {c:Code} {n:Nat} {K u:List Nat} (z:restr K u st=st0) (h1:uD P F m c st0 (cF Q λs=>Ku (PY P F m c Q K u n s))):Ku (PY P F m c Q K u (n+1) st):=by
 subst z;exact⟨h1⟩
theorem od {α:Type} {cs vs:List α} (hl:ln vs=ln cs):UM cs 0 vs=vs:=by
 apply zB0;intro j;rw[YW _ _ _ _ (by omega)]
 grind
def S2 {TT:List TI} {A:Bool} {Q:List FP->St->Prop} {ty:Nat} {pos:String} {u:Array Edge} (E:uZ P TT) {k:Nat} {p:Operand} {cs:List AV} (G:yX (zK tm) p= .ptr k 0 0) (z:zD h k=some (.box cs)) (hx:yX (zK tm) x= .agg vs) (hT:TT[T]? =some ti) (B:Nat.beq (ln vs) ti.size=true) (hl:Nat.beq (ln vs) (ln cs)=true)
 (hk:yN P F m ops A rest ⟨tm,(k,.box vs)::h⟩ (⟨true,[k],[k]⟩::fs) Q):yN P F m ops A (⟨none,.store T p x,ty,pos,u,none⟩::rest) ⟨tm,h⟩ fs Q:=by
 have e1:=zBo B;have C:=zBo hl;refine cO (v:= .bot) (k:=k) (e:= .box vs) (r:=[k]) (nw:=[]) E ?_ Z Z hk;simp only[exec,G,hT,z,hx,wj,AV.ok,AV.cells,gQ,od C]
 rw[show(true&&(Nat.beq (ln vs) ti.size&&Nat.ble (0+ti.size) (ln cs)))=true by
  rw[B,zD8 (by omega)];rfl]
 rfl
end
