/- Part 11. -/
import Derived.Test.YteajjdidebfcjaaGreatR10
import Derived.Lib.Overlaps
import Derived.LoopNIn
namespace Go.Proofs.YteajjdidebfcjaaGreat
namespace Av
set_option linter.all false
structure zYr (P:Program) (st:St) (op:Op) (O:AV->List (Nat×xN)->Prop) (r nw:List Nat):Prop where
 run:∀(X:Nat->Prop) (tm:Nat->AV) (h:yC),(∀t,t∈fA op->tm t=zG st.tm t)->(∀k,k∈r->h k=zC st.h k)->(∀k,k∈nw->h k=none)->∀(o:Oper) (a:Act) (w:World) (β:vP),o.op=op->qV X h β w->(∀t,zQ w (xK X β) h β (tm t) (a.eval (.tmp t)))->
  dH P (λc w'=>∃v d,O v d/\∃β',yX X w h β w' (over d h) β'/\zQ w' (xK X β') (over d h) β' v c) ((execOp a.eval o).run P w)
section
variable {P:Program} {K0:List Nat} {F:Fr K0} {m:Nat} {ops:Array Oper} {rest:List Oper} {fs fs':List FP} {Q:List FP->St->Prop} {tm:List (Nat×AV)} {h:List (Nat×xN)} {op:Op} {ty:Nat} {pos:String} {after:Array Edge} {t:Nat} {r nw:List Nat} {O:AV->List (Nat×xN)->Prop}
def x_m (hs:zYr P ⟨tm,h⟩ op O r nw) (hm:Nat.blt t m=true) (hn:nw.all (λj=>(zC h j).isNone)=true) (hd:∀v d,O v d->vJ d=true) (hk:∀v d,O v d->zX P F m ops false rest ⟨(t,v)::tm,d++h⟩ fs' Q):
  zX P F m ops false (⟨some t,op,ty,pos,after,none⟩::rest) ⟨tm,h⟩ fs Q:=⟨λa w R=>wpListIn_plain Z λK hK=>by
 obtain⟨⟨X,β,hX,HH,Ht,KK,hJ,hD⟩,nd,gs,hl⟩:=R;refine dH.wp (hs.run X (zG tm) (zC h) (λ_ _=>rfl) (λ_ _=>rfl) (λk hk=>by have:=yAm.1 hn k hk;simpa using this) ⟨some t,op,ty,pos,after,none⟩ a w β rfl HH Ht) ?_;rintro c w' ⟨v,d,hO,β',G,hc⟩;have hdd:=hd v d hO
 have nd':∀k,over d (zC h) k≠some .dead:=λk=>by
  unfold over;split
  ·rename_i e he;intro h4;cases h4;exact uG hdd he
  ·exact nd k
 refine hK _ _ ((hk v d hO).run _ _ ?_);have R':=XF.put hX HH Ht KK hJ hD gs hl G nd' hc (some t) (λj hj=>by cases hj;exact yAq hm)
 have e1:zG ((t,v)::tm)=λj=>if some t=some j then v else zG tm j:=funext λj=>by rw[yF];simp[yGe]
 show XF F m (zG ((t,v)::tm)) (zC (d++h)) _ _
 rw[e1,wQ]
 exact R'⟩
end
section
variable {P:Program} {st:St}
end
def fD (sz:Nat):AV:= .agg (List.replicate sz .bot)
section
variable {P:Program} {TT:List TI} {st:St}
theorem zFf {X:Nat->Prop} {h:yC} {β:vP} {w:World} (HH:qV X h β w) {k len sz N:Nat} {xs:List AV} {cx:Value} (hk':h k=some (.arr sz xs ⟨false,false⟩)) (h1:zQ w (xK X β) h β (.ref k 0 len) cx) (hl:1<=len) (hN:xs.length<=N) (hmx:N<=1073741824):
  ∃b cap,cx= .slice (some ⟨b,0*sz,none⟩) len cap/\(N<=cap->∃β',yX X w h β w (over [(k,.arr sz (xs++List.replicate (N-xs.length) (fD sz)) ⟨false,false⟩)] h) β'):=by
 cases h1 with
 |fz _ _ hf=>cases hf
 |dref _ _ _ _ hd _=>rw[hk']at hd;cases hd
 |ref0 _ _ sz' xs' st' b hk'' hn=>omega
 | ref _ _ _ sz' xs' st' b n cap hk'' hb hn hc hs'=>
  have h3:=hk'';rw[hk']at h3;cases h3;refine⟨b,cap,rfl,λhlt=>?_⟩;obtain⟨g1,g2,g3,g4,g5,f,g6,g7,g8⟩:=HH.ent k _ hk'
  obtain⟨rr,hbk,hnx,hr0⟩:∃rr,β k=(b,n)::rr/\n=xs.length/\∀b' n',(b',n')∈rr->n'=0:=by
   cases hbk:β k with
   |nil=>rw[hbk]at hb;simp at hb
   |cons q r=>
    obtain⟨b0,n0⟩:=q;obtain⟨e1,e2,_⟩:=g5 b0 n0 r hbk;have e2:=e2 Z;rw[hbk]at hb;simp at hb
    rcases hb with⟨rfl,rfl⟩|hm
    ·exact⟨r,rfl,e1,e2⟩
    ·have:=e2 b n hm;omega
  subst hnx;obtain⟨c,el,c1,c2,c3,c4⟩:=g8 b _ hb
  have hcs:c.size=cap*sz:=by
   have:wB w b=c.size:=by unfold wB World.shape?;rw[c1];rfl
   rw[<-this,<-hs',yBu]
  have hNs:N*sz<=c.size:=by rw[hcs];exact yA0 _ (by omega)
  have hlen:(xs++List.replicate (N-xs.length) (fD sz)).length=N:=by simp;omega
  have hat:∀(i:Nat) y,(xs++List.replicate (N-xs.length) (fD sz))[i]? =some y->(i<xs.length/\xs[i]? =some y)∨(¬i<xs.length/\i<N/\y=fD sz):=λi y hy=>by
   by_cases hi:i<xs.length
   ·rw[yBe hi]at hy;exact .inl ⟨hi,hy⟩
   ·have hiN:i<N:=by rw[<-hlen];exact(yAu.1 hy).1
    rw[yA1 (by omega),yB2]at hy;split at hy
    ·exact .inr ⟨hi,hiN,(yCs hy).symm⟩
    ·cases hy
  have hidx:∀i j,i<N->j<sz->i*sz+j<c.size:=λi j hi hj=>by
   have:=yA0 sz (show i+1<=N by omega);rw[yBk,yCa]at this;omega
  let f':Nat->Nat->Value:=λi j=>if i<xs.length then f i j else c.getD (i*sz+j) undef
  have G:=yX.step (w':=w) HH k (.arr sz (xs++List.replicate (N-xs.length) (fD sz)) ⟨false,false⟩) ((b,N)::rr) (yAb _) (λ_ _ _=>rfl) Z Z Z
   (λb' n' hm=>by
    simp at hm
    rcases hm with⟨rfl,_⟩|hm
    ·exact .inl ⟨_,hb⟩
    ·exact .inl ⟨n',by rw[hbk];simp[hm]⟩) (λ_ _ _=>rfl)
   (λe he=>by
    rw[hk']at he;cases he;refine .inr ⟨⟨_,_,rfl,by rw[hlen];exact hN⟩,λb' n' hm=>?_⟩;rw[hbk]at hm;simp at hm
    rcases hm with⟨rfl,rfl⟩|hm
    ·exact⟨N,hN,by simp⟩
    ·exact⟨n',yAb _,by simp[hm]⟩)
   (λE=>⟨g1,by rw[hlen];unfold cQ;omega,λ_=>by rw[zZ];simp,λi y hy=>by
    rcases hat i y hy with⟨_,h⟩|⟨_,_,rfl⟩
    ·exact g4 i y h
    ·simp[fD,AV.cells],λb' n' r hr=>by
    rw[zZ]at hr;simp at hr;obtain⟨⟨rfl,rfl⟩,rfl⟩:=hr
    exact⟨hlen.symm,λ_=>hr0,λb' n' hm=>by have:=hr0 b' n' hm;rw[hlen];omega⟩,f',λi y j v hy hv=>by
    simp only[f']
    rcases hat i y hy with⟨hi,h⟩|⟨hi,_,rfl⟩
    ·rw[zZ8 hi];exact⟨(g6.toV i y j v h hv).evo E,λ_=>(g6.toF Z i y j v h hv).evo E.size E.fz⟩
    ·have:v= .bot:=by
      simp only[fD,AV.cells,yB2]at hv;split at hv
      ·exact(yCs hv).symm
      ·cases hv
     subst this
     exact⟨.fz _ _ (.bot _),λ_=> .bot _⟩,λi j hi hj=>by
    rw[hlen]at hi;simp only[f'];split
    ·exact g7 i j ‹_› hj
    ·exact c4 _ (hidx i j hi hj),λb' n' hm=>by
    rw[zZ]at hm;simp at hm
    rcases hm with⟨rfl,rfl⟩|hm
    ·refine⟨c,el,c1,hNs,λi j hi hj=>?_,c4⟩;simp only[f'];split
     ·exact c3 i j ‹_› hj
     ·exact kF c _ (hidx i j hi hj)
    ·obtain⟨c',el',d1,d2,_,d4⟩:=g8 b' n' (by rw[hbk];simp[hm]);have:=hr0 b' n' hm;subst this
     exact⟨c',el',d1,d2,λi j hi _=>by omega,d4⟩⟩)
  exact⟨_,G⟩
def zFg (hP:uI P TT) {T e:Nat} {x hi:Operand} {ti te:TI} {k len sz N:Nat} {xs:List AV} {ki:IntKind} (hx:yJ (zG st.tm) x= .ref k 0 len) (hk:zC st.h k=some (.arr sz xs ⟨false,false⟩)) (hh:yJ (zG st.tm) hi= .s (.int ki (N:Int))) (hT:TT[T]? =some ti) (hd:ti.d= .slice e) (he:TT[e]? =some te)
  (hl:1<=len) (hN:N<=xs.length) (hN1:1<=N) (hmx:N<=1073741824):wM P st (.slice T x none (some hi) none) (.ref k 0 N) [] [k] []:=
 yK λoo X tm h w β a ho hg hr' HH Ht=>by
  obtain⟨dst,op',type,pos,after,guard⟩:=oo;dsimp only at ho;subst ho;have h1:=hH Ht hg (x:=x) vY hx;have hk':=(hr' k zU).trans hk;obtain⟨u,hu,hd'⟩:=xW (hP _ _ hT) w;obtain rfl:=vN (hd'.trans hd);have hs:=uQ (hP _ _ he) w;generalize hcx:a.eval x=cx at h1
  cases h1 with
  |fz _ _ hf=>cases hf
  |dref _ _ _ _ hd _=>rw[hk']at hd;cases hd
  |ref0 _ _ sz' xs' st' b hk'' hn=>omega
  | ref _ _ _ sz' xs' st' b n cap hk'' hb hn hc hs'=>
   have h3:=hk'';rw[hk']at h3;cases h3;obtain⟨g1,g2,g3,g4,g5,f,g6,g7,g8⟩:=HH.ent k _ hk'
   have hnx:n=xs.length:=by
    cases hbk:β k with
    |nil=>rw[hbk]at hb;simp at hb
    |cons q r=>
     obtain⟨b0,n0⟩:=q;obtain⟨e1,e2,_⟩:=g5 b0 n0 r hbk;have e2:=e2 Z;rw[hbk]at hb;simp at hb
     rcases hb with⟨rfl,rfl⟩|hm
     ·exact e1
     ·have:=e2 b n hm;omega
   subst hnx;obtain⟨c,el,c1,c2,c3,c4⟩:=g8 b _ hb
   have hcs:c.size=cap*sz:=by
    have:wB w b=c.size:=by unfold wB World.shape?;rw[c1];rfl
    rw[<-this,<-hs',yBu]
   have hcN:N<=cap:=by
    have h5:N*sz<=cap*sz:=by rw[<-hcs];exact yBm (yA0 _ hN) c2
    exact yE1 h5 (by omega)
   have hbd:=hG (P:=P) Ht hg (lo:=none) (hi:=some hi) (len:=len) (cap:=cap) (l:=0) (r:=N) (λy hy=>by cases hy) (λy hy=>by cases hy;simp[Op.operands]) Z ⟨ki,N,hh,rfl⟩ (yAp _) hcN true;rw[yC6]at hbd;refine⟨_,by simp only[execOp,Instr.sliceAt,Instr.slice,Sem.run_bind,hu,Result.andThen_ok,hcx,yC6,hbd,hs,Sem.run_pure];rfl,?_⟩
   have e0:(if cap=0 then(some ⟨b,0*sz,none⟩:Option Addr)else(some ⟨b,0*sz,none⟩:Option Addr).map (·.add (0*te.size)))=some ⟨b,0*sz,none⟩:=by
    split
    ·rfl
    ·rw[Option.map_some,aK];simp
   have:=zQ.ref (w:=w) (D:=xK X β) (h:=h) (β:=β) k 0 N sz xs ⟨false,false⟩ b xs.length cap hk' hb (by omega) hcN hs';rw[e0];exact this
theorem HN (hP:uI P TT) {f:Nat} {fn:Func} {T e R:Nat} {fx x y:Operand} {ats:Array Nat} {ti te:TI} {kA kB lenA offB lenB szA szB:Nat} {xa xb:List AV} {fa fb:Fl} (hfx:yJ (zG st.tm) fx= .fn f []) (hx:yJ (zG st.tm) x= .ref kA 0 lenA) (hka:zC st.h kA=some (.arr szA xa fa)) (hy:yJ (zG st.tm) y= .ref kB offB lenB) (hkb:zC st.h kB=some (.arr szB xb fb))
  (hne:Nat.beq kA kB=false) (hlb:1<=lenB) (hla:1<=lenA) (hT:TT[T]? =some ti) (hd:ti.d= .slice e) (he:TT[e]? =some te) (hsb:1<=szB)
  (hf:P.funcs[f]? =some fn) (hname:(fn.name== "runtime.NumGoroutine")=false) (hb:fn.body.isNone=true) (hn:Extern.findNext fn=none) (hE:Extern.find fn=some (Extern.SlicesOverlaps.overlaps #[T,T] #[R])):
  wM P st (.call ⟨.value fx, #[x,y],ats⟩) (.s (.bool false)) [] [kA,kB] []:=
 yK λoo X tm h w β a ho hg hr HH Ht=>by
  obtain⟨dst,op',type,pos,after,guard⟩:=oo;dsimp only at ho;subst ho;have h1:=hH Ht hg (x:=x) kH hx;have h2:=hH Ht hg (x:=y) kH hy;have h3:=hH Ht hg (x:=fx) kH hfx;have hka':=(hr kA zU).trans hka;have hkb':=(hr kB zU).trans hkb;have hkk:kA≠kB:=λe=>by subst e;simp at hne
  obtain⟨u,hu,hd'⟩:=xW (hP _ _ hT) w;obtain⟨i,z,hu',hi,hz,e1,e2,e3⟩:=wW hP hT hd he
  have hfe:a.eval fx= .func (.func f) #[] #[]:=by
   generalize a.eval fx=cx at h3
   cases h3 with
   |fz _ _ hf=>cases hf
   |fn _ _ c hl hh=>
    have:c= #[]:=Array.eq_empty_of_size_eq_zero CG;rw[this]
  have shp:∀{k off len sz xs fl c},h k=some (.arr sz xs fl)->1<=len->zQ w (xK X β) h β (.ref k off len) c->∃b n cap cc el,c= .slice (some ⟨b,off*sz,none⟩) len cap/\(b,n)∈β k/\off+len<=n/\w.heap[b]? =some (.cells cc el (0,0))/\n*sz<=cc.size/\1<=sz:=λ{k off len sz xs fl c} hk hl hv=>by
   cases hv with
   |fz _ _ hf=>cases hf
   |dref _ _ _ _ hd _=>rw[hk]at hd;cases hd
   |ref0 _ _ _ _ _ _ _ _=>omega
   |ref _ _ _ sz' xs' st' b n cap hk'' hb hn hc hs'=>
    rw[hk]at hk'';cases hk'';obtain⟨g1,_,_,_,_,f,_,_,g8⟩:=HH.ent k _ hk;obtain⟨cc,el,c1,c2,_⟩:=g8 b n hb;exact⟨b,n,cap,cc,el,rfl,hb,hn,c1,c2,g1⟩
  obtain⟨ba,na,ca,cca,ela,q1,q2,q3,q4,q5,q6⟩:=shp hka' hla h1;obtain⟨bb,nb,cb,ccb,elb,r1,r2,r3,r4,r5,r6⟩:=shp hkb' hlb h2;have hbb:ba≠bb:=λe=>hkk (HH.disj kA kB ba na nb q2 (by rw[e];exact r2))
  have hsa:w.shape? ba=some (ela,cca.size):=by unfold World.shape?;rw[q4]
  have hsb':w.shape? bb=some (elb,ccb.size):=by unfold World.shape?;rw[r4]
  have hkB:ccb.size≠0:=by
   have:=yA0 szB (show 1<=nb by omega);omega
  have hfr:∀o,w.frozen? ⟨ba,o,none⟩=false:=λo=>by simp[World.frozen?,q4]
  have hrun:=run_callFunc_extern hf hname hb hn hE #[a.eval x,a.eval y] w;rw[q1,r1,Lib.run_overlaps_apart w T R e hu' te.size (λw=>uQ (hP _ _ he) w) ⟨ba,0*szA,none⟩ ⟨bb,offB*szB,none⟩ lenA ca lenB cb hbb ela elb cca.size ccb.size hsa hsb' hkB (hfr _) (hfr _)]at hrun;exact⟨_,by simp only[execOp,resolve,hfe,Deferred.ofValue,invoke];simpa [q1,r1]using hrun,.fz _ _ (.s _)⟩
theorem LW {X:Nat->Prop} {h:yC} {β:vP} {w:World} (HH:qV X h β w) {kn:Nat} (hkn:h kn=none) {ys vs:List AV} {sz e gc:Nat} {olds news:List Value} {zc:Array Value} (f g:Nat->Nat->Value) (hp:1<=sz) (hlo:olds.length=ys.length*sz) (ho:∀i j,i<ys.length->j<sz->olds[i*sz+j]? =some (f i j)) (ho1:∀u∈olds,u.oneCell'=true)
  (hln:news.length=vs.length*sz) (hn:∀i j,i<vs.length->j<sz->news[i*sz+j]? =some (g i j)) (hn1:∀u∈news,u.oneCell'=true) (hwy:∀(i:Nat) (y:AV),ys[i]? =some y->y.cells.length=sz) (hwv:∀(i:Nat) (y:AV),vs[i]? =some y->y.cells.length=sz)
  (h1f:∀i j,i<ys.length->j<sz->(f i j).oneCell'=true) (h1g:∀i j,i<vs.length->j<sz->(g i j).oneCell'=true) (hrf:∀(i:Nat) (y:AV) (j:Nat) v,ys[i]? =some y->y.cells[j]? =some v->xH w (xK X β) v (f i j)) (hrg:∀(i:Nat) (y:AV) (j:Nat) v,vs[i]? =some y->y.cells[j]? =some v->xH w (xK X β) v (g i j))
  (hz1:∀v∈zc.toList,v.oneCell'=true) (hzs:zc.size=sz) (hge:ys.length+vs.length<=gc) (hmx:ys.length+vs.length<=cQ):
  ∃β',yX X w h β (w.drew.alloc (.cells (olds.toArray++news.toArray++Builtin.zeroCells zc (gc-(ys.length+vs.length))) e)) (over [(kn,.arr sz (ys++vs) false)] h) β'/\
   zQ (w.drew.alloc (.cells (olds.toArray++news.toArray++Builtin.zeroCells zc (gc-(ys.length+vs.length))) e)) (xK X β') (over [(kn,.arr sz (ys++vs) false)] h) β' (.ref kn 0 (ys++vs).length) (.slice (some ⟨w.heap.size,0,none⟩) (ys.length+vs.length) gc):=by
 have HD:=HH.drew (w.drawn+1);have hlen:(ys++vs).length=ys.length+vs.length:=by simp
 have hat:∀(i:Nat) y,(ys++vs)[i]? =some y->(i<ys.length/\ys[i]? =some y)∨(¬i<ys.length/\vs[i-ys.length]? =some y):=λi y hy=>by
  by_cases hi:i<ys.length
  ·rw[yBe hi]at hy;exact .inl ⟨hi,hy⟩
  ·rw[yA1 (by omega)]at hy;exact .inr ⟨hi,hy⟩
 have evo:∀{v c},xH w (xK X β) v c->xH w.drew (xK X β) v c:=λhf=>xH.evo (w:=w) (w':=w.drew) (yAb _) (λ_ _ hd=>⟨rfl,hd⟩) hf
 have:=yX.newArr (w:=w.drew) HD hkn (olds.toArray++news.toArray++Builtin.zeroCells zc (gc-(ys.length+vs.length))) e sz (ys++vs) gc (λi j=>if i<ys.length then f i j else g (i-ys.length) j) hp (by rw[hlen];exact hmx) (by rw[hlen];exact hge) (by
   simp only[yFe,yDg,size_zeroCells,hzs,hlo,hln,<-yBk]
   congr 1;omega) (qD.get (((qD.arr ho1).app (qD.arr hn1)).app (qD.zero hz1 _))) (λi y hy=>by
   rcases hat i y hy with⟨_,h⟩|⟨_,h⟩
   ·exact hwy i y h
   ·exact hwv _ y h) (λi j hi hj=>by
   rw[hlen]at hi
   have hlt:i*sz+j<(ys.length+vs.length)*sz:=by
    have:=yA0 sz (show i+1<=ys.length+vs.length by omega);rw[yBk,yCa]at this;omega
   rw[yBk]at hlt;rw[yCb (by simp[hlo,hln];omega)];split
   ·rename_i hi'
    have hlt':i*sz+j<ys.length*sz:=by
     have:=yA0 sz (show i+1<=ys.length by omega);rw[yBk,yCa]at this;omega
    rw[yCb (by simp[hlo];omega)];simpa using ho i j hi' hj
   ·rename_i hi';have hge':ys.length*sz<=i*sz:=yA0 _ (by omega);have e4:i*sz+j-ys.length*sz=(i-ys.length)*sz+j:=by rw[yFs];omega
    rw[yD0 (by simp[hlo];omega)];simp only[yDg,hlo,e4,yDa]
    exact hn _ _ (by omega) hj) (λi j hi hj=>by
   rw[hlen]at hi;split
   ·exact h1f i j ‹_› hj
   ·exact h1g _ j (by omega) hj) (λi y j v hy hv=>by
   rcases hat i y hy with⟨hi,h⟩|⟨hi,h⟩
   ·rw[zZ8 hi];exact evo (hrf i y j v h hv)
   ·rw[zZ7 hi];exact evo (hrg _ y j v h hv))
 obtain⟨β',G,hv⟩:=this;refine⟨β',yX.trans HH (yX.drew HH (w.drawn+1)) G,?_⟩;rw[hlen]at hv⊢;exact hv
def zMi (hP:uI P TT) {T e c:Nat} {x:Operand} {ti:TI} {xs:List AV} (hx:yJ (zG st.tm) x= .slc c xs) (hT:TT[T]? =some ti) (hd:ti.d= .slice e):wM P st (.call ⟨.builtin .cap, #[x], #[T]⟩) (.s (.int .i64 (c:Int))) [] [] []:=
 yK λoo X tm h w β a ho hg hr HH Ht=>by
  obtain⟨dst,op',type,pos,after,guard⟩:=oo;dsimp only at ho;subst ho;have h1:=hH Ht hg (x:=x) kH hx;obtain⟨u,hu,hd'⟩:=xW (hP _ _ hT) w;obtain rfl:=vN (hd'.trans hd);generalize hcx:a.eval x=cx at h1
  cases h1 with
  | fz _ _ hf=>
   cases hf with
   |slc _ _ b o sz f hL hc hh=>
    exact⟨_,by simp[execOp,resolve,invoke,builtin,Builtin.cap_,hcx,hu,goInt],.fz _ _ (.s _)⟩
def CT (hP:uI P TT) {T e c:Nat} {x:Operand} {ti:TI} {xs:List AV} (hx:yJ (zG st.tm) x= .slc c xs) (hT:TT[T]? =some ti) (hd:ti.d= .slice e):wM P st (.call ⟨.builtin .len, #[x], #[T]⟩) (.s (.int .i64 (xs.length:Int))) [] [] []:=
 yK λoo X tm h w β a ho hg hr HH Ht=>by
  obtain⟨dst,op',type,pos,after,guard⟩:=oo;dsimp only at ho;subst ho;have h1:=hH Ht hg (x:=x) kH hx;obtain⟨u,hu,hd'⟩:=xW (hP _ _ hT) w;obtain rfl:=vN (hd'.trans hd);generalize hcx:a.eval x=cx at h1
  cases h1 with
  | fz _ _ hf=>
   cases hf with
   |slc _ _ b o sz f hL hc hh=>
    exact⟨_,by simp[execOp,resolve,invoke,builtin,Builtin.len_,hcx,hu,goInt],.fz _ _ (.s _)⟩
def zMj (hP:uI P TT) {T e c r:Nat} {x hi:Operand} {ti te:TI} {ki:IntKind} {xs:List AV} (hx:yJ (zG st.tm) x= .slc c xs) (hh:yJ (zG st.tm) hi= .s (.int ki (r:Int))) (hT:TT[T]? =some ti) (hd:ti.d= .slice e) (he:TT[e]? =some te) (hr:r<=xs.length):
  wM P st (.slice T x none (some hi) none) (.slc c (xs.take r)) [] [] []:=
 yK λoo X tm h w β a ho hg hr' HH Ht=>by
  obtain⟨dst,op',type,pos,after,guard⟩:=oo;dsimp only at ho;subst ho;have h1:=hH Ht hg (x:=x) vY hx;obtain⟨u,hu,hd'⟩:=xW (hP _ _ hT) w;obtain rfl:=vN (hd'.trans hd);have hs:=uQ (hP _ _ he) w;generalize hcx:a.eval x=cx at h1
  cases h1 with
  | fz _ _ hf=>
   cases hf with
   | slc _ _ b o sz f hL hc hh2=>
    have hbd:=hG (P:=P) Ht hg (lo:=none) (hi:=some hi) (len:=xs.length) (cap:=c) (l:=0) (r:=r) (λy hy=>by cases hy) (λy hy=>by cases hy;simp[Op.operands]) Z ⟨ki,r,hh,rfl⟩ (yAp _) (yBm hr hc) true;rw[yC6]at hbd;have hlt:(xs.take r).length=r:=by simp;omega
    have hat:∀(i:Nat) y,(xs.take r)[i]? =some y->xs[i]? =some y:=λi y hy=>by
     rw[yBz]at hy;split at hy
     ·exact hy
     ·cases hy
    refine⟨_,by simp only[execOp,Instr.sliceAt,Instr.slice,Sem.run_bind,hu,Result.andThen_ok,hcx,yC6,hbd,hs,Sem.run_pure];rfl,.fz _ _ ?_⟩
    have e0:(if c=0 then(some ⟨b,o,none⟩:Option Addr)else(some ⟨b,o,none⟩:Option Addr).map (·.add (0*te.size)))=some ⟨b,o,none⟩:=by
     split
     ·rfl
     ·rw[Option.map_some,aK];simp
    have:=xH.slc (w:=w) (D:=xK X β) c (xs.take r) b o sz f ⟨hL.lt,hL.nd,hL.pos,by rw[hlt];exact yBm hr hL.max,λi y hy=>hL.wide i y (hat i y hy),λi j hi hj=>hL.cell i j (by omega) hj,λi j hi hj=>hL.one i j (by omega) hj⟩ (by rw[hlt];exact yBm hr hc) (λi y j v hy hv=>hh2 i y j v (hat i y hy) hv);rw[hlt]at this;rw[yFc,yFc,e0];exact this
theorem zMk (hP:uI P TT) {T I e c n:Nat} {s x:Operand} {ti te tn:TI} {k0:IntKind} {nx:Int} {ys:List AV} (kn:Nat) (hs:yJ (zG st.tm) s= .slc c ys) (hx:yJ (zG st.tm) x= .s (.int .i64 nx)) (hT:TT[T]? =some ti) (hd:ti.d= .slice e) (he:TT[e]? =some te) (hI:TT[I]? =some tn) (hdn:tn.d= .int k0)
  (hb:Nat.ble te.bytes 65536=true) (hp:Nat.ble 1 te.size=true) (hzl:Nat.beq te.zero.length te.size=true) (hz1:te.zero.all (·.oneCell')=true) (hzc:Nat.beq (vU te).cells.length te.size=true) (hzc2:(vU te).cells=te.zero.map .s)
  (hnx:nx=(n:Int)) (hpos:1<=n) (hmax:ys.length+n<=1073741824) (hc:c<ys.length+n) (hw0:∀(i:Nat) (y:AV),ys[i]? =some y->y.cells.length=te.size):
  wM P st (.call ⟨.builtin .append, #[s,x], #[T,I]⟩) (.ref kn 0 (ys++List.replicate n (vU te)).length) [(kn,.arr te.size (ys++List.replicate n (vU te)) false)] [] [kn]:=by
 refine⟨?_⟩;intro X tm h hg _ hn o a w β ho HH Ht;obtain⟨dst,op',type,pos,after,guard⟩:=o;dsimp only at ho;subst ho;have h1:=hH Ht hg (x:=s) kH hs;have h2:=vF Ht hg (x:=x) kH hx;have hp:=yAq hp;have hb:=yAq hb;have hzl:=yA2 hzl;have hzc:=yA2 hzc;subst hnx;obtain⟨i,z,hu,hi,hz,e1,e2,e3⟩:=wW hP hT hd he;obtain⟨_,u2,_,_,hu2,_,hd2,_⟩:=wN (hP _ _ hI);obtain rfl:=UX (hd2.symm.trans hdn);generalize hcx:a.eval s=cx at h1
 cases h1 with
 | fz _ _ hf=>
  cases hf with
  | slc _ _ b o sz f hL hcc hh=>
   have hzs:z.cells.size=te.size:=by rw[<-hzl,<-e3];simp
   have hS:Src w (xK X β) h β false ys te.size b o f:=⟨hw0,λi j hi hj=>by
    have:sz=te.size:=by
     have h4:=hL.wide i ys[i] VP;have h5:=hw0 i ys[i] VP;omega
    subst this;exact hL.cell i j hi hj,λi j hi hj=>by
    have:sz=te.size:=by
     have h4:=hL.wide i ys[i] VP;have h5:=hw0 i ys[i] VP;omega
    subst this;exact hL.one i j hi hj,.ofF hh⟩
   obtain⟨hf1,hf2⟩:=hS.flat hp
   have hbytes:(ys.length+n)*i.bytes<=140737488355328:=by
    have:=yC9 hmax (show i.bytes<=65536 by omega);omega
   have hfit:=growslice_fits (need:=ys.length+n) (old:=c) (bytes:=i.bytes) hc hbytes;have hw:IntKind.i64.wrap (n:Int)=(n:Int):=qP ⟨by show(-9223372036854775808:Int)<=_;omega,by show _<=(9223372036854775807:Int);omega⟩
   have hs0:n*i.size≠0:=by
    have:1*1<=n*i.size:=yC9 hpos (by omega);omega
   have h48:¬(281474976710656<(n:Int)*(i.bytes:Int)):=by
    have h3:(n:Int)*(i.bytes:Int)=((n*i.bytes:Nat):Int):=by simp
    have h4:n*i.bytes<=(ys.length+n)*i.bytes:=yA0 _ (by omega);rw[h3];omega
   have h48':¬(281474976710656<Builtin.nextslicecap (ys.length+n) c*i.bytes):=by omega
   have h63:¬(9223372036854775807<((ys.length:Int)+(n:Int))):=by omega
   have hroom:¬(ys.length+n<=c):=by omega
   have hneg:¬((n:Int)<0):=by omega
   have hfo:=run_firstCells_some (P:=P) w.drew i.size ys.length ⟨b,o,none⟩ ys.length c (flat f ys.length i.size) (zW _ _ _) (by rw[e1];simpa using hf1)
   have hrun:(Builtin.append_ #[T,I] type #[.slice (some ⟨b,o,none⟩) ys.length c,.int .i64 (n:Int)]).run P w= .ok (.slice (some ⟨w.heap.size,0,none⟩) (ys.length+n) (grownCap w (ys.length+n) c e)) (w.drew.alloc (.cells ((flat f ys.length i.size).toArray++(Builtin.zeroCells z.cells n).toList.toArray++Builtin.zeroCells z.cells (grownCap w (ys.length+n) c e-(ys.length+n))) e)):=by
    have ha:(asIntOf (.int .i64 (n:Int))).run P w= .ok (.i64,(n:Int)) w:=rfl;simp[Builtin.append_,run_underlying hu,run_underlying hu2,sizeOf,typeInfo,zeroValue,hi,hz,asInt,ha,hw,hneg,h48,hs0,h63,h48',hroom,Question.forced,hfo,newRow,grownCap]
   generalize hW:w.drew.alloc (.cells ((flat f ys.length i.size).toArray++(Builtin.zeroCells z.cells n).toList.toArray++Builtin.zeroCells z.cells (grownCap w (ys.length+n) c e-(ys.length+n))) e)=W at hrun
   have hex:(execOp a.eval ⟨dst,.call ⟨.builtin .append, #[s,x], #[T,I]⟩,type,pos,after,guard⟩).run P w= .ok (.value (.slice (some ⟨w.heap.size,0,none⟩) (ys.length+n) (grownCap w (ys.length+n) c e))) W:=by
    simp[execOp,resolve,invoke,builtin,hcx,h2,hrun]
   rw[hex];have hge:=grownCap_ge w (ys.length+n) c e;have hrl:(List.replicate n (vU te)).length=n:=by simp
   have hat:∀(j:Nat) v,(List.replicate n (vU te))[j]? =some v->v=vU te:=λj v hv=>by
    rw[yB2]at hv;split at hv
    ·exact(yCs hv).symm
    ·cases hv
   have hzat:∀j,j<te.size->∃v,te.zero[j]? =some v/\z.cells.getD j undef=v:=λj hj=>by
    have:=kF z.cells j (by omega);refine⟨_,?_,rfl⟩;rw[<-e3];simpa using this
   have hz1':∀v∈z.cells.toList,v.oneCell'=true:=λv hv=>yAm.1 hz1 v OD
   have:=LW (X:=X) (kn:=kn) (e:=e) (gc:=grownCap w (ys.length+n) c e) HH (hn kn zU) (ys:=ys) (vs:=List.replicate n (vU te)) (sz:=te.size) (olds:=flat f ys.length i.size) (news:=(Builtin.zeroCells z.cells n).toList) (zc:=z.cells) f (λ_ j=>z.cells.getD j undef) hp
    (by rw[zW,e1]) (λi' j hi' hj=>by rw[e1];exact kT f hi' hj) (by rw[e1];exact hf2) (by rw[hrl,yDh,size_zeroCells,hzs]) (λi' j hi' hj=>by
     rw[hrl]at hi'
     have hlt:i'*te.size+j<n*te.size:=by
      have:=yA0 te.size (show i'+1<=n by omega);rw[yBk,yCa]at this;omega
     have hm':(i'*te.size+j) % te.size=j:=by rw[yEv,yE5];exact yC0 hj
     rw[Array.getElem?_toList];simp only[Builtin.zeroCells,yFt,yFl,hzs,hlt,yE2,Option.map_some,hm']
     congr 1
     have hj':j<z.cells.size:=by omega
     simp[yAy,hj']) (λu hu=>qD.zero hz1' n u hu) hS.wide (λi' y hy=>by rw[hat i' y hy];exact hzc) hS.one (λi' j _ hj=>by
     obtain⟨v,hv,hv'⟩:=hzat j hj;rw[hv']
     exact yAm.1 hz1 v (yBx hv)) (λi' y j v hy hv=>hS.rep.toF Z i' y j v hy hv) (λi' v j u hv hu=>by
     rw[hat i' v hv,hzc2]at hu;rw[yAa,yAo]at hu;obtain⟨q,hq,rfl⟩:=hu;have hj:j<te.size:=by rw[<-hzl];exact(yAu.1 hq).1
     obtain⟨v',hv1,hv2⟩:=hzat j hj;rw[hq]at hv1;cases hv1;rw[hv2]
     exact .s _) hz1' hzs (by rw[hrl];exact hge) (by rw[hrl];unfold cQ;omega)
   rw[hrl,hW]at this;exact this
theorem zFh (hP:uI P TT) {T e c:Nat} {s x:Operand} {ti te:TI} {ys vs:List AV} {xv:AV} (kn:Nat) (hs:yJ (zG st.tm) s= .slc c ys) (hx:yJ (zG st.tm) x=xv) (hT:TT[T]? =some ti) (hd:ti.d= .slice e) (he:TT[e]? =some te) (hvs:els (zC st.h) xv=some vs)
  (hb:Nat.ble te.bytes 65536=true) (hp:Nat.ble 1 te.size=true) (hzl:Nat.beq te.zero.length te.size=true) (hz1:te.zero.all (·.oneCell')=true)
  (hsz:∀y,vs[0]? =some y->y.cells.length=te.size) (hpos:1<=vs.length) (hmax:ys.length+vs.length<=1073741824) (hc:c<ys.length+vs.length) (hw0:∀(i:Nat) (y:AV),ys[i]? =some y->y.cells.length=te.size):
  wM P st (.call ⟨.builtin .append, #[s,x], #[T,T]⟩) (.ref kn 0 (ys++vs).length) [(kn,.arr te.size (ys++vs) false)] (PY xv) [kn]:=by
 refine⟨?_⟩;intro X tm h hg hr hn o a w β ho HH Ht;obtain⟨dst,op',type,pos,after,guard⟩:=o;dsimp only at ho;subst ho;have h1:=hH Ht hg (x:=s) kH hs;have h2:=hH Ht hg (x:=x) kH hx;have hp:=yAq hp;have hb:=yAq hb;have hzl:=yA2 hzl;obtain⟨i,z,hu,hi,hz,e1,e2,e3⟩:=wW hP hT hd he;obtain⟨ad,cap,hcv,_,hmx,hsrc⟩:=aZ HH h2 ((fN hr).trans hvs) hsz;obtain⟨b2,q,g,rfl,hS2⟩:=hsrc (λh0=>by rw[h0]at hpos;simp at hpos);obtain⟨hg1,hg2⟩:=hS2.flat hp;generalize hcx:a.eval s=cx at h1
 cases h1 with
 | fz _ _ hf=>
  cases hf with
  | slc _ _ b o sz f hL hcc hh=>
   have hzs:z.cells.size=te.size:=by rw[<-hzl,<-e3];simp
   have hS:Src w (xK X β) h β false ys te.size b o f:=⟨hw0,λi j hi hj=>by
    have:sz=te.size:=by
     have h4:=hL.wide i ys[i] VP;have h5:=hw0 i ys[i] VP;omega
    subst this;exact hL.cell i j hi hj,λi j hi hj=>by
    have:sz=te.size:=by
     have h4:=hL.wide i ys[i] VP;have h5:=hw0 i ys[i] VP;omega
    subst this;exact hL.one i j hi hj,.ofF hh⟩
   obtain⟨hf1,hf2⟩:=hS.flat hp
   have hbytes:(ys.length+vs.length)*i.bytes<=140737488355328:=by
    have:=yC9 hmax (show i.bytes<=65536 by omega);omega
   have hrun:=run_append_grow (P:=P) w T type e i z hu hi hz ⟨b,o,none⟩ ys.length c (flat f ys.length te.size) (by rw[zW,e1]) hf1 ⟨b2,q,none⟩ vs.length cap (flat g vs.length te.size) (by rw[zW,e1]) hg1 hc (by omega) (growslice_fits hc hbytes);generalize hW:w.drew.alloc (.cells ((flat f ys.length te.size).toArray++(flat g vs.length te.size).toArray++Builtin.zeroCells z.cells (grownCap w (ys.length+vs.length) c e-(ys.length+vs.length))) e)=W at hrun
   have hex:(execOp a.eval ⟨dst,.call ⟨.builtin .append, #[s,x], #[T,T]⟩,type,pos,after,guard⟩).run P w= .ok (.value (.slice (some ⟨w.heap.size,0,none⟩) (ys.length+vs.length) (grownCap w (ys.length+vs.length) c e))) W:=by
    simp[execOp,resolve,invoke,builtin,hcx,hcv,hrun]
   rw[hex];have hge:=grownCap_ge w (ys.length+vs.length) c e
   have:=LW (X:=X) (kn:=kn) (e:=e) (gc:=grownCap w (ys.length+vs.length) c e) HH (hn kn zU) (ys:=ys) (vs:=vs) (sz:=te.size) (olds:=flat f ys.length te.size) (news:=flat g vs.length te.size) (zc:=z.cells) f g hp
    (zW _ _ _) (λi' j hi' hj=>kT f hi' hj) hf2 (zW _ _ _) (λi' j hi' hj=>kT g hi' hj) hg2 hS.wide hS2.wide hS.one hS2.one (hS.rep.toF Z) (hS2.rep.toF Z) (λv hv=>yAm.1 hz1 v OD) hzs hge (by unfold cQ;omega)
   rw[hW]at this;exact this
theorem zFi (hP : uI P TT) {T e k len sz :Nat} {s x:Operand} {ti te:TI} {xs vs:List AV} {xv:AV} (hs:yJ (zG st.tm) s= .ref k 0 len) (hk:zC st.h k=some (.arr sz xs ⟨false,false⟩)) (hx:yJ (zG st.tm) x=xv) (hT:TT[T]? =some ti) (hd:ti.d= .slice e) (he:TT[e]? =some te) (hvs:els (zC st.h) xv=some vs)
    (hss:Nat.beq sz te.size=true) (hsz:∀y,vs[0]? =some y->y.cells.length=sz) (hpos:1<=vs.length) (hl:1<=len) (hroom:len+vs.length<=xs.length) (hmax:xs.length<=1073741824):
    wM P st (.call ⟨.builtin .append, #[s,x], #[T,T]⟩) (.ref k 0 (len+vs.length)) [(k,.arr sz (xs.take len++vs++xs.drop (len+vs.length)) ⟨false,false⟩)] (k::PY xv) []:=by
  refine⟨?_⟩;intro X tm h hg hr _ o a w β ho HH Ht;obtain⟨dst,op',type,pos,after,guard⟩:=o;dsimp only at ho;subst ho;have hk':=(hr k zU).trans hk;have h1:=hH Ht hg (x:=s) kH hs;have h2:=hH Ht hg (x:=x) kH hx;have hss:=yA2 hss;obtain⟨i,z,hu,hi,hz,e1,e2,e3⟩:=wW hP hT hd he;obtain⟨g1,g2,g3,g4,g5,f,g6,g7,g8⟩:=HH.ent k _ hk';obtain⟨ad,cap,hcv,_,hmx,hsrc⟩:=aZ HH h2 ((fN λk' hk=>hr k' (by simp[hk])).trans hvs) hsz;obtain⟨b2,q,fy,rfl,hS⟩:=hsrc (λh0=>by rw[h0]at hpos;simp at hpos);obtain⟨hf1,hf2⟩:=hS.flat g1;generalize hcx:a.eval s=cx at h1
  cases h1 with
  |fz _ _ hf=>cases hf
  |dref _ _ _ _ hd _=>rw[hk']at hd;cases hd
  |ref0 _ _ sz' xs' st' b hk'' hn=>omega
  | ref _ _ _ sz' xs' st' b n cp hk'' hbm hn hc hs'=>
    have h3:=hk'';rw[hk']at h3;cases h3
    obtain⟨rr,hbk,hnx,hr0⟩:∃rr,β k=(b,n)::rr/\n=xs.length/\∀b' n',(b',n')∈rr->n'=0:=by
      cases hbk:β k with
      |nil=>rw[hbk]at hbm;simp at hbm
      | cons q r=>
        obtain⟨b0,n0⟩:=q;obtain⟨e1,e2,_⟩:=g5 b0 n0 r hbk;have e2:=e2 Z;rw[hbk]at hbm;simp at hbm
        rcases hbm with⟨rfl,rfl⟩|hm
        · exact⟨r,rfl,e1,e2⟩
        · have:=e2 b n hm;omega
    subst hnx;obtain⟨cur,el,c1,c2,c3,c4⟩:=g8 b _ hbm
    have hcs:cur.size=cp*sz:=by
      have:wB w b=cur.size:=by unfold wB World.shape?;rw[c1];rfl
      rw[<-this,<-hs',yBu]
    have hcN:xs.length<=cp:=by
      have h5:xs.length*sz<=cp*sz:=by rw[<-hcs];exact c2
      exact yE1 h5 (by omega)
    have hfit:(len+vs.length)*sz<=cur.size:=yBm (yA0 _ hroom) c2
    have hrun:=ZX hP hT hd he w type b 0 len cp cur el c1 ⟨b2,q,none⟩ vs.length cap (flat fy vs.length sz) (by rw[zW,hss]) hf1 hf2 (by omega) (by
      rw[zW,<-hss,yBu,<-yBk];exact hfit)
    have hb0:0*sz=0:=yFd _;generalize hcur':(cur.toList.take (0+len*te.size)++flat fy vs.length sz++cur.toList.drop (0+len*te.size+(flat fy vs.length sz).length)).toArray=cur' at hrun
    have hex:(execOp a.eval ⟨dst,.call ⟨.builtin .append, #[s,x], #[T,T]⟩,type,pos,after,guard⟩).run P w= .ok (.value (.slice (some ⟨b,0,none⟩) (len+vs.length) cp)) (w.setRow b cur'):=by
      simp[execOp,resolve,invoke,builtin,hcx,hcv,hrun]
    rw[hex];rw[yBk]at hfit;rw[yBu,<-hss]at hcur'
    have hsz':cur'.size=cur.size:=by
      rw[<-hcur'];simp only[yDg,yAd,yA3,yBh,yDh,zW];omega
    have hone2:∀q,q<cur'.size->(cur'.getD q undef).oneCell'=true:=by
      rw[<-hcur'];refine qD.get (qD.arr λv hv=>?_);have hc4:=qD.of c4
      rcases yAw.1 hv with hv|hv
      · rcases yAw.1 hv with hv|hv
        · exact hc4 v (yCc hv)
        · exact hf2 v hv
      · exact hc4 v (yBs hv)
    let f':Nat->Nat->Value:=λi j=>if len<=i/\i<len+vs.length then fy (i-len) j else f i j
    have hlen:(xs.take len++vs++xs.drop (len+vs.length)).length=xs.length:=by
      simp only[yAd,yA3,yBh];omega
    have hat:∀(i:Nat) y,(xs.take len++vs++xs.drop (len+vs.length))[i]? =some y->(len<=i/\i<len+vs.length/\vs[i-len]? =some y)∨(¬(len<=i/\i<len+vs.length)/\xs[i]? =some y):=λi y hy=>by
      have ht:(xs.take len).length=len:=by simp;omega
      by_cases h5:i<len
      · rw[yA7,yBe (by omega),yBz,zZ8 h5]at hy;exact .inr ⟨by omega,hy⟩
      · by_cases h6:i<len+vs.length
        · rw[yA7,yA1 (by omega),ht,yBe (by omega)]at hy;exact .inl ⟨by omega,h6,hy⟩
        · rw[yA1 vA]at hy;simp only[yAd,ht]at hy;rw[yCf,show len+vs.length+(i-(len+vs.length))=i by omega]at hy;exact .inr ⟨by omega,hy⟩
    have hcell:∀i j,i<xs.length->j<sz->cur'[i*sz+j]? =some (f' i j):=λi j hi hj=>by
      rw[<-hcur'];simp only[f',yDa];by_cases h5:i<len
      · have hlt:i*sz+j<len*sz:=by
          have:=yA0 sz (show i+1<=len by omega);rw[yBk,yCa]at this;omega
        rw[zZ7 (by omega),yA7,yBe vA,yBz,zZ8 hlt];simpa using c3 i j hi hj
      · have ht:(List.take (len*sz) cur.toList).length=len*sz:=by simp;omega
        have hge:len*sz<=i*sz:=yA0 _ (by omega);by_cases h6:i<len+vs.length
        · have e4:i*sz+j-len*sz=(i-len)*sz+j:=by rw[yFs];omega
          have hlt:(i-len)*sz+j<vs.length*sz:=by
            have:=yA0 sz (show(i-len)+1<=vs.length by omega);rw[yBk,yCa]at this;omega
          rw[zZ8 (by omega),yA7,yA1 (by rw[ht];omega),ht,yBe (by rw[zW];omega),e4];exact kT fy (by omega) hj
        · have hge2:(len+vs.length)*sz<=i*sz:=yA0 _ (by omega);rw[yBk]at hge2;rw[zZ7 (by omega),yA1 (by simp only[yAd,ht,zW];omega),yCf];simp only[yAd,ht,zW];rw[show len*sz+vs.length*sz+(i*sz+j-(len*sz+vs.length*sz))=i*sz+j by omega];simpa using c3 i j hi hj
    have G:=yX.step (w':=w.setRow b cur') HH k (.arr sz (xs.take len++vs++xs.drop (len+vs.length)) ⟨false,false⟩) (β k) zU (λj hj hn=>setRow_other w b j cur' (λe=>hn xs.length zDo)) Z Z Z (λb n hm=> .inl ⟨n,hm⟩) (λb n _=>kG c1 hsz' b)
      (λe he=>by rw[hk']at he;cases he;exact .inr ⟨⟨_,_,rfl,by rw[hlen];exact yAb _⟩,λ_ n hm=>⟨n,yAb _,hm⟩⟩) λE=>⟨g1,by rw[hlen];exact g2,λ_=>by rw[zZ,hbk];simp,λi' x' hx'=>by
        rcases hat i' x' hx' with⟨_,_,h⟩|⟨_,h⟩
        · exact hS.wide _ x' h
        · exact g4 i' x' h,λb' n' r hb'=>by
        rw[zZ]at hb';rw[hlen]
        exact g5 b' n' r hb',f',λi' x' j u hx' hu=>by
        simp only[f']
        rcases hat i' x' hx' with⟨q1,q2,h⟩|⟨q1,h⟩
        · rw[zZ8 ⟨q1,q2⟩];exact⟨(hS.rep.toV _ x' j u h hu).evo E,λ_=>(hS.rep.toF Z _ x' j u h hu).evo E.size E.fz⟩
        · rw[zZ7 q1];exact⟨(g6.toV i' x' j u h hu).evo E,λ_=>(g6.toF Z i' x' j u h hu).evo E.size E.fz⟩,λi' j hi' hj=>by
        rw[hlen]at hi';simp only[f'];split
        · exact hS.one _ _ (by omega) hj
        · exact g7 i' j hi' hj,λb' n' hb'=>by
        rw[zZ,hbk]at hb';simp at hb';by_cases hbb:b'=b
        · subst hbb;refine⟨cur',el,setRow_heap w _ _ _ _ _ c1,?_,λi' j hi' hj=>?_,hone2⟩
          · rw[hsz']
            rcases hb' with⟨_,rfl⟩|hb'
            · exact c2
            · have:=hr0 b' n' hb';subst this;omega
          · rcases hb' with⟨_,rfl⟩|hb'
            · exact hcell i' j hi' hj
            · have:=hr0 b' n' hb';omega
        · have hb' : (b', n') ∈ rr := by rcases hb' with⟨h,_⟩|h;· exact absurd h hbb
                                         · exact h
          obtain⟨c',el',q1,q2,_,q4⟩:=g8 b' n' (by rw[hbk];simp[hb']);have:=hr0 b' n' hb';subst this
          exact⟨c',el',(setRow_other w b b' cur' hbb).trans q1,q2,λi' j hi' _=>by omega,q4⟩⟩
    refine⟨_,G,?_⟩;have hR:zQ w (xK X β) h β (.ref k 0 (len+vs.length)) (.slice (some ⟨b,0*sz,none⟩) (len+vs.length) cp):= .ref k 0 (len+vs.length) sz xs ⟨false,false⟩ b xs.length cp hk' hbm (by omega) (by omega) hs';rw[hb0]at hR;exact hR.evo G.evo
def zBb (hP:uI P TT) {T e:Nat} {x:Operand} {ti:TI} {k len sz:Nat} {xs:List AV} (hx:yJ (zG st.tm) x= .ref k 0 len) (hk:zC st.h k=some (.arr sz xs ⟨false,false⟩)) (hT:TT[T]? =some ti) (hd:ti.d= .slice e) (hl:1<=len):
  zYr P st (.call ⟨.builtin .cap, #[x], #[T]⟩) (λv d=>∃c:Int,v= .s (.int .i64 c)/\(xs.length:Int)<=c/\d=[]) [k] []:=by
 refine⟨λX tm h hg hr _ o a w β ho HH Ht=>?_⟩;obtain⟨dst,op',type,pos,after,guard⟩:=o;dsimp only at ho;subst ho;have h1:=hH Ht hg (x:=x) kH hx;have hk':=(hr k zU).trans hk;obtain⟨u,hu,hd'⟩:=xW (hP _ _ hT) w;obtain rfl:=vN (hd'.trans hd);generalize hcx:a.eval x=cx at h1
 cases h1 with
 |fz _ _ hf=>cases hf
 |dref _ _ _ _ hd _=>rw[hk']at hd;cases hd
 |ref0 _ _ sz' xs' st' b hk'' hn=>omega
 | ref _ _ _ sz' xs' st' b n cap hk'' hb hn hc hs'=>
  have h3:=hk'';rw[hk']at h3;cases h3
  have hrun:(execOp a.eval ⟨dst,.call ⟨.builtin .cap, #[x], #[T]⟩,type,pos,after,guard⟩).run P w= .ok (.value (.int .i64 cap)) w:=by
   simp[execOp,resolve,invoke,builtin,Builtin.cap_,hcx,hu,goInt]
  rw[hrun];obtain⟨g1,g2,g3,g4,g5,f,g6,g7,g8⟩:=HH.ent k _ hk'
  have hnx:n=xs.length:=by
   cases hbk:β k with
   |nil=>rw[hbk]at hb;simp at hb
   |cons q r=>
    obtain⟨b0,n0⟩:=q;obtain⟨e1,e2,_⟩:=g5 b0 n0 r hbk;have e2:=e2 Z;rw[hbk]at hb;simp at hb
    rcases hb with⟨rfl,rfl⟩|hm
    ·exact e1
    ·have:=e2 b n hm;omega
  subst hnx;obtain⟨c,el,c1,c2,c3,c4⟩:=g8 b _ hb
  have hcs:c.size=cap*sz:=by
   have:wB w b=c.size:=by unfold wB World.shape?;rw[c1];rfl
   rw[<-this,<-hs',yBu]
  have hcN:xs.length<=cap:=by
   have h5:xs.length*sz<=cap*sz:=by rw[<-hcs];exact c2
   exact yE1 h5 (by omega)
  exact⟨_,[],⟨cap,rfl,by omega,rfl⟩,β,by rw[kU];exact yX.refl HH,by rw[kU];exact .fz _ _ (.s _)⟩
end
section
variable {P:Program} {K0:List Nat} {F:Fr K0} {m:Nat} {ops:Array Oper} {rest:List Oper} {fs:List FP} {Q:List FP->St->Prop} {tm:List (Nat×AV)} {h:List (Nat×xN)}
theorem xV.restr2 {st:St} {a:Act} {w:World} (R:xV F m st a w) (K ts:List Nat) (hK:K0.all (K.contains ·)=true) (t:Nat) (v:AV) (hg:∀i,v≠ .gh i)
  (hv:∀X β,qV X (zC st.h) β w->zQ w (xK X β) (zC st.h) β (zG st.tm t) (a.eval (.tmp t))->zQ w (xK X λk=>if k∈K then β k else []) (zC (wY K (zC st.h))) (λk=>if k∈K then β k else []) v (a.eval (.tmp t))):
  xV F m ⟨(t,v)::(Av.restr K ts st).tm,(Av.restr K ts st).h⟩ a w:=by
 have R':=xV.restr R K ts hK;obtain⟨⟨X,β,hX,H,Ht,KK,hJ,hD⟩,nd,gs,hl⟩:=R;obtain⟨H',hvv⟩:=H.restr K;refine⟨⟨X,_,hX,H',λj=>?_,⟨λk e he=>?_,KK.size,KK.keep,λk b n hm=>?_,λk b n hm=>?_,KK.bs,KK.os,KK.tape,KK.output⟩,λi hi=>?_,hD⟩,R'.nd,gs,hl⟩
 ·show zQ _ _ _ _ (zG ((t,v)::(Av.restr K ts st).tm) j) _
  rw[yF];split
  ·rename_i hj;subst hj;exact hv X β H (Ht j)
  ·rw[fX];split
   ·exact hvv _ _ (Ht j)
   ·exact .fz _ _ (.bot _)
 ·have hk:k∈K:=by
   have:=yAm.1 hK k (F.hh k e he);simpa using this
  have h1:=KK.knd k e he;have hr:∀e',zC st.h k=some e'->zC (wY K (zC st.h)) k=some (qK K (zC st.h) e'):=λe' h2=>by rw[wE,zZ8 hk,h2];rfl
  cases e with
  |dead=>exact h1
  |box cs=>obtain⟨cs',h2⟩:=h1;exact⟨_,hr _ h2⟩
  |obj cs=>obtain⟨cs',h2⟩:=h1;exact⟨_,hr _ h2⟩
  |arr sz xs sl=>obtain⟨xs',sl',h2,h3⟩:=h1;obtain⟨xs2,fl2,h4,h5⟩:=fW K (zC st.h) sz xs' sl';exact⟨xs2,fl2,(hr _ h2).trans (by rw[h4]),by rw[h5];exact h3⟩
 ·(try dsimp only at hm)
  split at hm
  ·exact KK.own k b n hm
  ·simp at hm
 ·have hk:k∈K:=by
   have:=yAm.1 hK k (F.hK k b n hm);simpa using this
  (try dsimp only)
  rw[zZ8 hk];exact KK.pas k b n hm
 ·have h1:zG st.tm GS= .gh i:=by
   change zG ((t,v)::(Av.restr K ts st).tm) GS= .gh i at hi
   rw[yF]at hi;split at hi
   ·exact absurd hi (hg i)
   ·rw[fX]at hi;split at hi
    ·exact zDj hi
    ·cases hi
  refine F.Jst i _ X w w _ (hJ i h1) (yAb _) (λ_ _ _=>rfl) (λb hb=>?_) (λb hb=>?_) Z Z Z
  ·obtain⟨k,n,hm⟩:=hb
   (try dsimp only at hm)
   split at hm
   ·exact .inl ⟨k,n,hm⟩
   ·simp at hm
  ·obtain⟨k,n,hm⟩:=hb;exact H'.lt b (.inr ⟨k,n,hm⟩)
def zV7 (t k N:Nat) (K ts:List Nat) {sz:Nat} {xs:List AV} (hv:zG tm t= .ref k 0 xs.length) (hk:zC h k=some (.arr sz xs ⟨false,false⟩)) (hl:1<=xs.length) (hN:xs.length<=N) (hmx:N<=1073741824) (hK:K0.all (K.contains ·)=true) (hkK:K.contains k=false) {st':St} (he:restr K ts ⟨tm,h⟩=st')
  (h1:∀c,c<N->zX P F m ops false rest ⟨(t,.slc c xs)::st'.tm,st'.h⟩ fs Q) (h2:zX P F m ops false rest ⟨tm,(k,.arr sz (xs++List.replicate (N-xs.length) (fD sz)) ⟨false,false⟩)::h⟩ fs Q):zX P F m ops false rest ⟨tm,h⟩ fs Q:=⟨λa w R=>by
 subst he;have R0:=R;obtain⟨⟨X,β,hX,HH,Ht,KK,hJ,hD⟩,nd,gs,hl'⟩:=R0;have hRt:=Ht t;dsimp only at hRt;rw[hv]at hRt;obtain⟨b,cap,hcx,hroom⟩:=zFf HH hk hRt hl hN hmx;by_cases hc:cap<N
 ·refine(h1 cap hc).run a w (xV.restr2 R K ts hK t (.slc cap xs) (λi h=>by cases h) λX β H hR=>?_);dsimp only at hR;rw[hv]at hR;obtain⟨H',hvv⟩:=H.restr K;have h5:=hvv _ _ hR
  have e5:wD K (zC h) (.ref k 0 xs.length)= .sl false xs:=by
   simp only[wD,hkK,yB5,hk];rw[yA9,yAf]
  dsimp only at h5⊢;rw[e5,hcx]at h5;rw[hcx];have hne:xs≠[]:=λh0=>by rw[h0]at hl;simp at hl
  generalize hcs:(Value.slice (some ⟨b,0*sz,none⟩) xs.length cap)=cs at h5
  cases h5 with
  | fz _ _ hf=>
   cases hf with
   |nil a cap=>exact absurd Z hne
   |sl nn xs b o sz cap f hx hL hc hh=>
    cases hcs;exact .fz _ _ (.slc _ _ _ _ _ f hL hc hh)
 ·obtain⟨β',G⟩:=hroom (by omega);refine h2.run a w ?_;have nd':∀j,over [(k,xN.arr sz (xs++List.replicate (N-xs.length) (fD sz)) ⟨false,false⟩)] (zC h) j≠some .dead:=gM Z nd;have R':=XF.put hX HH Ht KK hJ hD gs hl' G nd' (v:= .bot) (c:=undef) (.fz _ _ (.bot _)) none (λd hd=>by cases hd);have e1:(λj=>if(none:Option Nat)=some j then AV.bot else zG tm j)=zG tm:=funext λj=>by simp
  show XF F m (zG tm) (zC ((k,xN.arr sz (xs++List.replicate (N-xs.length) (fD sz)) ⟨false,false⟩)::h)) a w
  rw[show zC ((k,xN.arr sz (xs++List.replicate (N-xs.length) (fD sz)) ⟨false,false⟩)::h)=over [(k,xN.arr sz (xs++List.replicate (N-xs.length) (fD sz)) ⟨false,false⟩)] (zC h)from wQ [(k,xN.arr sz (xs++List.replicate (N-xs.length) (fD sz)) ⟨false,false⟩)] h,<-e1]
  exact R'⟩
def zBc (t:Nat) {c:Nat} {xs:List AV} (hv:zG tm t= .slc c xs) (hx:1<=xs.length) (hk:zX P F m ops false rest ⟨(t,.sl true xs)::tm,h⟩ fs Q):zX P F m ops false rest ⟨tm,h⟩ fs Q:=⟨λa w R=>hk.run a w (by
 obtain⟨⟨X,β,hX,HH,Ht,KK,hJ,hD⟩,nd,gs,hl⟩:=R;refine⟨⟨X,β,hX,HH,λj=>?_,KK,λi hi=>?_,hD⟩,nd,gs,hl⟩
 ·rw[yF];split
  ·rename_i hj;subst hj;have:=Ht j;dsimp only at this;rw[hv]at this;generalize a.eval (.tmp j)=cx at this
   cases this with
   |fz _ _ hf=>
    cases hf with
    |slc _ _ b o sz f hL hc hh=>exact .fz _ _ (.sl true xs b o sz c f (λh0=>by rw[h0]at hx;simp at hx) hL hc hh)
  ·exact Ht j
 ·rw[yF]at hi;split at hi
  ·cases hi
  ·exact hJ i hi)⟩
end
section
variable {P:Program} {K0:List Nat} {F:Fr K0} {m:Nat} {ops:Array Oper} {rest:List Oper} {fs:List FP} {tm:List (Nat×AV)} {h:List (Nat×xN)}
def zMl {st:St} {K ts:List Nat} {k:List (Nat×AV)->List (Nat×xN)->Prop} (hk:fC K (zC st.h) st.tm ts λT=>jV K (zC st.h) K λU=>k T U):k (restr K ts st).tm (restr K ts st).h:=by
 rw[gA,qC]at hk;exact hk
def kJ {Q:List FP->St->Prop} (K ts:List Nat) (hK:K0.all (K.contains ·)=true) (h1:fC K (zC h) tm ts λT=>jV K (zC h) K λU=>zX P F m ops false rest ⟨T,U⟩ fs Q):zX P F m ops false rest ⟨tm,h⟩ fs Q:=
 ⟨λa w R=>(zMl (st:=⟨tm,h⟩) (k:=λT U=>zX P F m ops false rest ⟨T,U⟩ fs Q) h1).run a w (xV.restr R K ts hK)⟩
def qH {st:St} {c:Code} {Q:Exit->St->Prop} (K ts:List Nat) (hK:K0.all (K.contains ·)=true) (h1:fC K (zC st.h) st.tm ts λT=>jV K (zC st.h) K λU=>vK P F m c ⟨T,U⟩ Q):vK P F m c st Q:=
 uZ K ts hK Z (zMl (k:=λT U=>vK P F m c ⟨T,U⟩ Q) h1)
structure zQu (p:Prop):Prop where
 h:p
def RW (P:Program) (F:Fr K0) (m:Nat) (c:Code) (Q:Exit->St->Prop) (K ts:List Nat):Nat->St->Prop
 |0,_=>False
 |n+1,st=>vK P F m c (restr K ts st) (cS Q λs=>zQu (RW P F m c Q K ts n s))
def uK {st:St} {c:Code} {Q:Exit->St->Prop} (n:Nat) (K ts:List Nat) (hK:K0.all (K.contains ·)=true) (h1:zQu (RW P F m c Q K ts n st)):vK P F m (.loop c) st Q:=⟨λa w R=>by
 refine wpIn_loop_rounds n ?_
 induction n generalizing st a w with
 |zero=>exact h1.h.elim
 |succ n ih=>
  refine Code.wpIn_mono (λe a' w' ⟨s,q1,q2⟩=>?_) (h1.h.run a w (xV.restr R K ts hK))
  cases e with
  |normal=>exact ih q1 a' w' q2
  |_=>exact⟨s,q1,q2⟩⟩
def yU {st st0:St} {c:Code} {Q:Exit->St->Prop} {n:Nat} {K ts:List Nat} (he:restr K ts st=st0) (h1:vK P F m c st0 (cS Q λs=>zQu (RW P F m c Q K ts n s))):zQu (RW P F m c Q K ts (n+1) st):=by
 subst he;exact⟨h1⟩
def zBd {α:Type} {cs vs:List α} (hl:vs.length=cs.length):VJ cs 0 vs=vs:=by
 apply yBi;intro j;rw[ZA _ _ _ _ (by omega)];by_cases hj:j<vs.length
 ·rw[zZ8 ⟨yAp _,by omega⟩];rfl
 ·rw[zZ7 (λh=>hj (by omega)),yAz (by omega),yAz (by omega)]
def zV8 {TT:List TI} {dr:Bool} {Q:List FP->St->Prop} {ty:Nat} {pos:String} {after:Array Edge} (hP:uI P TT) {T k:Nat} {p x:Operand} {ti:TI} {cs vs:List AV} (hp:yJ (zG tm) p= .ptr k 0 0) (hk0:zC h k=some (.box cs)) (hx:yJ (zG tm) x= .agg vs) (hT:TT[T]? =some ti) (hs:Nat.beq vs.length ti.size=true) (hl:Nat.beq vs.length cs.length=true)
  (hk:zX P F m ops dr rest ⟨tm,(k,.box vs)::h⟩ (⟨true,[k],[k]⟩::fs) Q):zX P F m ops dr (⟨none,.store T p x,ty,pos,after,none⟩::rest) ⟨tm,h⟩ fs Q:=by
 have e1:=yA2 hs;have e2:=yA2 hl;refine WR (v:= .bot) (k:=k) (e:= .box vs) (r:=[k]) (nw:=[]) hP ?_ Z Z hk;simp only[exec,hp,hT,hk0,hx,frc,AV.ok,AV.cells,jM,zBd e2]
 rw[show(true&&(Nat.beq vs.length ti.size&&Nat.ble (0+ti.size) cs.length))=true by
  rw[hs,yDr (by omega)];rfl]
 rfl
end
end Av
end Go.Proofs.YteajjdidebfcjaaGreat
