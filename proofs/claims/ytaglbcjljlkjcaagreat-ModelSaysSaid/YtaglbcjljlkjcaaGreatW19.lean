/- Part 19. -/
import Derived.Test.YtaglbcjljlkjcaaGreatW18
namespace Go.Proofs.YtaglbcjljlkjcaaGreat.Av
open Tryz
set_option linter.all false
set_option maxRecDepth 4000
set_option maxHeartbeats 8000000
open List renaming length->ln,take->pb,drop->pi,getD->py
open Inhabited renaming default->dd
variable {c:Cf}{xs:List AV}{T e k sz:Nat}{x:Operand}{te ti:TI}{α:Type}{d:wC}
theorem jg (d:Dk):∀i,∀j∈(LO d i).1,∃e,j=NY e
 |0=>λj hj=>by simp[LO]at hj
 |i+1=>λj hj=>by
  simp only[LO,zBc,zBl]at hj
  rcases hj with hj|hj
  .exact jg d i j hj
  .exact⟨_,hj⟩
def Bp (d:Dk) (r:Int):(FJ d r).js=(LO (ad (Xy d)) (d6 d)).1:=by rw[FJ,ai]
def fg (d:Dk) (r:Int):(FJ d r).ags=(SE (ad (ai d).2) r (R3 d)).1:=by rw[FJ,Q3]
def J7 (d:Dk) (u:Int):1<=(FJ d u).js.length/\(FJ d u).js.length<=2/\1<=(FJ d u).ags.length/\(FJ d u).ags.length<=3:=by
 have h1:=yQ (Xy d) 2 zB;have h2:=yQ (ai d).2 3 zB;rw[Bp,fg,OD,cU];unfold d6 R3;omega
def I7 (d:Dk) (n r:Int) (u:0<=r/\r<=63):Ty (Xn d n r):=by
 have z:=yQ d (3-1+1) zB;have w2:=yQ (ad d) (3-1+1) zB;have A:=yQ (ad (ad d)) 3 zB;have B:=yQ (ad (ad (ad d))) 3 zB;have C:=yQ (ad (ad (ad (ad d)))) (3-1+1) zB;have E:=yQ (ad (ad (ad (ad (ad d))))) (2-1+1) zB;have G:=yQ (ad (ad (ad (ad (ad (ad d)))))) (3-1+1) zB;have I:=yQ (Ir d) 5 zB;unfold Xn;refine⟨by dsimp only;rw[gZ];rfl,rfl,λx hx=>?_,u,by dsimp only;omega,by dsimp only;omega,by dsimp only;omega,by dsimp only;omega,by dsimp only;omega⟩;simp only[zCf,List.not_mem_nil,or_false]at hx
 rcases hx with rfl|rfl|rfl|rfl<;>omega
structure AgD (a:Ag) (n:Int):Prop where
 v:Ty a
 s:a.sec=cL (1000+n)
 q:1<=a.req/\a.req<=3
 b:1<=a.rate/\a.burst<=7
def H7 (d:Dk) (n r:Int) (u:0<=r/\r<=63):AgD (Xn d n r) n:=by
 have z:=yQ (ad (ad (ad (ad d)))) (3-1+1) zB;have A:=yQ (ad (ad (ad (ad (ad (ad d)))))) (3-1+1) zB;have B:=yQ (Ir d) 5 zB;exact⟨I7 d n r u,rfl,by unfold Xn;dsimp only;omega,by unfold Xn;dsimp only;omega⟩
theorem Ap (d:Dk) (r:Int) (u:0<=r/\r<=63):∀i k,k<i->AgD ((SE d r i).1.getD k dd) k/\((SE d r i).1.getD k dd).rights=r
 |0,k,h=>by omega
 | i+1,k,h=>by
  rw[yp,zA0];by_cases hk:k<i
  .rw[zBp (by rw[cU];exact hk),<-zA0];exact Ap d r u i k hk
  .obtain rfl:k=i:=by omega
   rw[zBq (by rw[cU];omega),cU,zC7];exact⟨H7 _ _ _ u,rfl⟩
def O4 (d:Dk) (r:Int) (u:0<=r/\r<=63) (k:Int) (z:0<=k) (h1:k<((FJ d r).ags.length:Int)):AgD ((FJ d r).ags.getD k.toNat dd) k/\((FJ d r).ags.getD k.toNat dd).rights=r:=by
 rw[fg]at h1⊢;rw[cU]at h1;have:=Ap (ad (ai d).2) r u (R3 d) k.toNat zB;rw[show((k.toNat:Nat):Int)=k by omega]at this;exact this
def N4 {a:Ag} (hv:Ty a) (n:Int) (C:0<=n/\n<4):qB c (QW n a a.ses.toNat):=by
 have G:=hv.e;have I:=hv.q;have hb:=hv.b;have L:=hv.t;have E:=L7 n a hv;have e1:(QY n a).ag=a:=rfl;have A:(QY n a).num=n:=rfl;have e3:(QY n a).tk.length=8:=by simp[QY,Bf]
 have B:(QY n a).vh=[]:=rfl;have u:(QY n a).bk=⟨a.burst,a.rate,a.burst⟩:=rfl;unfold QW;generalize hN:a.ses.toNat=N;generalize QY n a=r at *;constructor
 .exact E
 .exact⟨λr z=>by simp at z,List.Pairwise.nil,zA9 _⟩
 .dsimp only;rw[e1];simp only[zBx];omega
 .intro r z;simp at z
 .dsimp only;rw[e1];exact hv
 .dsimp only;rw[A];exact C
 .exact e3
 .dsimp only;rw[e1,u]
 .dsimp only;rw[e1,u]
 .dsimp only;rw[e1,u];exact⟨hb.1,zC1 _⟩
 .dsimp only;rw[e1,zCq];omega
 .simp
 .intro x hx;simp at hx
 .dsimp only;rw[B];simp
def G7 (n:Int) (a:Ag) (hv:Ty a):zN 80 [iA n,uI a] [] (zM (QW n a a.ses.toNat)) []/\zN 85 [iA n,uI a] [] (zM (QW n a a.ses.toNat)) []:=by
 have u:=hv.e;have h1:=hv.s;have h2:=hv.l;exact⟨Z3 n a a.ses.toNat zB zB zB zB,iv n a a.ses.toNat zB zB zB zB⟩
def F7 {l:List Tk} (h:JU l) (f3:Int):JU (ZZ l f3):=by
 refine⟨by unfold ZZ;rw[zAr,zB9];exact h.n,λt u=>?_⟩;unfold ZZ at u;rw[zCa]at u;obtain⟨j,hj,rfl⟩:=u;rw[zBi]at hj;unfold oa;split
 .exact zA9 _
 .rw[zA0,zBk hj,zDm];exact h.s _ (zEl _)
def YH (d:wC) (f3:Int):wC:=⟨o4 d.rg f3,KD d.rq f3,d.dr,d.au⟩
def E7 (h:qB c d) (f3:Int):qB c (YH d f3)/\(YH d f3).rg.ag=d.rg.ag/\(YH d f3).rg.num=d.rg.num:=by
 refine⟨?_,rfl,rfl⟩;have hl:=h.bl;have u:=h.br;have z:=h.bb;have E:=h.a.t;have B:=zCh (λx:Rq=>decide (f3<=x.til)) d.rq;have C:=h.q;refine⟨⟨F7 h.b.tk f3,h.b.s,h.b.l,h.b.v⟩,h.v.filter _,?_,λr u g A=>h.lg r (zEg.1 u).1 g A,h.a,h.n,?_,h.br,h.bb,?_,h.au,h.dn,h.dr,h.vh⟩
 .show((d.rq.filter _).length:Int)<=d.rg.ag.req
  omega
 .show(ZZ d.rg.tk f3).length=8
  unfold ZZ;rw[zAr,zB9,h.t8]
 .show 0<=min (d.rg.bk.level+d.rg.bk.rate) d.rg.bk.burst/\min (d.rg.bk.level+d.rg.bk.rate) d.rg.bk.burst<=d.rg.ag.burst
  omega
def xq (h:qB c d) (f3:Int):zN 114 [zM d,iA f3] [] (zM (YH d f3)) []:=by
 have A:=MR d h.bd;have hl:=h.bl;have C:=h.br;have z:=h.bb;have E:=h.a.t;have hb:=h.a.b;have u:=Ov d.rg f3 h.b zB;have B:=yn d.rq f3 h.v;unfold YH;generalize o4 d.rg f3=r,KD d.rq f3=q at *;unfold zM xD at *;unfold uQ at u;refine eM call114 λF hF=>?_
 exact nm (qM A u B)
def wq (h:qB c d) (f3:Int):zN 55 [zM d,iA f3] [] (zM (YH d f3)) []:=by
 have A:=kN d h.bd;have hl:=h.bl;have C:=h.br;have z:=h.bb;have E:=h.a.t;have hb:=h.a.b;have u:=mq d.rg f3 h.b h.t8 zB;have B:=Hh d.rq f3 h.v;unfold YH;generalize o4 d.rg f3=r,KD d.rq f3=q at *;unfold zM xD at *;unfold uQ at u;refine eM call55 λF hF=>?_
 exact nm (qM A u B)
section
variable {P:Program} {K0:List Nat} {F:Fr K0} {m:Nat}
theorem WK.consume {st:St} {a:Act} {w:World} {X:Nat->Prop} {β:uM} (hX:F5 F X) (H:jL X (zD st.h) β w) (Ht:∀t,yI w (xT X β) (zD st.h) β (zK st.tm t) (a.eval (.tmp t))) (z:fB F (zD st.h) β w) (hJ:∀i,zK st.tm GS= .gh i->F.J i (Bg β) X w) (hD:Yz X F a.defers w)
  (nd:∀k,zD st.h k≠some .dead) (gs:m<=GS) (hl:a.tmps.size=m) (k:Nat) (K ts:List Nat) (hK:K0.all (K.contains ·)=true) (av:K.contains k=false) {w':World} {β':uM} (G:xU X w (zD st.h) β w' (over [(k,.dead)] (zD st.h)) β') {v:AV} {c:Value} (hc:xM w' (xT X β') v c)
  (hg:∀i,v≠ .gh i) (t:Nat) (ht:t<m) {st':St} (he:restr K ts ⟨st.tm,(k,.dead)::st.h⟩=st'):wK F m ⟨(t,v)::st'.tm,st'.h⟩ (a.put (some t) c) w':=by
 subst he;have eh:zD ((k,xW.dead)::st.h)=over [(k,.dead)] (zD st.h):=vD [(k,xW.dead)] st.h;rw[<-eh]at G;obtain⟨H',ag⟩:=G.hok.restr K
 have C:∀j,j∈K->j≠k:=λj hj e=>by
  grind
 have E:∀j,j≠k->zD ((k,xW.dead)::st.h) j=zD st.h j:=λj hj=>by rw[eh];exact aH _ _ hj
 have R:∀j,j∈K->zD ((k,xW.dead)::st.h) j≠some .dead:=λj hj=>by rw[E j (C j hj)];exact nd j
 have O:∀j,j∈K0->j∈K:=λj hj=>by
  grind
 have S:∀b,xT X (λj=>if j∈K then β' j else []) b->xT X β' b:=λb hd=>by
  rcases hd with hx|⟨j,n,u⟩
  .exact .inl hx
  ·(try dsimp only at u)
   split at u
   .exact .inr ⟨j,n,u⟩
   .simp at u
 have ac:GS≠t:=by omega
 refine⟨⟨X,_,hX,H',λj=>?_,⟨λj e A=>?_,zBw z.size G.size,λb hb hi hn=>?_,λj b n u=>?_,λj b n u=>?_,λj b n u=>?_,G.os.trans z.os,G.tape.trans z.tape,G.output.trans z.output⟩,λi hi=>?_,hD.goes H G⟩,λj=>?_,gs,by simp[Act.put,hl]⟩
 .show yI _ _ _ _ (zK ((t,v)::(restr K ts ⟨st.tm,(k,.dead)::st.h⟩).tm) j) _
  rw[xF];split
  .rename_i hj;subst hj;have e:(a.put (some j) c).eval (.tmp j)=c:=by simp[Act.put,Act.eval,hl,ht]
   rw[e];exact .fz _ _ (hc.evo (zAw _) λb _ hd=>⟨rfl,λh=>hd (S b h)⟩)
  .rename_i hj;rw[Act.eval_put (λd hd e=>hj (by injection hd with hd;injection e with e;rw[hd,e])),gE];split
   .exact ag _ _ ((Ht j).evo G.evo)
   .exact .fz _ _ (.bot _)
 .have hj:=O j (F.hh j e A);have h1:=z.knd j e A;have hr:∀W,zD ((k,xW.dead)::st.h) j=some W->zD (wU K (zD ((k,xW.dead)::st.h))) j=some (kC K (zD ((k,xW.dead)::st.h)) W):=λW h2=>by rw[wG,f5 hj,h2];rfl
  cases e with
  |dead=>exact h1
  |box cs=>obtain⟨V,h2⟩:=h1;exact⟨_,hr _ ((E j (C j hj)).trans h2)⟩
  |obj cs=>obtain⟨V,h2⟩:=h1;exact⟨_,hr _ ((E j (C j hj)).trans h2)⟩
  |arr sz xs sl=>obtain⟨au,ar,h2,I⟩:=h1;obtain⟨U,L,M,Y⟩:=gO K (zD ((k,xW.dead)::st.h)) sz au ar;exact⟨U,L,(hr _ ((E j (C j hj)).trans h2)).trans (by rw[M]),by rw[Y];exact I⟩
 .rw[G.keep b (zBy hb z.size),z.keep b hb hi hn];intro j n u
  rcases z.own j b n u with⟨k',B,h1⟩|h1
  all_goals grind
 ·(try dsimp only at u)
  split at u
  .rcases G.own j b n u with⟨k',B,h1⟩|h1
   .exact z.own k' b B h1
   .exact .inr (zBw z.size h1)
  .simp at u
 .have hj:=O j (F.hK j b n u);obtain⟨B,h1,h2⟩:=z.pas j b n u
  (try dsimp only)
  rw[f5 hj]
  cases A:zD st.h j with
  |none=>rw[H.off j A]at h2;simp at h2
  | some e=>
   have I:=(G.key j e A).resolve_left (R j hj)
   cases e with
   |dead=>exact I.elim
   |box cs=>exact⟨B,h1,I.2 b B h2⟩
   |obj cs=>exact⟨B,h1,I.2 b B h2⟩
   |arr sz xs fl=>
    obtain⟨ap,M,Y⟩:=I.2 b B h2;exact⟨ap,zBw h1 M,Y⟩
 .obtain⟨B,_,h2⟩:=z.pas j b n u;rw[G.bs j b B h2,z.bs j b n u]
 .change zK ((t,v)::(restr K ts ⟨st.tm,(k,.dead)::st.h⟩).tm) GS= .gh i at hi
  rw[xF,Os ac,gE]at hi;split at hi
  .have h1:zK st.tm GS= .gh i:=HB hi;refine F.Jst i _ X w' w' _ (F.go G (hJ i h1)) (zAw _) (λ_ _ _=>rfl) (λb hb=>?_) (λb hb=>?_) Z Z Z
   .obtain⟨j,n,u⟩:=hb
    (try dsimp only at u)
    split at u
    .exact .inl ⟨j,n,u⟩
    .simp at u
   .obtain⟨j,n,u⟩:=hb;exact H'.lt b (.inr ⟨j,n,u⟩)
  .cases hi
 .show zD (wU K (zD ((k,xW.dead)::st.h))) j≠some .dead
  rw[wG];split
  .rename_i hj;intro h;rw[zBa]at h;obtain⟨e,he,h2⟩:=h
   cases e with
   |dead=>exact R j hj he
   |box cs=>cases h2
   |obj cs=>cases h2
   |arr a b c=>obtain⟨U,L,M,_⟩:=gO K (zD ((k,xW.dead)::st.h)) a b c;rw[M]at h2;cases h2
  .intro h;cases h
variable {ops:Array Oper} {rest:List Oper} {Q:List FP->St->Prop} {tm:List (Nat×AV)} {h:List (Nat×xW)} {fs fs':List FP} {TT:List TI} {ty:Nat} {pos:String} {after:Array Edge} {t:Nat}
theorem M4 (K ts:List Nat) (hP:uZ P TT) {k:Nat} {s:Operand} {vs:List AV} {fl:Fl} {xv:AV} (hs:yX (zK tm) s= .ref k 0 0) (hk:zD h k=some (.arr sz xs fl)) (hx:yX (zK tm) x=xv) (hT:TT[T]? =some ti) (hd:ti.d= .slice e) (he:TT[e]? =some te) (bs:CR (zD h) xv=some vs)
 (Y:Nat.beq sz te.size=true) (br:∀y,vs[0]? =some y->ln y.cells=sz) (hb:Nat.ble te.bytes 65536=true) (hz:Nat.beq (ln te.zero) te.size=true) (E:1<=ln vs) (bz:ln vs<=1073741824) (M:Nat.blt t m=true) (hK:K0.all (K.contains ·)=true) (ba:K.contains k=false)
 {st':St} (bl:restr K ts ⟨tm,(k,.dead)::h⟩=st') (hr:yN P F m ops false rest ⟨(t,.sl false vs)::st'.tm,st'.h⟩ fs Q):yN P F m ops false (⟨some t,.call ⟨.builtin .append, #[s,x], #[T,T]⟩,ty,pos,after,none⟩::rest) ⟨tm,h⟩ fs Q:=⟨λa w R=>wpListIn_plain Z λKC a4=>by
 obtain⟨⟨X,β,hX,I,Ht,KK,hJ,hD⟩,nd,gs,hl⟩:=R;dsimp only at I Ht KK hJ nd;have h1:=fC (op:= .call ⟨.builtin .append, #[s,x], #[T,T]⟩) (st:=⟨tm,h⟩) Ht (λ_ _=>rfl) (x:=s) kQ hs;have h2:=fC (op:= .call ⟨.builtin .append, #[s,x], #[T,T]⟩) (st:=⟨tm,h⟩) Ht (λ_ _=>rfl) (x:=x) kQ hx;have Y:=zBo Y;have hb:=zA8 hb;have hz:=zBo hz;have M:=zA8 M;obtain⟨i,z,hu,hi,a2,e1,e2,e3⟩:=wY hP hT hd he;obtain⟨g1,g2,g3,g4,g5,f,g6,g7,g8⟩:=I.ent k _ hk;obtain⟨ad,cap,av,_,b3,az⟩:=cQ I h2 bs br;obtain⟨b2,q,L,rfl,hS⟩:=az (λh0=>by rw[h0]at E;simp at E);obtain⟨ap,a8⟩:=hS.flat g1
 have au:∀{c w'} (_:(Builtin.append_ #[T,T] ty #[a.eval s,a.eval x]).run P w= .ok c w') {β':uM} (_:xU X w (zD h) β w' (over [(k,.dead)] (zD h)) β') (_:xM w' (xT X β') (.sl false vs) c),Oper.wpIn (DO F.ro) 0 P ⟨some t,.call ⟨.builtin .append, #[s,x], #[T,T]⟩,ty,pos,after,none⟩ a w KC (λe a' w'=>e= .normal/\∃st',Q [] st'/\wK F m st' a' w'):=by
  intro c w' u β' G hc;refine aG.wp (N:=λc1 w1=>c1=c/\w1=w') ?_ ?_
  .have:(execOp a.eval ⟨some t,.call ⟨.builtin .append, #[s,x], #[T,T]⟩,ty,pos,after,none⟩).run P w= .ok (.value c) w':=by simp[execOp,resolve,invoke,builtin,u]
   rw[this];exact⟨rfl,rfl⟩
  .rintro _ _ ⟨rfl,rfl⟩;exact a4 _ _ (hr.run _ _ (WK.consume (st:=⟨tm,h⟩) hX I Ht KK hJ hD nd gs hl k K ts hK ba G hc (λi hh=>by cases hh) t M bl))
 have a3:∀{w'},jL X (zD h) β w'->xU X w' (zD h) β w' (over [(k,.dead)] (zD h)) (cY β k []):=λH=>xU.step H k .dead [] (zAw _) (λ_ _ _=>rfl) Z Z Z (λb n M=>by simp at M) (λ_ _ _=>rfl) (λe _=> .inl Z) λ_=>yL _ _ _
 have ag:∀bd A,a.eval s= .slice bd 0 A->A<ln vs->(bd=none->A=0)->Oper.wpIn (DO F.ro) 0 P ⟨some t,.call ⟨.builtin .append, #[s,x], #[T,T]⟩,ty,pos,after,none⟩ a w KC (λe a' w'=>e= .normal/\∃st',Q [] st'/\wK F m st' a' w'):=by
  intro bd A U b1 a5
  have ac:ln vs*i.bytes<=140737488355328:=by
   have:=zDi (show (ln vs)<=1073741824 by omega) (show i.bytes<=65536 by omega);omega
  have u:(Builtin.append_ #[T,T] ty #[.slice bd 0 A,.slice (some ⟨b2,q,none⟩) (ln vs) cap]).run P w= .ok (.slice (some ⟨w.heap.size,0,none⟩) (ln vs) (grownCap w (ln vs) A e)) (w.drew.alloc (.cells ((flat L (ln vs) sz).toArray++Builtin.zeroCells z.cells (grownCap w (ln vs) A e-vs.length)) e)):=by
   cases bd with
   |none=>
    obtain rfl:=a5 Z;exact run_append_nil (P:=P) w T ty e i z hu hi a2 ⟨b2,q,none⟩ (ln vs) cap (flat L (ln vs) sz) (by rw[zZ,Y,e1]) ap zB zB zB
   |some b0=>
    have:=run_append_grow (P:=P) w T ty e i z hu hi a2 b0 0 A [] zV (λj v h=>by simp at h) ⟨b2,q,none⟩ (ln vs) cap (flat L (ln vs) sz) (by rw[zZ,Y,e1]) ap zB zB (growslice_fits zB (by simpa using ac));simpa using this
  have HD:=I.drew (w.drawn+1);have b4:z.cells.size=ln te.zero:=by rw[<-e3];simp
  have a9:=grownCap_ge w (ln vs) A e;have G:=xU.newFz HD ((flat L (ln vs) sz).toArray++Builtin.zeroCells z.cells (grownCap w (ln vs) A e-vs.length)) e
  have hv:=xM.newArr HD ((flat L (ln vs) sz).toArray++Builtin.zeroCells z.cells (grownCap w (ln vs) A e-vs.length)) e sz vs (grownCap w (ln vs) A e) L g1 (by unfold dY;omega) a9 hS.wide
   (λi j hi hj=>by
    rw[zCu (by simp[zZ];have:=zBe sz (show i+1<=ln vs by omega);rw[zB2,zC2]at this;omega)]
    simpa using kR L hi hj) hS.one (λi y j v hy hv=>xM.evo (w:=w) (w':={w with drawn:=w.drawn+1}) (zAw _) (λ_ _ hd=>⟨rfl,hd⟩) (hS.rep.toF Z i y j v hy hv))
  have G2:=xU.trans I (xU.drew I (w.drawn+1)) G;have G3:=a3 G2.hok;exact au (by rw[U,av];exact u) (xU.trans I G2 G3) (hv.wkF.evo G3.evo.size G3.evo.fz)
 generalize U:a.eval s=cx at h1
 cases h1 with
 |fz _ _ hf=>cases hf
 |dref _ _ _ _ a7 _=>exact absurd a7 (nd k)
 |ref0 _ _ bu bx st' bd V hn=>exact ag bd 0 U zB (λ_=>rfl)
 | ref _ _ _ bu bx st' b n A V S hn hc bk=>
  rw[hk]at V;cases V;by_cases W:ln vs<=A
  case neg=>exact ag _ A U zB (λh=>by cases h)
  obtain⟨B,el,c1,c2,c3,c4⟩:=g8 b n S
  have a6:B.size=A*sz:=by
   have:wO w b=B.size:=by unfold wO World.shape?;rw[c1];rfl
   rw[<-this,<-bk,zB7]
  have ax:ln vs*sz<=B.size:=by rw[a6];exact zBe _ W
  have u:=bB hP hT hd he w ty b 0 0 A B el c1 ⟨b2,q,none⟩ (ln vs) cap (flat L (ln vs) sz) (by rw[zZ,Y]) ap a8 zB (by
   rw[zZ,zEa];simpa using ax)
  generalize C:(B.toList.take (0+0*te.size)++flat L (ln vs) sz++B.toList.drop (0+0*te.size+(flat L (ln vs) sz).length)).toArray=O at u;rw[zEa,zB7,zD7,zD1,zB7]at C
  have a1:O.size=B.size:=by
   rw[<-C];simp only[zDq,zAv,zBr,zDs,zZ];omega
  have G:=xU.step (w':=w.setRow b O) I k .dead [] zV (λj hj hn=>setRow_other w b j O (λe=>hn n (by rw[e];exact S))) Z Z Z (λb n M=>by simp at M) (λb n _=>kJ c1 a1 b) (λe _=> .inl Z) λ_=>yL _ _ _
  have bb:¬xT X (cY β k []) b:=λhd=>by
   rcases hd with hx|⟨j,n',M⟩
   .exact I.free k b n S hx
   .by_cases ar:j=k
    .subst ar;rw[yL]at M;simp at M
    .rw[qT _ _ ar]at M;exact ar (I.disj _ _ _ _ _ M S)
  refine au (by rw[U,av,zEa];exact u) G ?_;rw[zB7];have bf:vs≠[]:=λh0=>by rw[h0]at E;simp at E
  refine .sl false vs b 0 sz A L bf ⟨zBy (I.lt b (.inr ⟨k,n,S⟩)) G.size,bb,g1,by unfold dY;omega,hS.wide,λi j hi hj=>?_,hS.one⟩ W λi y j v hy hv=>(hS.rep.toF Z i y j v hy hv).evo G.evo.size G.evo.fz
  rw[uP (setRow_heap w _ _ _ _ _ c1),<-C,zB7,zDg,zBp (by
   rw[zZ];have:=zBe sz (show i+1<=ln vs by omega);rw[zB2,zC2]at this
   omega)]
  exact kR L hi hj⟩
end
def eV (d:Dk):Nat->List Int×Dk
 |0=>([],d)
 |i+1=>((eV d i).1++[nx (eV d i).2 256],ad (eV d i).2)
theorem Fd (d:Dk):∀i,(eV d i).1.length=i/\rem (eV d i).2<=rem d/\BY (eV d i).1
 |0=>⟨rfl,zAw _,λx hx=>by cases hx⟩
 |i+1=>by
  obtain⟨h1,h2,u⟩:=Fd d i;have A:=vF (eV d i).2;have z:=yQ (eV d i).2 256 zB;refine⟨by simp only[eV,zAv,zA6,zBx];omega,by simp only[eV];omega,?_⟩;simp only[eV];intro x hx
  rcases zBc.1 hx with hx|hx
  .exact u x hx
  .rw[zBl]at hx;subst hx;exact z
def vq (d:Dk) (n:Int) (L:0<=n) (h1:n<=1000):zN 163 [.ptr 1000 0 0,iA n] [(1000,eE d)] (zE yA (eV (ad d) (nx d (n+1)).toNat).1) [(1000,eE (eV (ad d) (nx d (n+1)).toNat).2)]:=by
 have A:=yT d (n+1) zB zB;have I:=yQ d (n+1) zB;generalize nx d (n+1)=k,ad d=u at *;obtain⟨N,hN⟩:∃N:Nat,k.toNat=N:=⟨_,rfl⟩;have z:k=(N:Int):=by omega
 rw[hN];subst z;refine eM call163 λF hF=>?_
 refine zS A ?_;refine zQ 5 1001 1 Z Z Z ?_;refine zO (N) [1000,1001] [] [0] [5,6,0] Z (λi T U=>⟨(5,.ref 1001 0 ((eV u i).1.map yA).length)::(6,iA ((N:Int)-i))::T,(1000,eE (eV u i).2)::(1001,.arr 1 ((eV u i).1.map yA) true)::U⟩) ?_;(conv=>whnf);refine⟨by(rw[show(N:Int)-(0:Nat)=N by omega];rfl),?_,?_⟩
 .intro i hi;have hl:=(Fd u i).1;have B:eV u (i+1)=((eV u i).1++[nx (eV u i).2 256],ad (eV u i).2):=rfl;rw[show((N:Int)-((i+1:Nat):Int))=(N:Int)-i-1 by omega];generalize (eV u i).1=p at *;generalize (eV u i).2=e at *;have C:1<=(N:Int)-i:=by omega
  have E:(N:Int)-i<=1001:=by omega
  have M:ln p<=1001:=by omega
  generalize (N:Int)-i=q at *;have G:=yT e 256 zB zB;have O:=yQ e 256 zB;rw[B];generalize nx e 256=y,ad e=e1 at *;refine zS G ?_
  show restr _ _ _=_
  rw[zAy];rfl
 .rw[show(N:Int)-(N:Int)=0 by omega];refine WW ?_;exact zH [1000] Z Z (zBb (AV.sl false) zAt) Z
theorem uq:∀(f:Nat) (n:Int),0<=n->n<128 ^ (f+1)->BY (Wc f n)
 |0,n,u,h1=>λx hx=>by
  rw[Wc,zBl]at hx;subst hx;simp at h1;omega
 | f+1,n,u,h1=>λx hx=>by
  rw[Wc]at hx;split at hx
  .rw[zBl]at hx;subst hx;omega
  .rcases zCf.1 hx with rfl|hx
   .omega
   .exact uq f (n/128) zB (Vc h1) x hx
theorem FX {n:Int} (u:0<=n) (h1:n<=4294967295):BY (jR n):=uq 4 n u zB
theorem qq (u A:Nat) (c:Int) (hc:0<=c/\c<256):∀(l:List Int) (i:Nat),RO l->BY (aZ u A c i l)
 | [],_,_=>λx hx=>by cases hx
 | y::l,i,h=>λx hx=>by
  rw[aZ]at hx
  rcases zBc.1 hx with hx|hx
  .split at hx
   .rw[zBl]at hx;subst hx;exact hc
   .cases hx
  .rcases zBc.1 hx with hx|hx
   .have:=h y zV;exact FX this.1 this.2 x hx
   .exact qq u A c hc l (i+1) (λz B=>h z (by simp[B])) x hx
def L4 (m:Ms) (h:M3 m) (n:Nat) (O:n<=2) (L:wD m.kind≠0->1<=n) (A:ln m.args=vS m.kind+n*wD m.kind):∃p,BY p/\p.length<=200/\p=dK (vS m.kind) (wD m.kind) n m/\zN 21 [zW m] [] (.tup [zE yA p,iA 0]) []:=by
 have z:=MV m.kind h.k.1 h.k.2 m n Z h.l (by rw[h.d];simp) h.n A zB;have M:=FN m.kind;have B:=FM m.kind
 have C:n*wD m.kind<=8:=by rcases B with e|e|e<;>rw[e]<;>omega
 have I:=YZ m.kind h.k.1 h.k.2 m n Z h.l (by rw[h.d];simp) h.n zB (λ_=>A) zB
 have hv:Gr (wD m.kind) n m.data=true:=by
  unfold Gr;rw[zAx,h.d];exact⟨rfl,by by_cases u:wD m.kind=0;exact .inl u;exact .inr (L u)⟩
 rw[hv]at z;have G:=FL (vS m.kind) (wD m.kind) n m.args 0;have E:=h.l;refine⟨dK (vS m.kind) (wD m.kind) n m,λx hx=>?_,?_,rfl,?_⟩
 .unfold dK at hx;rw[h.d]at hx
  rcases zBc.1 hx with hx|hx
  .rcases zBc.1 hx with hx|hx
   .exact h.t x hx
   .exact qq _ _ _ zB _ _ h.n x hx
  .rw[zBn]at hx;split at hx
   .rw[zBl]at hx;omega
   .cases hx
 .unfold dK;rw[h.d,zBn,zAv,zAv]
  have:(if wD m.kind≠0/\m.args.length=vS m.kind then [(0:Int)]else []).length<=1:=by split<;>simp
  omega
 .generalize dK (vS m.kind) (wD m.kind) n m=p at *;refine eM call21 λF hF=>?_
  exact mx (xV z I)
def jq (m:Ms) (h:M3 m):∃p,BY p/\p.length<=200/\zN 21 [zW m] [] (.tup [zE yA p,iA 0]) []:=by
 obtain⟨n,z,A,B⟩:=h.c;obtain⟨p,h1,h2,_,u⟩:=L4 m h n z A B;exact⟨p,h1,h2,u⟩
def D7 (y:Int):0<=IntKind.u8.wrap y/\IntKind.u8.wrap y<256:=by
 unfold IntKind.wrap;simp[IntKind.signed,IntKind.bits];omega
section
variable {P:Program} {TT:List TI} {st:St}
def gq (hP:uZ P TT) {k off len:Nat} {s:Operand} {fl:Fl} {S:AV} (hs:yX (zK st.tm) s= .ref k off len) (hk:zD st.h k=some (.arr sz xs fl)) (hx:yX (zK st.tm) x=S) (hT:TT[T]? =some ti) (hd:ti.d= .slice e) (he:TT[e]? =some te) (M:CR (zD st.h) S=some []):
  wX P st (.call ⟨.builtin .append, #[s,x], #[T,T]⟩) (.ref k off len) [] (k::PK S) []:=by
 refine⟨?_⟩;intro X tm h W hr _ o a w β Y U V;obtain⟨d0,o0,y0,p0,f0,g0⟩:=o;dsimp only at Y;subst Y;have hk':=(hr k zV).trans hk;have h1:=fC V W (x:=s) kQ hs;have h2:=fC V W (x:=x) kQ hx;obtain⟨ad,cap,z,_⟩:=cQ U h2 ((fL λk' hk=>hr k' (by simp[hk])).trans M) (sz:=0) (λy hy=>by cases hy)
 have L:∃E u,a.eval s= .slice E len u/\len<=u:=by
  generalize a.eval s=cx at h1
  cases h1 with
  |fz _ _ hf=>cases hf
  |dref _ _ _ _ hd _=>rw[hk']at hd;cases hd
  |ref0 _ _ O R st' b B hn=>exact⟨_,0,rfl,zAw _⟩
  |ref _ _ _ O R st' b n u B ac hn hc ag=>exact⟨_,u,rfl,hc⟩
 obtain⟨E,u,A,G⟩:=L;have C:=gB hP hT hd he w y0 E ad len u cap G
 have I:(execOp a.eval ⟨d0,.call ⟨.builtin .append, #[s,x], #[T,T]⟩,y0,p0,f0,g0⟩).run P w= .ok (.value (.slice E len u)) w:=by
  rw[zBx]at z;simp[execOp,resolve,invoke,builtin,A,z,C]
 rw[I,dZ];exact⟨β,xU.refl U,by rw[A]at h1;exact h1⟩
end
section
variable {P:Program} {TT:List TI} {K0:List Nat} {F:Fr K0} {m:Nat} {ops:Array Oper} {rest:List Oper} {Q:List FP->St->Prop} {tm:List (Nat×AV)} {h:List (Nat×xW)} {dr:Bool} {fs:List FP}
variable {ty:Nat} {pos:String} {after:Array Edge} {t:Nat}
def bg (A:uZ P TT) {u len:Nat} {l:Operand} {G:Fl} {k:IntKind} {i:Int} (hx:yX (zK tm) x= .ref u 0 len) (hk:zD h u=some (.arr sz xs G)) (hl:yX (zK tm) l= .s (.int k i)) (hT:TT[T]? =some ti) (hd:ti.d= .slice e) (B:TT[e]? =some te)
 (z:Nat.beq sz te.size=true) (I:0<=i) (h1:i<=len) (C:Nat.blt t m=true) (E:yN P F m ops dr rest ⟨(t,.ref u 0 i.toNat)::tm,h⟩ (⟨true,[],[u]⟩::fs) Q):
  yN P F m ops dr (⟨some t,.slice T x none (some l) none,ty,pos,after,none⟩::rest) ⟨tm,h⟩ fs Q:=by
 have:=cZ (P:=P) (st:=⟨tm,h⟩) (lo:=none) (hi:=some l) (l:=0) (r:=i.toNat) A hx hk hT hd B Z ⟨k,i,hl,zB⟩ (zA9 _) zB z;rw[zFg]at this;exact wM this C E
end
theorem C7 {y:Int} (h: -9223372036854775808<=y/\y<=9223372036854775807):aB .i64 (y.tdiv 256):=by grind [aB]
def zAe (a y:Int) (u: -9223372036854775808<=y/\y<=9223372036854775807):zN 98 [zE yA [],iA a,iA y] [] (zE yA [IntKind.u8.wrap y]) []:=by
 refine eM call98 λF hF=>?_
 exact nl
section
variable (b:List Int) (a y k:Int) (hl:1<=ln b) (hn:ln b<=1000) (h0: -9223372036854775808<=y/\y<=9223372036854775807) (hk:a % (ln b:Int)=k)
include hl hn h0 hk
theorem IJ (j:Int) (hj:y.tdiv 256 % 4=j):(b.map yA).length=ln b/\zN 11 [iA a,iA (((b.map yA).length:Nat):Int)] [] (iA k) []/\zN 11 [iA (y.tdiv 256),iA 4] [] (iA j) []/\aB .i64 (y.tdiv 256)/\0<=k/\k<(ln b:Int):=by
 have u:=zA yA b;have B:=Xf a (ln b:Int) zB zB;have C:=Xf (y.tdiv 256) 4 zB zB;have z:=zD0 a (show(ln b:Int)≠0 by omega);have A:=zDj a (show 0<(ln b:Int) by omega);rw[hk]at B z A;rw[hj]at C;exact⟨u,by rw[u];exact B,C,C7 h0,z,A⟩
def zAf (hj:y.tdiv 256 % 4=3):zN 98 [zE yA b,iA a,iA y] [] (zE yA (b.take k.toNat)) []:=by
 obtain⟨A,u,z,B,C,E⟩:=IJ b a y k hl hn h0 hk 3 hj;clear hk hj;unfold zE;refine eM call98 λF hF=>?_
 exact nm (xV u z)
def zAg (hj:y.tdiv 256 % 4=2):zN 98 [zE yA b,iA a,iA y] [] (zE yA (b.take k.toNat++[IntKind.u8.wrap y]++b.drop k.toNat)) []:=by
 obtain⟨A,u,z,C,E,G⟩:=IJ b a y k hl hn h0 hk 2 hj;clear hk hj;have e:zE yA (b.take k.toNat++[IntKind.u8.wrap y]++b.drop k.toNat)= .sl false ((b.take k.toNat).map yA++[yA (IntKind.u8.wrap y)]++(b.drop k.toNat).map yA):=by rw[zE,zAy,zAy];rfl
 rw[e];unfold zE;have B:(b.take k.toNat).length=k.toNat:=by rw[zBg];omega
 refine eM call98 λF hF=>?_
 (have ga:=u;have ge:=z;(repeat' (first|refine WYX ?_|apply yW|apply xI|intro hc|(apply zG;first|refine SL ?_)|refine SB ?_|fail))<;>clear ga ge)
 (repeat' (first|refine jX ?_|apply yW|apply xI|intro hc|(apply zG;first|(apply yH;refine vC tok Z Z ?_)|(apply yC;refine xG 1001 tok Z Z Z Z Z Z (yM _ _ (λ_=>rfl)) Z Z Z (by first|omega|(simp;omega)) Z Z Z ?_))|refine SB ?_|fail))
 exact zH [] Z Z (zBb (AV.sl false) zAt) Z
def B7 (hj:y.tdiv 256 % 4=0):zN 98 [zE yA b,iA a,iA y] [] (zE yA (b.set k.toNat (IntKind.u8.wrap y))) []:=by
 obtain⟨A,u,z,E,B,C⟩:=IJ b a y k hl hn h0 hk 0 hj;clear hk hj;have e:zE yA (b.set k.toNat (IntKind.u8.wrap y))= .sl false ((b.map yA).set k.toNat (yA (IntKind.u8.wrap y))):=by rw[zE,zCe]
 rw[e];have G:=yE yA b k B C;unfold zE;refine eM call98 λF hF=>?_
 (have ga:=u;have ge:=z;(repeat' (first|refine uT ?_|apply yW|apply xI|intro hc|(apply zG;first|(apply yC;refine xG 1001 tok Z Z Z Z Z Z (yM _ _ (λ_=>rfl)) Z Z Z zB Z Z Z ?_))|fail))<;>clear ga ge)
 exact zH [] Z Z (zBb (AV.sl false) (by rw[zBd];exact zA1 zV)) Z
def A7 (hj:y.tdiv 256 % 4=1) (h1:1<=k) (h2:k+1<ln b):zN 98 [zE yA b,iA a,iA y] [] (zE yA (b.take k.toNat++b.drop (k.toNat+1))) []:=by
 obtain⟨E,A,B,G,I,L⟩:=IJ b a y k hl hn h0 hk 1 hj;clear hk hj
 have C:∀y∈b.map yA,ln y.cells=1:=λy u=>by
  rw[zCa]at u;obtain⟨z,_,rfl⟩:=u;rfl
 have e:zE yA (b.take k.toNat++b.drop (k.toNat+1))= .sl false ((b.map yA).take k.toNat++(b.map yA).drop (k.toNat+1)):=by rw[zE,zAy,zD5,zDn]
 rw[e];unfold zE;refine eM call98 λF hF=>?_
 (have ga:=A;have ge:=B;(repeat' (first|refine J1 ?_|apply yW|apply xI|intro hc|(apply zG;first|(apply yC;refine xG 1001 tok Z Z Z Z Z Z (yM _ _ (λ_=>rfl)) Z Z Z zB Z Z Z ?_))|fail))<;>clear ga ge)
 apply xC
 (repeat' (first|refine uT ?_|apply yW|apply xI|intro hc|(apply zG;first|(apply gX;first|refine dM tok Z Z Z Z Z Z Z zB zB Z ?_|refine bg tok Z Z Z Z Z Z Z zB zB Z ?_)|(apply yC;refine mf tok Z Z Z Z Z Z Z Z (λy u=>C y (zBz (zCo (zCc u)))) qA zB qA zB Z Z ?_))|fail))
 refine zH [] Z Z (zBb (AV.sl false) ?_) Z
 have hv:pb ((b.map yA).length-(k+1).toNat) (pi (k+1).toNat (b.map yA))=pi (k.toNat+1) (b.map yA):=by
  rw[show(k+1).toNat=k.toNat+1 by omega];exact zA1 CG
 rw[hv,zBd];exact List.take_left' (by rw[zAv,zBg];omega)
def v8 (hj:y.tdiv 256 % 4=1) (h2:k+1=ln b):zN 98 [zE yA b,iA a,iA y] [] (zE yA (b.take k.toNat)) []:=by
 obtain⟨A,u,z,B,C,E⟩:=IJ b a y k hl hn h0 hk 1 hj;clear hk hj;have e:zE yA (b.take k.toNat)= .sl false ((b.map yA).take k.toNat):=by rw[zE,zD5]
 rw[e]
 have hv:((b.map yA).drop (k+1).toNat).take ((b.map yA).length-(k+1).toNat)=[]:=by
  rw[show(b.map yA).length-(k+1).toNat=0 by omega,zD7]
 unfold zE;refine eM call98 λF hF=>?_
 (have ga:=u;have ge:=z;(repeat' (first|refine J1 ?_|apply yW|apply xI|intro hc|(apply zG;first|(apply yC;refine xG 1001 tok Z Z Z Z Z Z (yM _ _ (λ_=>rfl)) Z Z Z zB Z Z Z ?_))|fail))<;>clear ga ge)
 apply xC
 (repeat' (first|refine uT ?_|apply yW|apply xI|intro hc|(apply zG;first|(apply gX;first|refine dM tok Z Z Z Z Z Z Z zB zB Z ?_|refine bg tok Z Z Z Z Z Z Z zB zB Z ?_)|(apply yC;refine wM (gq tok Z Z Z Z Z Z ((zBb some hv:some _=_))) Z ?_))|fail))
 exact zI
def k8 (hj:y.tdiv 256 % 4=1) (h2:k=0) (G:1<ln b):zN 98 [zE yA b,iA a,iA y] [] (zE yA (b.drop 1)) []:=by
 obtain⟨E,A,B,I,L,M⟩:=IJ b a y k hl hn h0 hk 1 hj;subst h2;clear hk hj
 have C:∀y∈b.map yA,ln y.cells=1:=λy u=>by
  rw[zCa]at u;obtain⟨z,_,rfl⟩:=u;rfl
 have e:zE yA (b.drop 1)= .sl false ((b.map yA).drop 1):=by rw[zE,zDn]
 rw[e];unfold zE;refine eM call98 λF hF=>?_
 (have ga:=A;have ge:=B;(repeat' (first|refine J1 ?_|apply yW|apply xI|intro hc|(apply zG;first|(apply yC;refine xG 1001 tok Z Z Z Z Z Z (yM _ _ (λ_=>rfl)) Z Z Z zB Z Z Z ?_))|fail))<;>clear ga ge)
 apply xC
 (repeat' (first|refine WS ?_|refine SG (I2 (λhc=>?_) λhc=>?_)|refine SG λhc=>?_|(apply zG;first|(apply gX;first|refine dM tok Z Z Z Z Z Z Z zB zB Z ?_|refine Mf tok Z Z Z Z Z Z Z Z ?_))|(first|refine GU 7 9 Z Z ?_|first|refine SR ?_|refine SK (I2 (λhc=>?_) λhc=>?_)|refine SK λhc=>?_|fail)|fail))
 refine Lc NA ?_;refine M4 [] [] tok Z Z Z Z Z Z Z Z (λy u=>C y (zBz (zCo (zCc u)))) Z Z qA qA Z Z Z Z ?_;refine WW ?_;refine zH [] Z Z ?_ Z
 show AV.sl false (pb ((b.map yA).length-1) (pi 1 (b.map yA)))=_
 rw[zA1 CG]
end
def Qi (b:List Int) (hb:BY b) (z:ln b<=1000) (a y:Int) (u: -9223372036854775808<=y/\y<=9223372036854775807):∃q,BY q/\q.length<=ln b+1/\zN 98 [zE yA b,iA a,iA y] [] (zE yA q) []:=by
 have B:=D7 y;by_cases hl:1<=ln b
 case neg=>
  have e:b=[]:=zBv zB;subst e;exact⟨_,λx hx=>by rw[zBl]at hx;subst hx;exact B,by simp,zAe a y u⟩
 have E:=zD0 a (show(ln b:Int)≠0 by omega);have G:=zDj a (show 0<(ln b:Int) by omega);have j0:=zD0 (y.tdiv 256) (show(4:Int)≠0 by omega);have j1:=zDj (y.tdiv 256) (show(0:Int)<4 by omega);have hT:BY (b.take (a % (ln b:Int)).toNat):=λx hx=>hb x (zCo hx)
 have A:∀n,BY (b.drop n):=λn x hx=>hb x (zBz hx)
 have C:(b.take (a % (ln b:Int)).toNat).length<=ln b:=by rw[zBg];omega
 obtain hj|hj|hj|hj:y.tdiv 256 % 4=0\/y.tdiv 256 % 4=1\/y.tdiv 256 % 4=2\/y.tdiv 256 % 4=3:=by omega
 .refine⟨_,λx hx=>?_,by rw[zB5];omega,B7 b a y _ hl z u Z hj⟩
  rcases zDt hx with h|rfl
  .exact hb x h
  .exact B
 .by_cases h2:a % (ln b:Int)+1=ln b
  .exact⟨_,hT,zB,v8 b a y _ hl z u Z hj h2⟩
  .by_cases h1:1<=a % (ln b:Int)
   .refine⟨_,λx hx=>?_,?_,A7 b a y _ hl z u Z hj h1 zB⟩
    .rcases zBc.1 hx with h|h
     .exact hT x h
     .exact A _ x h
    .rw[zAv,zBr,zBg];omega
   .exact⟨_,A 1,by rw[zBr];omega,k8 b a y _ hl z u Z hj zB zB⟩
 .refine⟨_,λx hx=>?_,?_,zAg b a y _ hl z u Z hj⟩
  .rcases zBc.1 hx with h|h
   .rcases zBc.1 h with h|h
    .exact hT x h
    .rw[zBl]at h;subst h;exact B
   .exact A _ x h
  .rw[zAv,zAv,zBr,zBg,zCr];omega
 .exact⟨_,hT,zB,zAf b a y _ hl z u Z hj⟩
theorem IK (I:Nat->α->Prop) (R:Nat->α->α->Prop) (h:∀i a,I i a->∃b,R i a b/\I (i+1) b) (a0:α) (A:I 0 a0):∃f:Nat->α,f 0=a0/\∀i,I i (f i)/\R i (f i) (f (i+1)):=by
 have u:∀i a,∃b,I i a->R i a b/\I (i+1) b:=λi a=>by
  by_cases hi:I i a
  all_goals grind
 let f:Nat->α:=λn=>Nat.rec a0 (λi a=>(u i a).choose) n
 have z:∀i,I i (f i):=λi=>by
  induction i with
  |zero=>exact A
  |succ i B=>exact((u i (f i)).choose_spec B).2
 exact⟨f,rfl,λi=>⟨z i,((u i (f i)).choose_spec (z i)).1⟩⟩
def aX [Inhabited α] (g:Nat->α->α) (l:List α) (i:Nat):List α:=(List.range (ln l)).map λj=>if j<i then g j (l.getD j dd)else l.getD j dd
theorem wZ [Inhabited α] (g:Nat->α->α) (l:List α) (i:Nat):(aX g l i).length=ln l:=by simp[aX]
theorem vV [Inhabited α] (g:Nat->α->α) (l:List α) (i j:Nat):(aX g l i)[j]? =if j<ln l then some (if j<i then g j (l.getD j dd)else l.getD j dd)else none:=by grind [aX]
theorem qN [Inhabited α] (g:Nat->α->α) (l:List α):aX g l 0=l:=by apply zB0<;>grind [aX,vV,py,List.getElem?_eq_none]
theorem yw [Inhabited α] (g:Nat->α->α) (l:List α) (i:Nat) (hi:i<ln l):aX g l (i+1)=(aX g l i).set i (g i (l.getD i dd)):=by
 apply zB0
 grind [aX]
def vN [Inhabited α] (f:α->AV) (g:Nat->α->α) (l:List α) (i:Nat) (hi:i<ln l):(aX g l (i+1)).map f=((aX g l i).map f).set i (f (g i (l.getD i dd))):=by
 rw[yw g l i hi,zCe]
structure In where
 opn:Bool
 its:List It
instance:Inhabited In:=⟨⟨false,[]⟩⟩
instance:Inhabited It:=⟨⟨0,0,[]⟩⟩
def uS (i:In):AV:= .agg [bA i.opn,zE vH i.its]
structure En where
 ag:Int
 ki:Int
 co:Int
def kG (e:En):AV:=OG e.ag e.ki e.co
structure TS where
 d:wC
 rs:List Ms
 en:List En
 ks:List Int
structure SS where
 d:wC
 R:List (List Ms)
 en:List En
 ks:List Int
def kY (l:List Ms):AV:=zE zW l
def Sy (i:In):Prop:=ln i.its<=1000/\∀x∈i.its,BY x.pay/\x.pay.length<=100000
def o6 (c:Cf) (s f3:Int) (i:It) (a b:TS):Prop:=∃h:Hd,RS c a.d s i f3 h/\lw c a.d s i f3 h/\b=⟨h.d,a.rs++[h.p],a.en++[⟨a.d.rg.num,i.kind,h.e⟩],if 0<=h.k then a.ks++[h.k]else a.ks⟩
structure EP (c:Cf) (d0 d:wC):Prop where
 i:qB c d
 n:d.rg.num=d0.rg.num
 a:d.rg.ag=d0.rg.ag
 t:Ua d0 d
theorem EP.refl (h:qB c d):EP c d d:=⟨h,rfl,rfl,Ua.refl d⟩
theorem EP.trans {a b:wC} (h1:EP c a b) (h2:EP c b d):EP c a d:=⟨h2.i,h2.n.trans h1.n,h2.a.trans h1.a,h1.t.trans h2.t⟩
theorem K4 (c:Cf) (s f3:Int) (R:0<=f3) (S:f3<=1073741824) (u:List It) (M:∀x∈u,BY x.pay/\x.pay.length<=100000) (st:TS) (L:qB c st.d):
  ∃f:Nat->TS,f 0=st/\∀k,EP c st.d (f k).d/\((f k).rs.length=ln st.rs+k/\(f k).en.length=ln st.en+k/\(f k).ks.length<=ln st.ks+k/\((∀x∈st.ks,0<=x/\x<(ln c.js:Int))->∀x∈(f k).ks,0<=x/\x<(ln c.js:Int)))/\(k<ln u->o6 c s f3 (u.getD k dd) (f k) (f (k+1))):=by
 have hx:∀k,BY (u.getD k dd).pay/\(u.getD k dd).pay.length<=100000:=λk=>by
  by_cases hk:k<ln u
  .grind
  .rw[zA0,zB4 zB]
   show BY ([]:List Int)/\([]:List Int).length<=100000
   grind [BY,o6]
 obtain⟨f,G,C⟩:=IK (λk (a:TS)=>EP c st.d a.d/\(ln a.rs=ln st.rs+k/\a.en.length=ln st.en+k/\a.ks.length<=ln st.ks+k/\((∀x∈st.ks,0<=x/\x<(ln c.js:Int))->∀x∈a.ks,0<=x/\x<(ln c.js:Int)))) (λk a b=>o6 c s f3 (u.getD k dd) a b)
  (λk a B=>by
   obtain⟨B,h1,h2,U,E⟩:=B;obtain⟨h,I,z⟩:=Ni c a.d B.i s f3 R S _ (hx k).1 (hx k).2;refine⟨_,⟨h,I,z,rfl⟩,B.trans ⟨z.inv,z.num,z.ag,z.t0⟩,?_,?_,?_,λA x hx=>?_⟩
   .dsimp only;rw[zAv,zCr];omega
   .dsimp only;rw[zAv,zCr];omega
   .dsimp only;split
    .rw[zAv,zCr];omega
    .omega
   .dsimp only at hx;split at hx
    .rename_i O
     rcases zBc.1 hx with hx|hx
     .exact E A x hx
     .rw[zBl]at hx;subst hx
      rcases z.rst with h9|⟨_,h8,h9⟩
      .omega
      .exact⟨h8,h9⟩
    .exact E A x hx)
  st ⟨EP.refl L,zB,zB,zB,id⟩
 exact⟨f,G,λk=>⟨(C k).1.1,(C k).1.2,λ_=>(C k).2⟩⟩
def fE (u:List In) (s:Nat):List It:=if s<ln u/\(u.getD s dd).opn=true then(u.getD s dd).its else []
def Dr (c:Cf) (f3:Int) (u:List In) (s:Nat) (a b:SS):Prop:=∃f:Nat->TS,f 0=⟨a.d,[],a.en,a.ks⟩/\(∀k,k<(fE u s).length->o6 c (s:Int) f3 ((fE u s).getD k dd) (f k) (f (k+1)))/\(∀k,EP c a.d (f k).d/\(f k).rs.length=k/\(f k).en.length=ln a.en+k/\(f k).ks.length<=ln a.ks+k)/\
 b=⟨(f (fE u s).length).d,a.R++[(f (fE u s).length).rs],(f (fE u s).length).en,(f (fE u s).length).ks⟩
theorem IL {u:List In} (h:∀i∈u,Sy i) (s:Nat):(fE u s).length<=1000/\∀x∈fE u s,BY x.pay/\x.pay.length<=100000:=by
 unfold fE;split
 .grind [Sy,fE,BY,List.getElem?_eq_getElem,List.getElem_mem]
 all_goals grind
def xw (c:Cf) (f3:Int) (L:0<=f3) (M:f3<=1073741824) (u:List In) (B:∀i∈u,Sy i) (d:wC) (I:qB c d):
  ∃F:Nat->SS,F 0=⟨d,[],[],[]⟩/\∀s,EP c d (F s).d/\((F s).R.length=s/\(F s).en.length<=1000*s/\(F s).ks.length<=1000*s/\∀x∈(F s).ks,0<=x/\x<(ln c.js:Int))/\Dr c f3 u s (F s) (F (s+1)):=by
 obtain⟨F,E,hF⟩:=IK (λs (a:SS)=>EP c d a.d/\(ln a.R=s/\a.en.length<=1000*s/\a.ks.length<=1000*s/\∀x∈a.ks,0<=x/\x<(ln c.js:Int))) (λs a b=>Dr c f3 u s a b)
  (λs a A=>by
   obtain⟨A,h1,h2,O,G⟩:=A;obtain⟨hl,hb⟩:=IL B s;obtain⟨f,C,z⟩:=K4 c (s:Int) f3 L M (fE u s) hb ⟨a.d,[],a.en,a.ks⟩ A.i;have hL:=z (fE u s).length;refine⟨_,⟨f,C,λk hk=>(z k).2.2 hk,λk=>⟨(z k).1,by have:=(z k).2.1.1;simpa using this,(z k).2.1.2.1,(z k).2.1.2.2.1⟩,rfl⟩,A.trans hL.1,?_,?_,?_,hL.2.1.2.2.2 G⟩
   .dsimp only;rw[zAv,zCr];omega
   .have:=hL.2.1.2.1;dsimp only at *;omega
   .have:=hL.2.1.2.2.1;dsimp only at *;omega)
  ⟨d,[],[],[]⟩ ⟨EP.refl I,rfl,zA9 _,zA9 _,λx hx=>by cases hx⟩
 exact⟨F,E,λs=>⟨(hF s).1.1,(hF s).1.2,(hF s).2⟩⟩
def QF (u:List In) (s:Nat) (b:Bool):Bool:=if s<ln u/\(u.getD s dd).opn=true then b else false
def Pi (u:List In) (l:List Bool):List Bool:=aX (QF u) l (ln l)
def dq (d:wC) (u:List In):wC:=⟨d.rg,d.rq,d.dr,Pi u d.au⟩
def j8 (h:qB c d) (u:List In):qB c (dq d u):=
 ⟨h.b,h.v,h.q,h.lg,h.a,h.n,h.t8,h.br,h.bb,h.bl,by show((Pi u d.au).length:Int)=_;unfold Pi;rw[wZ];exact h.au,h.dn,h.dr,h.vh⟩
def ww (d:wC) (f3:Int):wC:=⟨d.rg,EN d.rq f3,d.dr,d.au⟩
theorem f8 (h:qB c d) (f3:Int) (u:0<=f3) (z:f3<=1073741824):qB c (ww d f3):=by
 refine⟨h.b,W7 h.v f3 u z,?_,λr B g A=>?_,h.a,h.n,h.t8,h.br,h.bb,h.bl,h.au,h.dn,h.dr,h.vh⟩
 .show((EN d.rq f3).length:Int)<=_
  unfold EN;rw[zAr];exact h.q
 .obtain⟨x,hx,rfl⟩:=zCa.1 B;obtain⟨y,C,rfl⟩:=zCa.1 A;obtain⟨e1,E,_⟩:=bo y f3 u z;have:=h.lg x hx y C
  grind
def YI (x:wC):List AV:=[iA x.rg.num,zE yA x.rg.ag.sec,iA x.rg.ag.rights,iA x.rg.ag.cls,zE iA x.rg.ag.lim,iA x.rg.ag.req,iA x.rg.ag.ses,iA x.rg.ag.rate,iA x.rg.ag.burst,zE yP x.rg.tk,zE vB x.rg.vh,iA x.rg.bk.level,iA x.rg.bk.rate,iA x.rg.bk.burst,zE zY x.rq,zE qQ x.dr,zE bA x.au]
def uw (d:wC) (R:List (List Ms)) (E:List En) (K:List Int):AV:= .tup [zM d,zE kY R,zE kG E,zE iA K]
def YJ {i:Nat} {y:AV} (h:xs[i]? =some y):xs.set i y=xs:=by
 apply zB0;intro j;rw[zDz];by_cases u:i=j
 .subst u;have hi:=(zBj.1 h).1;rw[f5 Z,f5 hi,h]
 .rw[Os u]
def d8 (g:Nat->Bool->Bool) (l:List Bool) (k:Nat):pb (l.map bA).length (pi 0 ((aX g l k).map bA))=(aX g l k).map bA:=by
 rw[zBd];exact zA1 (by rw[zAr,zAr,wZ];exact zAw _)
def aq {g:Nat->Bool->Bool} {l:List Bool} {n:Nat} (h:ln l=n):List.take n (List.drop 0 ((aX g l k).map bA))=(aX g l k).map bA:=by
 rw[zBd];exact zA1 (by rw[zAr,wZ,h];exact zAw _)
theorem qw (hI:qB c d) (u:List In) (bs:ln u<=1000) (a4:∀i∈u,Sy i) (f3:Int) (n0:0<=f3) (n1:f3<=1073741824) (z:Nat->SS) (ap:z 0=⟨dq d u,[],[],[]⟩)
 (hz:∀s,EP c (dq d u) (z s).d/\((z s).R.length=s/\(z s).en.length<=1000*s/\(z s).ks.length<=1000*s/\∀x∈(z s).ks,0<=x/\x<(ln c.js:Int))/\Dr c f3 u s (z s) (z (s+1))):
  zN 56 [wE c,zM d,zE uS u,iA f3] [] (uw (ww (z (ln d.au)).d f3) (z (ln d.au)).R (z (ln d.au)).en (z (ln d.au)).ks) []:=by
 have br:1<=ln d.au/\d.au.length<=2:=by have:=hI.au;have:=hI.a.e;omega
 have kc:=LE d hI.bd;have bl:=zA bA d.au;have a9:=zA uS u;have km:=Fu (z (ln d.au)).d.rq f3 (hz (ln d.au)).1.i.v;have Y:wE c= .agg [.sl false (c.js.map wJ),.sl false (c.ags.map uI),iA c.per,iA c.cap,iA c.hold,iA c.lock]:=rfl;have bf:∀d:wC,zM d= .agg (YI d):=λ_=>rfl
 rw[Y];unfold XT zM xD at kc;have e0:=qN (QF u) d.au;refine eM call56 λF hF=>?_
 refine zS kc ?_;refine zO (ln d.au) [1004,4,5,8,12] [4,5,8,12] [2,3,4,5,8,12,13,14,15,29] [30,2,3,4,5,8,12,13,14,15,29] Z (λi T U=>⟨(30,iA i)::T,(1004,.arr 1 ((aX (QF u) d.au i).map bA) false)::U⟩) ?_;(conv=>whnf);refine⟨by(rw[e0];rfl),?_,?_⟩
 .intro i hi;have a7:((aX (QF u) d.au i).map bA)[i]? =some (bA (d.au.getD i dd)):=by rw[zAz,vV,f5 hi,Os (zDo i)];rfl
  have cd:((aX (QF u) d.au i).map bA).length=ln d.au:=by rw[zAr,wZ]
  rw[vN bA (QF u) d.au i hi];have V:=YJ a7;generalize (aX (QF u) d.au i).map bA=xs,d.au.getD i dd=b9 at *;unfold QF;by_cases h1:i<ln u
  .have hy:=zJ uS u i h1;generalize u.getD i dd=x at *;obtain⟨op,A⟩:=x;rw[show uS ⟨op,A⟩= .agg [bA op,zE vH A]from Z]at hy;cases op
   .rw[Os (λh=>by cases h.2)];refine WW ?_;rfl
   .rw[f5 ⟨h1,rfl⟩,V];refine WW ?_;rfl
  .rw[Os (λh=>h1 h.1)];refine WW ?_;rfl
 ·(refine WW ?_)
  refine wI [4,8,12] [2,3,4,8,12,13,14,15,52,53] Z ?_
  (conv=>whnf)
  rw[d8];refine zQ 13 1001 1 Z Z Z ?_;refine zQ 14 1002 3 Z Z Z ?_;refine zQ 15 1003 1 Z Z Z ?_;refine zO (ln d.au) [12,1001,1002,1003,4,8] [4,8] [2,3,4,8,12,52] [13,14,15,53,2,3,4,8,12,52] Z (λi T U=>⟨(13,.ref 1001 0 ((z i).R.map kY).length)::(14,.ref 1002 0 ((z i).en.map kG).length)::(15,.ref 1003 0 ((z i).ks.map iA).length)::(53,iA i)::T,(12,.box (YI (z i).d))::(1001,.arr 1 ((z i).R.map kY) true)::(1002,.arr 3 ((z i).en.map kG) true)::(1003,.arr 1 ((z i).ks.map iA) true)::U⟩) ?_;(conv=>whnf);refine⟨by(rw[ap];rfl),?_,?_⟩
  .intro s hs;obtain⟨hT,⟨az,a1,a2,_⟩,B,L,G,E,C⟩:=hz s;have b6:(z s).R.length<=2:=by omega
   have ba:(z s).en.length<=2000:=by omega
   have bb:(z s).ks.length<=2000:=by omega
   rw[C];dsimp only;clear ap hz km kc az a1 a2;have b2:=zA kY (z s).R;have b3:=zA kG (z s).en;have b4:=zA iA (z s).ks;by_cases O:s<ln u/\(u.getD s dd).opn=true
   .have I:fE u s=(u.getD s dd).its:=by unfold fE;rw[f5 O]
    have a3:=(IL a4 s).1;rw[I]at G a3⊢;have hy:=zJ uS u s O.1;obtain⟨cc,a5⟩:=O;generalize u.getD s dd=x at *;obtain⟨op,A⟩:=x;dsimp only at *;subst a5;rw[show uS ⟨true,A⟩= .agg [bA true,zE vH A]from Z]at hy;have a8:=zA vH A;have M:∀y:List Ms,((z s).R++[y]).map kY=(z s).R.map kY++[kY y]:=λy=>by simp
    rw[M];clear M C I
    (repeat' (first|refine f9 ?_|apply yW|apply xI|intro hc|(apply zG;first|refine SM ?_)|fail))
    apply xC
    (repeat' (first|refine Yf ?_|apply yW|apply xI|intro hc|(apply zG;first|refine SM ?_)|fail))
    refine zQ 18 1006 4 Z Z Z ?_;refine WW ?_;refine zU (A) [12,1002,1003,1006,4,8,1001] [4,8,1001] [2,3,4,8,12,13,17,52,53,71,72] [14,15,18,73,2,3,4,8,12,13,17,52,53,71,72] Z (λi f4 T U=>⟨(14,.ref 1002 0 ((B i).en.map kG).length)::(15,.ref 1003 0 ((B i).ks.map iA).length)::(18,.ref 1006 0 ((B i).rs.map zW).length)::(73,iA i)::T,(12,.box (YI (B i).d))::(1002,.arr 3 ((B i).en.map kG) true)::(1003,.arr 1 ((B i).ks.map iA) true)::(1006,.arr 4 ((B i).rs.map zW) true)::U⟩) ?_;(conv=>whnf);refine⟨by(rw[L];rfl),?_,?_⟩
    .intro k f4 it post hx hk;have a6:=yJ vH hx hk;have ag:=zX hx hk;have S:A.getD k dd=it:=by rw[hx,<-hk];simp[py]
     obtain⟨h,hB,hP,C⟩:=G k ag;rw[S]at hB;obtain⟨bu,bx,bz,b0⟩:=E k;have b7:=zA kG (B k).en;have ca:=zA iA (B k).ks;have cb:=zA zW (B k).rs;have W:=hB.2.1;rw[C];dsimp only;rw[show((B k).rs++[h.p]).map zW=(B k).rs.map zW++[zW h.p] by simp,show∀e:En,((B k).en++[e]).map kG=(B k).en.map kG++[kG e]from λe=>by simp,S];rw[Y]at W;unfold EQ zM xD vH at W;unfold vH at a6;clear hx S C G E hB hP hT;generalize (B k).rs.map zW=ce,(B k).en.map kG=ax,h.p=p9,h.e=e9,h.d=d9 at *;generalize b1:h.k=k9 at *;generalize (B k).d=av at *;obtain⟨pk,pt,pa,pd⟩:=p9;unfold zW OG at W;dsimp only at W;unfold YI kG OG zW;by_cases h0:0<=k9
     .rw[f5 h0,show((B k).ks++[k9]).map iA=(B k).ks.map iA++[iA k9] by simp];generalize (B k).ks.map iA=ar at *;refine zS W ?_;rfl
     .rw[Os h0];generalize (B k).ks.map iA=ar at *;refine zS W ?_;rfl
    ·(repeat' (first|refine Yf ?_|apply yW|apply xI|intro hc|(apply zG;first|refine SM ?_)|fail))
     refine wI [4,8,12,1001,1002,1003] [2,3,4,8,12,13,14,15,18,52,53,74] Z ?_
     (conv=>whnf)
     simp only[zBd,zAt];have b5:((B (ln A)).rs.map zW).length<=2000:=by rw[zAr];have:=(E (ln A)).2.1;omega
     rw[show kY (B (ln A)).rs= .sl false ((B (ln A)).rs.map zW)from Z];clear G E hT L;generalize B (ln A)=zl at *;refine WW ?_;rfl
   .have I:fE u s=[]:=by unfold fE;rw[Os O]
    rw[I,zBx,L];dsimp only;have ac:((z s).R++[([]:List Ms)]).map kY=(z s).R.map kY++[kY []]:=by rw[zAy];rfl
    rw[ac];clear I G E L C hT ac;generalize (z s).R.map kY=r9,(z s).en.map kG=ax,(z s).ks.map iA=ar,(z s).d=av at *;unfold YI;by_cases h1:s<ln u
    .have hy:=zJ uS u s h1
     have O:(u.getD s dd).opn=false:=by
      cases h:(u.getD s dd).opn with
      |false=>rfl
      |true=>exact absurd ⟨h1,h⟩ O
     generalize u.getD s dd=x at *;obtain⟨op,A⟩:=x;dsimp only at O;subst O;rw[show uS ⟨false,A⟩= .agg [bA false,zE vH A]from Z]at hy
     (repeat' (first|refine f9 ?_|apply yW|apply xI|intro hc|(apply zG;first|refine SM ?_)|fail))
     apply xC
     (repeat' (first|refine Yf ?_|apply yW|apply xI|intro hc|(apply zG;first|refine SM ?_)|fail))
     refine Nn 18 Z Z Z ?_;refine WW ?_;rfl
    ·(repeat' (first|refine f9 ?_|apply yW|apply xI|intro hc|(apply zG;first|refine SM ?_)|fail))
     apply xC
     (repeat' (first|refine Yf ?_|apply yW|apply xI|intro hc|(apply zG;first|refine SM ?_)|fail))
     refine Nn 18 Z Z Z ?_;refine WW ?_;rfl
  .generalize bk:z (ln d.au)=Fn at *;unfold YI;refine zS km ?_;refine zH [] Z Z ?_ Z
   show AV.tup [zM (ww Fn.d f3),.sl false (pb _ (pi 0 (Fn.R.map kY))),.sl false (pb _ (pi 0 (Fn.en.map kG))),.sl false (pb _ (pi 0 (Fn.ks.map iA)))]=_
   simp only[zBd,zAt];rfl
section
variable {P:Program} {K0:List Nat} {F:Fr K0} {m:Nat} {tm:List (Nat×AV)} {h:List (Nat×xW)}
theorem wK.recell {a:Act} {w:World} (R:wK F m ⟨tm,h⟩ a w) (k i K:Nat) {ys:List AV} {L:Bool} {W:Nat} {O:Fl} (hk:zD h k=some (.arr 1 xs ⟨L,true⟩)) (hv:xs[i]? =some (.s (.slice none 0 0))) (hK:zD h K=some (.arr W ys O)) (ap:K≠k):
  wK F m ⟨tm,(k,.arr 1 (xs.set i (.ref K 0 0)) ⟨L,true⟩)::h⟩ a w:=by
 obtain⟨⟨X,β,hX,H,Ht,C,hJ,hD⟩,nd,gs,hl⟩:=R;have u:∀j,j≠k->zD ((k,.arr 1 (xs.set i (.ref K 0 0)) ⟨L,true⟩)::h) j=zD h j:=λj hj=>by rw[xK,Os hj]
 have I:zD ((k,.arr 1 (xs.set i (.ref K 0 0)) ⟨L,true⟩)::h) k=some (.arr 1 (xs.set i (.ref K 0 0)) ⟨L,true⟩):=by rw[xK,f5 Z]
 have A:(xs.set i (.ref K 0 0)).length=ln xs:=zB5
 have E:EG w (xT X β) (zD h) β w (xT X β) (zD ((k,.arr 1 (xs.set i (.ref K 0 0)) ⟨L,true⟩)::h)) β:=⟨zAw _,λb _ hd=>⟨rfl,hd⟩,λ_ _ _ _=>rfl,λj e B=>by
  by_cases hj:j=k
  .subst hj;rw[hk]at B;cases B;exact .inr ⟨⟨xs.set i (.ref K 0 0),⟨L,true⟩,I,by rw[A];exact zAw _⟩,λb n hm=>⟨n,zAw _,hm⟩⟩
  .have:=jA (zD h) β j e B
   rcases this with h1|h1
   .exact .inl (by rw[u j hj];exact h1)
   .refine .inr ?_
    cases e with
    |dead=>exact h1
    |box cs=>obtain⟨⟨z,h2⟩,G⟩:=h1;exact⟨⟨z,by rw[u j hj];exact h2⟩,G⟩
    |obj cs=>obtain⟨⟨z,h2⟩,G⟩:=h1;exact⟨⟨z,by rw[u j hj];exact h2⟩,G⟩
    |arr V Y st'=>obtain⟨⟨x2,s2,h2,G⟩,h4⟩:=h1;exact⟨⟨x2,s2,by rw[u j hj];exact h2,G⟩,h4⟩⟩
 have H':jL X (zD ((k,.arr 1 (xs.set i (.ref K 0 0)) ⟨L,true⟩)::h)) β w:=by
  refine⟨λj e B=>?_,λj hj=>?_,H.disj,H.free,H.lt⟩
  .by_cases hj:j=k
   .subst hj;rw[I]at B;cases B;obtain⟨e1,e2,e3,e4,e5,f,e6,e7,e8⟩:=H.ent j _ hk;refine⟨e1,by rw[A];exact e2,λhx=>e3 λh0=>hx (by rw[h0];rfl),λS x hx=>?_,λb n r hr=>by rw[A];exact e5 b n r hr,f,λS x l v hx M=>⟨?_,λh=>by cases h⟩,λS j' h1 h2=>e7 S j' (by rw[<-A];exact h1) h2,e8⟩
    .rw[zDz]at hx;split at hx
     .split at hx
      .cases hx;rfl
      .cases hx
     .exact e4 S x hx
    .rw [zDz]at hx;split at hx
     .rename_i ag;subst ag;split at hx
      .cases hx
       cases l with
       |zero=>
        have ar:v= .ref K 0 0:=by simpa [AV.cells]using M.symm
        subst ar;have h6:=e6.toV i _ 0 _ hv Z;rw[h6.s_inv];exact .ref0 K 0 W ys O none (by rw[u K ap];exact hK) (zA9 _)
       |succ l=>simp[AV.cells]at M
      .cases hx
     .exact(e6.toV S x l v hx M).evo E
   .rw[u j hj]at B;exact(H.ent j e B).evo E Z λ_ _ _=>rfl
  .rw[xK]at hj;split at hj
   .cases hj
   .exact H.off j hj
 refine⟨⟨X,β,hX,H',λt=>(Ht t).evo E,⟨λj e B=>?_,C.size,C.keep,C.own,C.pas,C.bs,C.os,C.tape,C.output⟩,hJ,hD⟩,λj=>?_,gs,hl⟩
 .have:=C.knd j e B;by_cases hj:j=k
  .subst hj
   cases e with
   |dead=>exact this
   |box cs=>obtain⟨z,h2⟩:=this;(try dsimp only at h2);rw[hk]at h2;cases h2
   |obj cs=>obtain⟨z,h2⟩:=this;(try dsimp only at h2);rw[hk]at h2;cases h2
   |arr V Y au=>obtain⟨ac,U,h2,G⟩:=this;(try dsimp only at h2);rw[hk]at h2;cases h2;exact⟨_,_,I,by rw[A];exact G⟩
  .cases e with
   |dead=>exact this
   |box cs=>obtain⟨z,h2⟩:=this;exact⟨z,by dsimp only;rw[u j hj];exact h2⟩
   |obj cs=>obtain⟨z,h2⟩:=this;exact⟨z,by dsimp only;rw[u j hj];exact h2⟩
   |arr V Y au=>obtain⟨ac,U,h2,G⟩:=this;exact⟨ac,U,by dsimp only;rw[u j hj];exact h2,G⟩
 .dsimp only;by_cases hj:j=k
  .subst hj;rw[I];intro hd;cases hd
  .rw[u j hj];exact nd j
def VR {c:Code} {Q:Exit->St->Prop} (k i K:Nat) {z ys:List AV} {C:Bool} {B:Nat} {A:Fl} (hk:zD h k=some (.arr 1 xs ⟨C,true⟩)) (hv:xs[i]? =some (.s (.slice none 0 0))) (E:zD h K=some (.arr B ys A)) (u:Nat.beq K k=false) (G:xs.set i (.ref K 0 0)=z)
 (I:uD P F m c ⟨tm,(k,.arr 1 z ⟨C,true⟩)::h⟩ Q):uD P F m c ⟨tm,h⟩ Q:=
 ⟨λa w R=>I.run a w (G▸R.recell k i K hk hv E (λe=>by rw[e,Nat.beq_refl]at u;cases u))⟩
end
