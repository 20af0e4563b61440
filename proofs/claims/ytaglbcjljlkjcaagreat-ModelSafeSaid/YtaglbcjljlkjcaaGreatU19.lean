/- Part 19. -/
import Derived.Test.YtaglbcjljlkjcaaGreatU18
namespace Go.Proofs.YtaglbcjljlkjcaaGreat.Av
open Tryz
set_option linter.all false
set_option maxRecDepth 4000
set_option maxHeartbeats 8000000
open List renaming length->ln,take->pi,drop->py,getD->p5
open Inhabited renaming default->dd
variable {c:Cf}{xs:List AV}{T e k sz:Nat}{x:Operand}{te ti:TI}{α:Type}{d:wC}
theorem fg (d:Dk):∀i,∀j∈(LU d i).1,∃e,j=MG e
 |0=>λj hj=>by simp[LU]at hj
 |i+1=>λj hj=>by
  simp only[LU,zBe,zBm]at hj
  rcases hj with hj|hj
  .exact fg d i j hj
  .exact⟨_,hj⟩
def vq (d:Dk) (r:Int):(FN d r).js=(LU (ad (Xy d)) (d6 d)).1:=by rw[FN,ni]
def bg (d:Dk) (r:Int):(FN d r).ags=(SF (ad (ni d).2) r (Q3 d)).1:=by rw[FN,P3]
def L7 (d:Dk) (u:Int):1<=(FN d u).js.length/\(FN d u).js.length<=2/\1<=(FN d u).ags.length/\(FN d u).ags.length<=3:=by
 have h1:=yQ (Xy d) 2 zB;have h2:=yQ (ni d).2 3 zB;rw[vq,bg,OH,cW];unfold d6 Q3;omega
def K7 (d:Dk) (n r:Int) (z:0<=r/\r<=63):Ty (Sn d n r):=by
 have A:=yQ d (3-1+1) zB;have w2:=yQ (ad d) (3-1+1) zB;have B:=yQ (ad (ad d)) 3 zB;have C:=yQ (ad (ad (ad d))) 3 zB;have E:=yQ (ad (ad (ad (ad d)))) (3-1+1) zB;have G:=yQ (ad (ad (ad (ad (ad d))))) (2-1+1) zB;have I:=yQ (ad (ad (ad (ad (ad (ad d)))))) (3-1+1) zB;have L:=yQ (Dr d) 5 zB;unfold Sn;refine⟨by dsimp only;rw[fA];rfl,rfl,λx u=>?_,z,by dsimp only;omega,by dsimp only;omega,by dsimp only;omega,by dsimp only;omega,by dsimp only;omega⟩;simp only[zCh,List.not_mem_nil,or_false]at u
 rcases u with rfl|rfl|rfl|rfl<;>omega
structure AgD (a:Ag) (n:Int):Prop where
 v:Ty a
 s:a.sec=cL (1000+n)
 q:1<=a.req/\a.req<=3
 b:1<=a.rate/\a.burst<=7
def J7 (d:Dk) (n r:Int) (u:0<=r/\r<=63):AgD (Sn d n r) n:=by
 have z:=yQ (ad (ad (ad (ad d)))) (3-1+1) zB;have A:=yQ (ad (ad (ad (ad (ad (ad d)))))) (3-1+1) zB;have B:=yQ (Dr d) 5 zB;exact⟨K7 d n r u,rfl,by unfold Sn;dsimp only;omega,by unfold Sn;dsimp only;omega⟩
theorem uq (d:Dk) (r:Int) (u:0<=r/\r<=63):∀i k,k<i->AgD ((SF d r i).1.getD k dd) k/\((SF d r i).1.getD k dd).rights=r
 |0,k,h=>by omega
 | i+1,k,h=>by
  rw[bp,zA5];by_cases hk:k<i
  .rw[zBw (by rw[cW];exact hk),<-zA5];exact uq d r u i k hk
  .obtain rfl:k=i:=by omega
   rw[zBy (by rw[cW];omega),cW,zDx];exact⟨J7 _ _ _ u,rfl⟩
def N4 (d:Dk) (r:Int) (u:0<=r/\r<=63) (k:Int) (z:0<=k) (h1:k<((FN d r).ags.length:Int)):AgD ((FN d r).ags.getD k.toNat dd) k/\((FN d r).ags.getD k.toNat dd).rights=r:=by
 rw[bg]at h1⊢;rw[cW]at h1;have:=uq (ad (ni d).2) r u (Q3 d) k.toNat zB;rw[show((k.toNat:Nat):Int)=k by omega]at this;exact this
def M4 {a:Ag} (hv:Ty a) (n:Int) (C:0<=n/\n<4):qD c (QY n a a.ses.toNat):=by
 have I:=hv.e;have L:=hv.q;have hb:=hv.b;have M:=hv.t;have E:=O7 n a hv;have e1:(PA n a).ag=a:=rfl;have A:(PA n a).num=n:=rfl;have e3:(PA n a).tk.length=8:=by simp[PA,Af]
 have B:(PA n a).vh=[]:=rfl;have u:(PA n a).bk=⟨a.burst,a.rate,a.burst⟩:=rfl;unfold QY;generalize hN:a.ses.toNat=N;generalize PA n a=r at *;constructor
 .exact E
 .exact⟨λr z=>by simp at z,List.Pairwise.nil,zBb _⟩
 .dsimp only;rw[e1];simp only[zBz];omega
 .intro r z;simp at z
 .dsimp only;rw[e1];exact hv
 .dsimp only;rw[A];exact C
 .exact e3
 .dsimp only;rw[e1,u]
 .dsimp only;rw[e1,u]
 .dsimp only;rw[e1,u];exact⟨hb.1,zC3 _⟩
 .dsimp only;rw[e1,zCk];omega
 .simp
 .intro x G;simp at G
 .dsimp only;rw[B];simp
def I7 (n:Int) (a:Ag) (hv:Ty a):zN 80 [iA n,uF a] [] (zM (QY n a a.ses.toNat)) []/\zN 85 [iA n,uF a] [] (zM (QY n a a.ses.toNat)) []:=by
 have u:=hv.e;have h1:=hv.s;have h2:=hv.l;exact⟨Y3 n a a.ses.toNat zB zB zB zB,iv n a a.ses.toNat zB zB zB zB⟩
def H7 {l:List Tk} (h:IC l) (f4:Int):IC (YD l f4):=by
 refine⟨by unfold YD;rw[zAt,zCd];exact h.n,λt u=>?_⟩;unfold YD at u;rw[zCb]at u;obtain⟨j,hj,rfl⟩:=u;rw[zBj]at hj;unfold ja;split
 .exact zBb _
 .rw[zA5,zBq hj,zDn];exact h.s _ (zEn _)
def XT (d:wC) (f4:Int):wC:=⟨Z4 d.rg f4,KO d.rq f4,d.dr,d.au⟩
def G7 (h:qD c d) (f4:Int):qD c (XT d f4)/\(XT d f4).rg.ag=d.rg.ag/\(XT d f4).rg.num=d.rg.num:=by
 refine⟨?_,rfl,rfl⟩;have hl:=h.bl;have u:=h.br;have z:=h.bb;have E:=h.a.t;have B:=zCj (λx:Rq=>decide (f4<=x.til)) d.rq;have C:=h.q;refine⟨⟨H7 h.b.tk f4,h.b.s,h.b.l,h.b.v⟩,h.v.filter _,?_,λr u g A=>h.lg r (zEi.1 u).1 g A,h.a,h.n,?_,h.br,h.bb,?_,h.au,h.dn,h.dr,h.vh⟩
 .show((d.rq.filter _).length:Int)<=d.rg.ag.req
  omega
 .show(YD d.rg.tk f4).length=8
  unfold YD;rw[zAt,zCd,h.t8]
 .show 0<=min (d.rg.bk.level+d.rg.bk.rate) d.rg.bk.burst/\min (d.rg.bk.level+d.rg.bk.rate) d.rg.bk.burst<=d.rg.ag.burst
  omega
def qq (h:qD c d) (f4:Int):zN 114 [zM d,iA f4] [] (zM (XT d f4)) []:=by
 have A:=MZ d h.bd;have hl:=h.bl;have C:=h.br;have z:=h.bb;have E:=h.a.t;have hb:=h.a.b;have u:=Ov d.rg f4 h.b zB;have B:=an d.rq f4 h.v;unfold XT;generalize Z4 d.rg f4=r,KO d.rq f4=q at *;unfold zM xD at *;unfold uQ at u;refine eM call114 λF hF=>?_
 exact ny (qC A u B)
def jq (h:qD c d) (f4:Int):zN 55 [zM d,iA f4] [] (zM (XT d f4)) []:=by
 have A:=kN d h.bd;have hl:=h.bl;have C:=h.br;have z:=h.bb;have E:=h.a.t;have hb:=h.a.b;have u:=Yq d.rg f4 h.b h.t8 zB;have B:=Gh d.rq f4 h.v;unfold XT;generalize Z4 d.rg f4=r,KO d.rq f4=q at *;unfold zM xD at *;unfold uQ at u;refine eM call55 λF hF=>?_
 exact ny (qC A u B)
section
variable {P:Program} {K0:List Nat} {F:Fr K0} {m:Nat}
theorem WM.consume {st:St} {a:Act} {w:World} {X:Nat->Prop} {β:uN} (hX:F5 F X) (H:jM X (zD st.h) β w) (Ht:∀t,yI w (xU X β) (zD st.h) β (zK st.tm t) (a.eval (.tmp t))) (z:fC F (zD st.h) β w) (hJ:∀i,zK st.tm GS= .gh i->F.J i (zh β) X w) (hD:Yz X F a.defers w)
  (nd:∀k,zD st.h k≠some .dead) (gs:m<=GS) (hl:a.tmps.size=m) (k:Nat) (K ts:List Nat) (hK:K0.all (K.contains ·)=true) (av:K.contains k=false) {w':World} {β':uN} (G:xV X w (zD st.h) β w' (over [(k,.dead)] (zD st.h)) β') {v:AV} {c:Value} (hc:xM w' (xU X β') v c)
  (hg:∀i,v≠ .gh i) (t:Nat) (ht:t<m) {st':St} (he:restr K ts ⟨st.tm,(k,.dead)::st.h⟩=st'):wK F m ⟨(t,v)::st'.tm,st'.h⟩ (a.put (some t) c) w':=by
 subst he;have eh:zD ((k,xW.dead)::st.h)=over [(k,.dead)] (zD st.h):=vE [(k,xW.dead)] st.h;rw[<-eh]at G;obtain⟨H',ag⟩:=G.hok.restr K
 have C:∀j,j∈K->j≠k:=λj hj e=>by
  grind
 have E:∀j,j≠k->zD ((k,xW.dead)::st.h) j=zD st.h j:=λj hj=>by rw[eh];exact aK _ _ hj
 have S:∀j,j∈K->zD ((k,xW.dead)::st.h) j≠some .dead:=λj hj=>by rw[E j (C j hj)];exact nd j
 have O:∀j,j∈K0->j∈K:=λj hj=>by
  grind
 have U:∀b,xU X (λj=>if j∈K then β' j else []) b->xU X β' b:=λb hd=>by
  rcases hd with hx|⟨j,n,u⟩
  .exact .inl hx
  ·(try dsimp only at u)
   split at u
   .exact .inr ⟨j,n,u⟩
   .simp at u
 have ac:GS≠t:=by omega
 refine⟨⟨X,_,hX,H',λj=>?_,⟨λj e A=>?_,zBx z.size G.size,λb hb hi hn=>?_,λj b n u=>?_,λj b n u=>?_,λj b n u=>?_,G.os.trans z.os,G.tape.trans z.tape,G.output.trans z.output⟩,λi hi=>?_,hD.goes H G⟩,λj=>?_,gs,by simp[Act.put,hl]⟩
 .show yI _ _ _ _ (zK ((t,v)::(restr K ts ⟨st.tm,(k,.dead)::st.h⟩).tm) j) _
  rw[xF];split
  .rename_i hj;subst hj;have e:(a.put (some j) c).eval (.tmp j)=c:=by simp[Act.put,Act.eval,hl,ht]
   rw[e];exact .fz _ _ (hc.evo (zAy _) λb _ hd=>⟨rfl,λh=>hd (U b h)⟩)
  .rename_i hj;rw[Act.eval_put (λd hd e=>hj (by injection hd with hd;injection e with e;rw[hd,e])),gF];split
   .exact ag _ _ ((Ht j).evo G.evo)
   .exact .fz _ _ (.bot _)
 .have hj:=O j (F.hh j e A);have h1:=z.knd j e A;have hr:∀Y,zD ((k,xW.dead)::st.h) j=some Y->zD (wX K (zD ((k,xW.dead)::st.h))) j=some (qY K (zD ((k,xW.dead)::st.h)) Y):=λY h2=>by rw[wG,zAs hj,h2];rfl
  cases e with
  |dead=>exact h1
  |box cs=>obtain⟨W,h2⟩:=h1;exact⟨_,hr _ ((E j (C j hj)).trans h2)⟩
  |obj cs=>obtain⟨W,h2⟩:=h1;exact⟨_,hr _ ((E j (C j hj)).trans h2)⟩
  |arr sz xs sl=>obtain⟨au,ar,h2,I⟩:=h1;obtain⟨V,L,M,h5⟩:=gP K (zD ((k,xW.dead)::st.h)) sz au ar;exact⟨V,L,(hr _ ((E j (C j hj)).trans h2)).trans (by rw[M]),by rw[h5];exact I⟩
 .rw[G.keep b (zB0 hb z.size),z.keep b hb hi hn];intro j n u
  rcases z.own j b n u with⟨k',B,h1⟩|h1
  all_goals grind
 ·(try dsimp only at u)
  split at u
  .rcases G.own j b n u with⟨k',B,h1⟩|h1
   .exact z.own k' b B h1
   .exact .inr (zBx z.size h1)
  .simp at u
 .have hj:=O j (F.hK j b n u);obtain⟨B,h1,h2⟩:=z.pas j b n u
  (try dsimp only)
  rw[zAs hj]
  cases A:zD st.h j with
  |none=>rw[H.off j A]at h2;simp at h2
  | some e=>
   have I:=(G.key j e A).resolve_left (S j hj)
   cases e with
   |dead=>exact I.elim
   |box cs=>exact⟨B,h1,I.2 b B h2⟩
   |obj cs=>exact⟨B,h1,I.2 b B h2⟩
   |arr sz xs fl=>
    obtain⟨ap,M,h5⟩:=I.2 b B h2;exact⟨ap,zBx h1 M,h5⟩
 .obtain⟨B,_,h2⟩:=z.pas j b n u;rw[G.bs j b B h2,z.bs j b n u]
 .change zK ((t,v)::(restr K ts ⟨st.tm,(k,.dead)::st.h⟩).tm) GS= .gh i at hi
  rw[xF,Os ac,gF]at hi;split at hi
  .have h1:zK st.tm GS= .gh i:=HG hi;refine F.Jst i _ X w' w' _ (F.go G (hJ i h1)) (zAy _) (λ_ _ _=>rfl) (λb hb=>?_) (λb hb=>?_) Z Z Z
   .obtain⟨j,n,u⟩:=hb
    (try dsimp only at u)
    split at u
    .exact .inl ⟨j,n,u⟩
    .simp at u
   .obtain⟨j,n,u⟩:=hb;exact H'.lt b (.inr ⟨j,n,u⟩)
  .cases hi
 .show zD (wX K (zD ((k,xW.dead)::st.h))) j≠some .dead
  rw[wG];split
  .rename_i hj;intro h;rw[zBc]at h;obtain⟨e,he,h2⟩:=h
   cases e with
   |dead=>exact S j hj he
   |box cs=>cases h2
   |obj cs=>cases h2
   |arr a b c=>obtain⟨V,L,M,_⟩:=gP K (zD ((k,xW.dead)::st.h)) a b c;rw[M]at h2;cases h2
  .intro h;cases h
variable {ops:Array Oper} {rest:List Oper} {Q:List FP->St->Prop} {tm:List (Nat×AV)} {h:List (Nat×xW)} {fs fs':List FP} {TT:List TI} {ty:Nat} {pos:String} {after:Array Edge} {t:Nat}
theorem L4 (K ts:List Nat) (hP:uY P TT) {k:Nat} {s:Operand} {vs:List AV} {fl:Fl} {xv:AV} (hs:yX (zK tm) s= .ref k 0 0) (hk:zD h k=some (.arr sz xs fl)) (hx:yX (zK tm) x=xv) (hT:TT[T]? =some ti) (hd:ti.d= .slice e) (he:TT[e]? =some te) (bs:CQ (zD h) xv=some vs)
 (Y:Nat.beq sz te.size=true) (br:∀y,vs[0]? =some y->ln y.cells=sz) (hb:Nat.ble te.bytes 65536=true) (hz:Nat.beq (ln te.zero) te.size=true) (E:1<=ln vs) (bz:ln vs<=1073741824) (M:Nat.blt t m=true) (hK:K0.all (K.contains ·)=true) (ba:K.contains k=false)
 {st':St} (bl:restr K ts ⟨tm,(k,.dead)::h⟩=st') (hr:yN P F m ops false rest ⟨(t,.sl false vs)::st'.tm,st'.h⟩ fs Q):yN P F m ops false (⟨some t,.call ⟨.builtin .append, #[s,x], #[T,T]⟩,ty,pos,after,none⟩::rest) ⟨tm,h⟩ fs Q:=⟨λa w R=>wpListIn_plain Z λKC a4=>by
 obtain⟨⟨X,β,hX,I,Ht,KK,hJ,hD⟩,nd,gs,hl⟩:=R;dsimp only at I Ht KK hJ nd;have h1:=fD (op:= .call ⟨.builtin .append, #[s,x], #[T,T]⟩) (st:=⟨tm,h⟩) Ht (λ_ _=>rfl) (x:=s) kR hs;have h2:=fD (op:= .call ⟨.builtin .append, #[s,x], #[T,T]⟩) (st:=⟨tm,h⟩) Ht (λ_ _=>rfl) (x:=x) kR hx;have Y:=zBp Y;have hb:=zBa hb;have hz:=zBp hz;have M:=zBa M;obtain⟨i,z,hu,hi,a2,e1,e2,e3⟩:=vA hP hT hd he;obtain⟨g1,g2,g3,g4,g5,f,g6,g7,g8⟩:=I.ent k _ hk;obtain⟨ad,cap,av,_,b3,az⟩:=cS I h2 bs br;obtain⟨b2,q,L,rfl,hS⟩:=az (λh0=>by rw[h0]at E;simp at E);obtain⟨ap,a8⟩:=hS.flat g1
 have au:∀{c w'} (_:(Builtin.append_ #[T,T] ty #[a.eval s,a.eval x]).run P w= .ok c w') {β':uN} (_:xV X w (zD h) β w' (over [(k,.dead)] (zD h)) β') (_:xM w' (xU X β') (.sl false vs) c),Oper.wpIn (DO F.ro) 0 P ⟨some t,.call ⟨.builtin .append, #[s,x], #[T,T]⟩,ty,pos,after,none⟩ a w KC (λe a' w'=>e= .normal/\∃st',Q [] st'/\wK F m st' a' w'):=by
  intro c w' u β' G hc;refine aJ.wp (N:=λc1 w1=>c1=c/\w1=w') ?_ ?_
  .have:(execOp a.eval ⟨some t,.call ⟨.builtin .append, #[s,x], #[T,T]⟩,ty,pos,after,none⟩).run P w= .ok (.value c) w':=by simp[execOp,resolve,invoke,builtin,u]
   rw[this];exact⟨rfl,rfl⟩
  .rintro _ _ ⟨rfl,rfl⟩;exact a4 _ _ (hr.run _ _ (WM.consume (st:=⟨tm,h⟩) hX I Ht KK hJ hD nd gs hl k K ts hK ba G hc (λi hh=>by cases hh) t M bl))
 have a3:∀{w'},jM X (zD h) β w'->xV X w' (zD h) β w' (over [(k,.dead)] (zD h)) (cZ β k []):=λH=>xV.step H k .dead [] (zAy _) (λ_ _ _=>rfl) Z Z Z (λb n M=>by simp at M) (λ_ _ _=>rfl) (λe _=> .inl Z) λ_=>yL _ _ _
 have ag:∀bd A,a.eval s= .slice bd 0 A->A<ln vs->(bd=none->A=0)->Oper.wpIn (DO F.ro) 0 P ⟨some t,.call ⟨.builtin .append, #[s,x], #[T,T]⟩,ty,pos,after,none⟩ a w KC (λe a' w'=>e= .normal/\∃st',Q [] st'/\wK F m st' a' w'):=by
  intro bd A U b1 a5
  have ac:ln vs*i.bytes<=140737488355328:=by
   have:=zDj (show (ln vs)<=1073741824 by omega) (show i.bytes<=65536 by omega);omega
  have u:(Builtin.append_ #[T,T] ty #[.slice bd 0 A,.slice (some ⟨b2,q,none⟩) (ln vs) cap]).run P w= .ok (.slice (some ⟨w.heap.size,0,none⟩) (ln vs) (grownCap w (ln vs) A e)) (w.drew.alloc (.cells ((flat L (ln vs) sz).toArray++Builtin.zeroCells z.cells (grownCap w (ln vs) A e-vs.length)) e)):=by
   cases bd with
   |none=>
    obtain rfl:=a5 Z;exact run_append_nil (P:=P) w T ty e i z hu hi a2 ⟨b2,q,none⟩ (ln vs) cap (flat L (ln vs) sz) (by rw[zZ,Y,e1]) ap zB zB zB
   |some b0=>
    have:=run_append_grow (P:=P) w T ty e i z hu hi a2 b0 0 A [] zV (λj v h=>by simp at h) ⟨b2,q,none⟩ (ln vs) cap (flat L (ln vs) sz) (by rw[zZ,Y,e1]) ap zB zB (growslice_fits zB (by simpa using ac));simpa using this
  have HD:=I.drew (w.drawn+1);have b4:z.cells.size=ln te.zero:=by rw[<-e3];simp
  have a9:=grownCap_ge w (ln vs) A e;have G:=xV.newFz HD ((flat L (ln vs) sz).toArray++Builtin.zeroCells z.cells (grownCap w (ln vs) A e-vs.length)) e
  have hv:=xM.newArr HD ((flat L (ln vs) sz).toArray++Builtin.zeroCells z.cells (grownCap w (ln vs) A e-vs.length)) e sz vs (grownCap w (ln vs) A e) L g1 (by unfold dY;omega) a9 hS.wide
   (λi j hi hj=>by
    rw[zCv (by simp[zZ];have:=zBg sz (show i+1<=ln vs by omega);rw[zB4,zC4]at this;omega)]
    simpa using kS L hi hj) hS.one (λi y j v hy hv=>xM.evo (w:=w) (w':={w with drawn:=w.drawn+1}) (zAy _) (λ_ _ hd=>⟨rfl,hd⟩) (hS.rep.toF Z i y j v hy hv))
  have G2:=xV.trans I (xV.drew I (w.drawn+1)) G;have G3:=a3 G2.hok;exact au (by rw[U,av];exact u) (xV.trans I G2 G3) (hv.wkF.evo G3.evo.size G3.evo.fz)
 generalize U:a.eval s=cx at h1
 cases h1 with
 |fz _ _ hf=>cases hf
 |dref _ _ _ _ a7 _=>exact absurd a7 (nd k)
 |ref0 _ _ bu bx st' bd V hn=>exact ag bd 0 U zB (λ_=>rfl)
 | ref _ _ _ bu bx st' b n A V S hn hc bk=>
  rw[hk]at V;cases V;by_cases W:ln vs<=A
  case neg=>exact ag _ A U zB (λh=>by cases h)
  obtain⟨B,el,c1,c2,c3,c4⟩:=g8 b n S
  have a6:B.size=A*sz:=by
   have:wO w b=B.size:=by unfold wO World.shape?;rw[c1];rfl
   rw[<-this,<-bk,zCa]
  have ax:ln vs*sz<=B.size:=by rw[a6];exact zBg _ W
  have u:=bC hP hT hd he w ty b 0 0 A B el c1 ⟨b2,q,none⟩ (ln vs) cap (flat L (ln vs) sz) (by rw[zZ,Y]) ap a8 zB (by
   rw[zZ,zEc];simpa using ax)
  generalize C:(B.toList.take (0+0*te.size)++flat L (ln vs) sz++B.toList.drop (0+0*te.size+(flat L (ln vs) sz).length)).toArray=O at u;rw[zEc,zCa,zD9,zD3,zCa]at C
  have a1:O.size=B.size:=by
   rw[<-C];simp only[zDr,zAx,zBr,zDt,zZ];omega
  have G:=xV.step (w':=w.setRow b O) I k .dead [] zV (λj hj hn=>setRow_other w b j O (λe=>hn n (by rw[e];exact S))) Z Z Z (λb n M=>by simp at M) (λb n _=>kJ c1 a1 b) (λe _=> .inl Z) λ_=>yL _ _ _
  have bb:¬xU X (cZ β k []) b:=λhd=>by
   rcases hd with hx|⟨j,n',M⟩
   .exact I.free k b n S hx
   .by_cases ar:j=k
    .subst ar;rw[yL]at M;simp at M
    .rw[qR _ _ ar]at M;exact ar (I.disj _ _ _ _ _ M S)
  refine au (by rw[U,av,zEc];exact u) G ?_;rw[zCa];have bf:vs≠[]:=λh0=>by rw[h0]at E;simp at E
  refine .sl false vs b 0 sz A L bf ⟨zB0 (I.lt b (.inr ⟨k,n,S⟩)) G.size,bb,g1,by unfold dY;omega,hS.wide,λi j hi hj=>?_,hS.one⟩ W λi y j v hy hv=>(hS.rep.toF Z i y j v hy hv).evo G.evo.size G.evo.fz
  rw[uP (setRow_heap w _ _ _ _ _ c1),<-C,zCa,zDh,zBw (by
   rw[zZ];have:=zBg sz (show i+1<=ln vs by omega);rw[zB4,zC4]at this
   omega)]
  exact kS L hi hj⟩
end
def eW (d:Dk):Nat->List Int×Dk
 |0=>([],d)
 |i+1=>((eW d i).1++[nx (eW d i).2 256],ad (eW d i).2)
theorem Gd (d:Dk):∀i,(eW d i).1.length=i/\rem (eW d i).2<=rem d/\BY (eW d i).1
 |0=>⟨rfl,zAy _,λx u=>by cases u⟩
 |i+1=>by
  obtain⟨h1,h2,z⟩:=Gd d i;have B:=vF (eW d i).2;have A:=yQ (eW d i).2 256 zB;refine⟨by simp only[eW,zAx,zA8,zBz];omega,by simp only[eW];omega,?_⟩;simp only[eW];intro x u
  rcases zBe.1 u with u|u
  .exact z x u
  .rw[zBm]at u;subst u;exact A
def gq (d:Dk) (n:Int) (L:0<=n) (h1:n<=1000):zN 163 [.ptr 1000 0 0,iA n] [(1000,fF d)] (zE yA (eW (ad d) (nx d (n+1)).toNat).1) [(1000,fF (eW (ad d) (nx d (n+1)).toNat).2)]:=by
 have A:=yR d (n+1) zB zB;have I:=yQ d (n+1) zB;generalize nx d (n+1)=k,ad d=u at *;obtain⟨N,hN⟩:∃N:Nat,k.toNat=N:=⟨_,rfl⟩;have z:k=(N:Int):=by omega
 rw[hN];subst z;refine eM call163 λF hF=>?_
 refine zS A ?_;refine zQ 5 1001 1 Z Z Z ?_;refine zO (N) [1000,1001] [] [0] [5,6,0] Z (λi T U=>⟨(5,.ref 1001 0 ((eW u i).1.map yA).length)::(6,iA ((N:Int)-i))::T,(1000,fF (eW u i).2)::(1001,.arr 1 ((eW u i).1.map yA) true)::U⟩) ?_;(conv=>whnf);refine⟨by(rw[show(N:Int)-(0:Nat)=N by omega];rfl),?_,?_⟩
 .intro i hi;have hl:=(Gd u i).1;have B:eW u (i+1)=((eW u i).1++[nx (eW u i).2 256],ad (eW u i).2):=rfl;rw[show((N:Int)-((i+1:Nat):Int))=(N:Int)-i-1 by omega];generalize (eW u i).1=p at *;generalize (eW u i).2=e at *;have C:1<=(N:Int)-i:=by omega
  have E:(N:Int)-i<=1001:=by omega
  have M:ln p<=1001:=by omega
  generalize (N:Int)-i=q at *;have G:=yR e 256 zB zB;have O:=yQ e 256 zB;rw[B];generalize nx e 256=y,ad e=e1 at *;refine zS G ?_
  show restr _ _ _=_
  rw[zA0];rfl
 .rw[show(N:Int)-(N:Int)=0 by omega];refine WW ?_;exact zI [1000] Z Z (zBd (AV.sl false) zAv) Z
theorem dq:∀(f:Nat) (n:Int),0<=n->n<128 ^ (f+1)->BY (Yc f n)
 |0,n,z,h1=>λx u=>by
  rw[Yc,zBm]at u;subst u;simp at h1;omega
 | f+1,n,z,h1=>λx u=>by
  rw[Yc]at u;split at u
  .rw[zBm]at u;subst u;omega
  .rcases zCh.1 u with rfl|u
   .omega
   .exact dq f (n/128) zB (Wc h1) x u
theorem EB {n:Int} (u:0<=n) (h1:n<=4294967295):BY (jT n):=dq 4 n u zB
theorem aq (A B:Nat) (c:Int) (hc:0<=c/\c<256):∀(l:List Int) (i:Nat),RR l->BY (ZA A B c i l)
 | [],_,_=>λx u=>by cases u
 | y::l,i,h=>λx u=>by
  rw[ZA]at u
  rcases zBe.1 u with u|u
  .split at u
   .rw[zBm]at u;subst u;exact hc
   .cases u
  .rcases zBe.1 u with u|u
   .have:=h y zV;exact EB this.1 this.2 x u
   .exact aq A B c hc l (i+1) (λz C=>h z (by simp[C])) x u
def K4 (m:Ms) (h:L3 m) (n:Nat) (S:n<=2) (M:wE m.kind≠0->1<=n) (B:ln m.args=vU m.kind+n*wE m.kind):∃p,BY p/\p.length<=200/\p=dK (vU m.kind) (wE m.kind) n m/\zN 21 [zX m] [] (.tup [zE yA p,iA 0]) []:=by
 have A:=LD m.kind h.k.1 h.k.2 m n Z h.l (by rw[h.d];simp) h.n B zB;have O:=FS m.kind;have C:=FR m.kind
 have E:n*wE m.kind<=8:=by rcases C with e|e|e<;>rw[e]<;>omega
 have L:=YY m.kind h.k.1 h.k.2 m n Z h.l (by rw[h.d];simp) h.n zB (λ_=>B) zB
 have hv:Br (wE m.kind) n m.data=true:=by
  unfold Br;rw[zAz,h.d];exact⟨rfl,by by_cases z:wE m.kind=0;exact .inl z;exact .inr (M z)⟩
 rw[hv]at A;have I:=FQ (vU m.kind) (wE m.kind) n m.args 0;have G:=h.l;refine⟨dK (vU m.kind) (wE m.kind) n m,λx u=>?_,?_,rfl,?_⟩
 .unfold dK at u;rw[h.d]at u
  rcases zBe.1 u with u|u
  .rcases zBe.1 u with u|u
   .exact h.t x u
   .exact aq _ _ _ zB _ _ h.n x u
  .rw[zBo]at u;split at u
   .rw[zBm]at u;omega
   .cases u
 .unfold dK;rw[h.d,zBo,zAx,zAx]
  have:(if wE m.kind≠0/\m.args.length=vU m.kind then [(0:Int)]else []).length<=1:=by split<;>simp
  omega
 .generalize dK (vU m.kind) (wE m.kind) n m=p at *;refine eM call21 λF hF=>?_
  exact ng (xQ A L)
def oq (m:Ms) (h:L3 m):∃p,BY p/\p.length<=200/\zN 21 [zX m] [] (.tup [zE yA p,iA 0]) []:=by
 obtain⟨n,z,A,B⟩:=h.c;obtain⟨p,h1,h2,_,u⟩:=K4 m h n z A B;exact⟨p,h1,h2,u⟩
def F7 (y:Int):0<=IntKind.u8.wrap y/\IntKind.u8.wrap y<256:=by
 unfold IntKind.wrap;simp[IntKind.signed,IntKind.bits];omega
section
variable {P:Program} {TT:List TI} {st:St}
def nq (hP:uY P TT) {k off len:Nat} {s:Operand} {fl:Fl} {U:AV} (hs:yX (zK st.tm) s= .ref k off len) (hk:zD st.h k=some (.arr sz xs fl)) (hx:yX (zK st.tm) x=U) (hT:TT[T]? =some ti) (hd:ti.d= .slice e) (he:TT[e]? =some te) (M:CQ (zD st.h) U=some []):
  wZ P st (.call ⟨.builtin .append, #[s,x], #[T,T]⟩) (.ref k off len) [] (k::PN U) []:=by
 refine⟨?_⟩;intro X tm h Y hr _ o a w β ho V W;obtain⟨d0,o0,y0,p0,f0,g0⟩:=o;dsimp only at ho;subst ho;have hk':=(hr k zV).trans hk;have h1:=fD W Y (x:=s) kR hs;have h2:=fD W Y (x:=x) kR hx;obtain⟨ad,cap,z,_⟩:=cS V h2 ((fM λk' hk=>hr k' (by simp[hk])).trans M) (sz:=0) (λy hy=>by cases hy)
 have L:∃E u,a.eval s= .slice E len u/\len<=u:=by
  generalize a.eval s=cx at h1
  cases h1 with
  |fz _ _ hf=>cases hf
  |dref _ _ _ _ hd _=>rw[hk']at hd;cases hd
  |ref0 _ _ O S st' b B hn=>exact⟨_,0,rfl,zAy _⟩
  |ref _ _ _ O S st' b n u B ac hn hc ag=>exact⟨_,u,rfl,hc⟩
 obtain⟨E,u,A,G⟩:=L;have C:=gD hP hT hd he w y0 E ad len u cap G
 have I:(execOp a.eval ⟨d0,.call ⟨.builtin .append, #[s,x], #[T,T]⟩,y0,p0,f0,g0⟩).run P w= .ok (.value (.slice E len u)) w:=by
  rw[zBz]at z;simp[execOp,resolve,invoke,builtin,A,z,C]
 rw[I,dZ];exact⟨β,xV.refl V,by rw[A]at h1;exact h1⟩
end
section
variable {P:Program} {TT:List TI} {K0:List Nat} {F:Fr K0} {m:Nat} {ops:Array Oper} {rest:List Oper} {Q:List FP->St->Prop} {tm:List (Nat×AV)} {h:List (Nat×xW)} {dr:Bool} {fs:List FP}
variable {ty:Nat} {pos:String} {after:Array Edge} {t:Nat}
def og (A:uY P TT) {u len:Nat} {l:Operand} {I:Fl} {k:IntKind} {i:Int} (G:yX (zK tm) x= .ref u 0 len) (hk:zD h u=some (.arr sz xs I)) (hl:yX (zK tm) l= .s (.int k i)) (hT:TT[T]? =some ti) (hd:ti.d= .slice e) (B:TT[e]? =some te)
 (z:Nat.beq sz te.size=true) (L:0<=i) (h1:i<=len) (C:Nat.blt t m=true) (E:yN P F m ops dr rest ⟨(t,.ref u 0 i.toNat)::tm,h⟩ (⟨true,[],[u]⟩::fs) Q):
  yN P F m ops dr (⟨some t,.slice T x none (some l) none,ty,pos,after,none⟩::rest) ⟨tm,h⟩ fs Q:=by
 have:=bB (P:=P) (st:=⟨tm,h⟩) (lo:=none) (hi:=some l) (l:=0) (r:=i.toNat) A G hk hT hd B Z ⟨k,i,hl,zB⟩ (zBb _) zB z;rw[zFi]at this;exact wM this C E
end
theorem E7 {y:Int} (h: -9223372036854775808<=y/\y<=9223372036854775807):aD .i64 (y.tdiv 256):=by grind [aD]
def zAe (a y:Int) (u: -9223372036854775808<=y/\y<=9223372036854775807):zN 98 [zE yA [],iA a,iA y] [] (zE yA [IntKind.u8.wrap y]) []:=by
 refine eM call98 λF hF=>?_
 exact nm
section
variable (b:List Int) (a y k:Int) (hl:1<=ln b) (hn:ln b<=1000) (h0: -9223372036854775808<=y/\y<=9223372036854775807) (hk:a % (ln b:Int)=k)
include hl hn h0 hk
theorem IQ (j:Int) (hj:y.tdiv 256 % 4=j):(b.map yA).length=ln b/\zN 11 [iA a,iA (((b.map yA).length:Nat):Int)] [] (iA k) []/\zN 11 [iA (y.tdiv 256),iA 4] [] (iA j) []/\aD .i64 (y.tdiv 256)/\0<=k/\k<(ln b:Int):=by
 have u:=zA yA b;have B:=Wf a (ln b:Int) zB zB;have C:=Wf (y.tdiv 256) 4 zB zB;have z:=zD2 a (show(ln b:Int)≠0 by omega);have A:=zDk a (show 0<(ln b:Int) by omega);rw[hk]at B z A;rw[hj]at C;exact⟨u,by rw[u];exact B,C,E7 h0,z,A⟩
def zAf (hj:y.tdiv 256 % 4=3):zN 98 [zE yA b,iA a,iA y] [] (zE yA (b.take k.toNat)) []:=by
 obtain⟨A,u,z,B,C,E⟩:=IQ b a y k hl hn h0 hk 3 hj;clear hk hj;unfold zE;refine eM call98 λF hF=>?_
 exact ny (xQ u z)
def zAg (hj:y.tdiv 256 % 4=2):zN 98 [zE yA b,iA a,iA y] [] (zE yA (b.take k.toNat++[IntKind.u8.wrap y]++b.drop k.toNat)) []:=by
 obtain⟨A,u,z,C,E,G⟩:=IQ b a y k hl hn h0 hk 2 hj;clear hk hj;have e:zE yA (b.take k.toNat++[IntKind.u8.wrap y]++b.drop k.toNat)= .sl false ((b.take k.toNat).map yA++[yA (IntKind.u8.wrap y)]++(b.drop k.toNat).map yA):=by rw[zE,zA0,zA0];rfl
 rw[e];unfold zE;have B:(b.take k.toNat).length=k.toNat:=by rw[zBi];omega
 refine eM call98 λF hF=>?_
 (have gd:=u;have gn:=z;(repeat' (first|refine WYX ?_|apply yW|apply xH|intro hc|(apply zG;first|refine SL ?_)|refine SB ?_|fail))<;>clear gd gn)
 (repeat' (first|refine jZ ?_|apply yW|apply xH|intro hc|(apply zG;first|(apply yH;refine vD tok Z Z ?_)|(apply yC;refine xG 1001 tok Z Z Z Z Z Z (yM _ _ (λ_=>rfl)) Z Z Z (by first|omega|(simp;omega)) Z Z Z ?_))|refine SB ?_|fail))
 exact zI [] Z Z (zBd (AV.sl false) zAv) Z
def D7 (hj:y.tdiv 256 % 4=0):zN 98 [zE yA b,iA a,iA y] [] (zE yA (b.set k.toNat (IntKind.u8.wrap y))) []:=by
 obtain⟨A,u,z,E,B,C⟩:=IQ b a y k hl hn h0 hk 0 hj;clear hk hj;have e:zE yA (b.set k.toNat (IntKind.u8.wrap y))= .sl false ((b.map yA).set k.toNat (yA (IntKind.u8.wrap y))):=by rw[zE,zCe]
 rw[e];have G:=yE yA b k B C;unfold zE;refine eM call98 λF hF=>?_
 (have gd:=u;have gn:=z;(repeat' (first|refine uS ?_|apply yW|apply xH|intro hc|(apply zG;first|(apply yC;refine xG 1001 tok Z Z Z Z Z Z (yM _ _ (λ_=>rfl)) Z Z Z zB Z Z Z ?_))|fail))<;>clear gd gn)
 exact zI [] Z Z (zBd (AV.sl false) (by rw[zBf];exact zA2 zV)) Z
def C7 (hj:y.tdiv 256 % 4=1) (h1:1<=k) (h2:k+1<ln b):zN 98 [zE yA b,iA a,iA y] [] (zE yA (b.take k.toNat++b.drop (k.toNat+1))) []:=by
 obtain⟨E,A,B,G,I,L⟩:=IQ b a y k hl hn h0 hk 1 hj;clear hk hj
 have C:∀y∈b.map yA,ln y.cells=1:=λy u=>by
  rw[zCb]at u;obtain⟨z,_,rfl⟩:=u;rfl
 have e:zE yA (b.take k.toNat++b.drop (k.toNat+1))= .sl false ((b.map yA).take k.toNat++(b.map yA).drop (k.toNat+1)):=by rw[zE,zA0,zD7,zDo]
 rw[e];unfold zE;refine eM call98 λF hF=>?_
 (have gd:=A;have gn:=B;(repeat' (first|refine J1 ?_|apply yW|apply xH|intro hc|(apply zG;first|(apply yC;refine xG 1001 tok Z Z Z Z Z Z (yM _ _ (λ_=>rfl)) Z Z Z zB Z Z Z ?_))|fail))<;>clear gd gn)
 apply xB
 (repeat' (first|refine uS ?_|apply yW|apply xH|intro hc|(apply zG;first|(apply gY;first|refine dM tok Z Z Z Z Z Z Z zB zB Z ?_|refine og tok Z Z Z Z Z Z Z zB zB Z ?_)|(apply yC;refine Yf tok Z Z Z Z Z Z Z Z (λy u=>C y (zB1 (zCr (zCf u)))) qB zB qB zB Z Z ?_))|fail))
 refine zI [] Z Z (zBd (AV.sl false) ?_) Z
 have hv:pi ((b.map yA).length-(k+1).toNat) (py (k+1).toNat (b.map yA))=py (k.toNat+1) (b.map yA):=by
  rw[show(k+1).toNat=k.toNat+1 by omega];exact zA2 CF
 rw[hv,zBf];exact List.take_left' (by rw[zAx,zBi];omega)
def B7 (hj:y.tdiv 256 % 4=1) (h2:k+1=ln b):zN 98 [zE yA b,iA a,iA y] [] (zE yA (b.take k.toNat)) []:=by
 obtain⟨A,u,z,B,C,E⟩:=IQ b a y k hl hn h0 hk 1 hj;clear hk hj;have e:zE yA (b.take k.toNat)= .sl false ((b.map yA).take k.toNat):=by rw[zE,zD7]
 rw[e]
 have hv:((b.map yA).drop (k+1).toNat).take ((b.map yA).length-(k+1).toNat)=[]:=by
  rw[show(b.map yA).length-(k+1).toNat=0 by omega,zD9]
 unfold zE;refine eM call98 λF hF=>?_
 (have gd:=u;have gn:=z;(repeat' (first|refine J1 ?_|apply yW|apply xH|intro hc|(apply zG;first|(apply yC;refine xG 1001 tok Z Z Z Z Z Z (yM _ _ (λ_=>rfl)) Z Z Z zB Z Z Z ?_))|fail))<;>clear gd gn)
 apply xB
 (repeat' (first|refine uS ?_|apply yW|apply xH|intro hc|(apply zG;first|(apply gY;first|refine dM tok Z Z Z Z Z Z Z zB zB Z ?_|refine og tok Z Z Z Z Z Z Z zB zB Z ?_)|(apply yC;refine wM (nq tok Z Z Z Z Z Z ((zBd some hv:some _=_))) Z ?_))|fail))
 exact zH
def A7 (hj:y.tdiv 256 % 4=1) (h2:k=0) (G:1<ln b):zN 98 [zE yA b,iA a,iA y] [] (zE yA (b.drop 1)) []:=by
 obtain⟨E,A,B,I,L,M⟩:=IQ b a y k hl hn h0 hk 1 hj;subst h2;clear hk hj
 have C:∀y∈b.map yA,ln y.cells=1:=λy u=>by
  rw[zCb]at u;obtain⟨z,_,rfl⟩:=u;rfl
 have e:zE yA (b.drop 1)= .sl false ((b.map yA).drop 1):=by rw[zE,zDo]
 rw[e];unfold zE;refine eM call98 λF hF=>?_
 (have gd:=A;have gn:=B;(repeat' (first|refine J1 ?_|apply yW|apply xH|intro hc|(apply zG;first|(apply yC;refine xG 1001 tok Z Z Z Z Z Z (yM _ _ (λ_=>rfl)) Z Z Z zB Z Z Z ?_))|fail))<;>clear gd gn)
 apply xB
 (repeat' (first|refine WS ?_|refine SG (I2 (λhc=>?_) λhc=>?_)|refine SG λhc=>?_|(apply zG;first|(apply gY;first|refine dM tok Z Z Z Z Z Z Z zB zB Z ?_|refine Lf tok Z Z Z Z Z Z Z Z ?_))|(first|refine GY 7 9 Z Z ?_|first|refine SR ?_|refine SK (I2 (λhc=>?_) λhc=>?_)|refine SK λhc=>?_|fail)|fail))
 refine Mc NI ?_;refine L4 [] [] tok Z Z Z Z Z Z Z Z (λy u=>C y (zB1 (zCr (zCf u)))) Z Z qB qB Z Z Z Z ?_;refine WW ?_;refine zI [] Z Z ?_ Z
 show AV.sl false (pi ((b.map yA).length-1) (py 1 (b.map yA)))=_
 rw[zA2 CF]
end
def Pi (b:List Int) (hb:BY b) (A:ln b<=1000) (a y:Int) (z: -9223372036854775808<=y/\y<=9223372036854775807):∃q,BY q/\q.length<=ln b+1/\zN 98 [zE yA b,iA a,iA y] [] (zE yA q) []:=by
 have C:=F7 y;by_cases hl:1<=ln b
 case neg=>
  have e:b=[]:=zBv zB;subst e;exact⟨_,λx u=>by rw[zBm]at u;subst u;exact C,by simp,zAe a y z⟩
 have G:=zD2 a (show(ln b:Int)≠0 by omega);have I:=zDk a (show 0<(ln b:Int) by omega);have j0:=zD2 (y.tdiv 256) (show(4:Int)≠0 by omega);have j1:=zDk (y.tdiv 256) (show(0:Int)<4 by omega);have hT:BY (b.take (a % (ln b:Int)).toNat):=λx u=>hb x (zCr u)
 have B:∀n,BY (b.drop n):=λn x u=>hb x (zB1 u)
 have E:(b.take (a % (ln b:Int)).toNat).length<=ln b:=by rw[zBi];omega
 obtain hj|hj|hj|hj:y.tdiv 256 % 4=0\/y.tdiv 256 % 4=1\/y.tdiv 256 % 4=2\/y.tdiv 256 % 4=3:=by omega
 .refine⟨_,λx u=>?_,by rw[zB9];omega,D7 b a y _ hl A z Z hj⟩
  rcases zDu u with h|rfl
  .exact hb x h
  .exact C
 .by_cases h2:a % (ln b:Int)+1=ln b
  .exact⟨_,hT,zB,B7 b a y _ hl A z Z hj h2⟩
  .by_cases h1:1<=a % (ln b:Int)
   .refine⟨_,λx u=>?_,?_,C7 b a y _ hl A z Z hj h1 zB⟩
    .rcases zBe.1 u with h|h
     .exact hT x h
     .exact B _ x h
    .rw[zAx,zBr,zBi];omega
   .exact⟨_,B 1,by rw[zBr];omega,A7 b a y _ hl A z Z hj zB zB⟩
 .refine⟨_,λx u=>?_,?_,zAg b a y _ hl A z Z hj⟩
  .rcases zBe.1 u with h|h
   .rcases zBe.1 h with h|h
    .exact hT x h
    .rw[zBm]at h;subst h;exact C
   .exact B _ x h
  .rw[zAx,zAx,zBr,zBi,zCx];omega
 .exact⟨_,hT,zB,zAf b a y _ hl A z Z hj⟩
theorem IR (I:Nat->α->Prop) (R:Nat->α->α->Prop) (h:∀i a,I i a->∃b,R i a b/\I (i+1) b) (a0:α) (A:I 0 a0):∃f:Nat->α,f 0=a0/\∀i,I i (f i)/\R i (f i) (f (i+1)):=by
 have u:∀i a,∃b,I i a->R i a b/\I (i+1) b:=λi a=>by
  by_cases hi:I i a
  all_goals grind
 let f:Nat->α:=λn=>Nat.rec a0 (λi a=>(u i a).choose) n
 have z:∀i,I i (f i):=λi=>by
  induction i with
  |zero=>exact A
  |succ i B=>exact((u i (f i)).choose_spec B).2
 exact⟨f,rfl,λi=>⟨z i,((u i (f i)).choose_spec (z i)).1⟩⟩
def aZ [Inhabited α] (g:Nat->α->α) (l:List α) (i:Nat):List α:=(List.range (ln l)).map λj=>if j<i then g j (l.getD j dd)else l.getD j dd
theorem wT [Inhabited α] (g:Nat->α->α) (l:List α) (i:Nat):(aZ g l i).length=ln l:=by simp[aZ]
theorem vS [Inhabited α] (g:Nat->α->α) (l:List α) (i j:Nat):(aZ g l i)[j]? =if j<ln l then some (if j<i then g j (l.getD j dd)else l.getD j dd)else none:=by grind [aZ]
theorem qM [Inhabited α] (g:Nat->α->α) (l:List α):aZ g l 0=l:=by apply zB2<;>grind [aZ,vS,p5,List.getElem?_eq_none]
theorem yw [Inhabited α] (g:Nat->α->α) (l:List α) (i:Nat) (hi:i<ln l):aZ g l (i+1)=(aZ g l i).set i (g i (l.getD i dd)):=by
 apply zB2
 grind [aZ]
def vN [Inhabited α] (f:α->AV) (g:Nat->α->α) (l:List α) (i:Nat) (hi:i<ln l):(aZ g l (i+1)).map f=((aZ g l i).map f).set i (f (g i (l.getD i dd))):=by
 rw[yw g l i hi,zCe]
structure In where
 opn:Bool
 its:List It
instance:Inhabited In:=⟨⟨false,[]⟩⟩
instance:Inhabited It:=⟨⟨0,0,[]⟩⟩
def uZ (i:In):AV:= .agg [bA i.opn,zE vO i.its]
structure En where
 ag:Int
 ki:Int
 co:Int
def kF (e:En):AV:=OK e.ag e.ki e.co
structure TS where
 d:wC
 rs:List Ms
 en:List En
 ks:List Int
structure SS where
 d:wC
 R:List (List Ms)
 en:List En
 ks:List Int
def jI (l:List Ms):AV:=zE zX l
def Sy (i:In):Prop:=ln i.its<=1000/\∀x∈i.its,BY x.pay/\x.pay.length<=100000
def v8 (c:Cf) (s f4:Int) (i:It) (a b:TS):Prop:=∃h:Hd,RV c a.d s i f4 h/\My c a.d s i f4 h/\b=⟨h.d,a.rs++[h.p],a.en++[⟨a.d.rg.num,i.kind,h.e⟩],if 0<=h.k then a.ks++[h.k]else a.ks⟩
structure ES (c:Cf) (d0 d:wC):Prop where
 i:qD c d
 n:d.rg.num=d0.rg.num
 a:d.rg.ag=d0.rg.ag
 t:Ya d0 d
theorem ES.refl (h:qD c d):ES c d d:=⟨h,rfl,rfl,Ya.refl d⟩
theorem ES.trans {a b:wC} (h1:ES c a b) (h2:ES c b d):ES c a d:=⟨h2.i,h2.n.trans h1.n,h2.a.trans h1.a,h1.t.trans h2.t⟩
theorem J4 (c:Cf) (s f4:Int) (U:0<=f4) (V:f4<=1073741824) (u:List It) (O:∀x∈u,BY x.pay/\x.pay.length<=100000) (st:TS) (M:qD c st.d):
  ∃f:Nat->TS,f 0=st/\∀k,ES c st.d (f k).d/\((f k).rs.length=ln st.rs+k/\(f k).en.length=ln st.en+k/\(f k).ks.length<=ln st.ks+k/\((∀x∈st.ks,0<=x/\x<(ln c.js:Int))->∀x∈(f k).ks,0<=x/\x<(ln c.js:Int)))/\(k<ln u->v8 c s f4 (u.getD k dd) (f k) (f (k+1))):=by
 have z:∀k,BY (u.getD k dd).pay/\(u.getD k dd).pay.length<=100000:=λk=>by
  by_cases hk:k<ln u
  .grind
  .rw[zA5,zB6 zB]
   show BY ([]:List Int)/\([]:List Int).length<=100000
   grind [BY,v8]
 obtain⟨f,I,E⟩:=IR (λk (a:TS)=>ES c st.d a.d/\(ln a.rs=ln st.rs+k/\a.en.length=ln st.en+k/\a.ks.length<=ln st.ks+k/\((∀x∈st.ks,0<=x/\x<(ln c.js:Int))->∀x∈a.ks,0<=x/\x<(ln c.js:Int)))) (λk a b=>v8 c s f4 (u.getD k dd) a b)
  (λk a C=>by
   obtain⟨C,h1,h2,W,G⟩:=C;obtain⟨h,L,A⟩:=Mi c a.d C.i s f4 U V _ (z k).1 (z k).2;refine⟨_,⟨h,L,A,rfl⟩,C.trans ⟨A.inv,A.num,A.ag,A.t0⟩,?_,?_,?_,λB x z=>?_⟩
   .dsimp only;rw[zAx,zCx];omega
   .dsimp only;rw[zAx,zCx];omega
   .dsimp only;split
    .rw[zAx,zCx];omega
    .omega
   .dsimp only at z;split at z
    .rename_i S
     rcases zBe.1 z with z|z
     .exact G B x z
     .rw[zBm]at z;subst z
      rcases A.rst with h9|⟨_,h8,h9⟩
      .omega
      .exact⟨h8,h9⟩
    .exact G B x z)
  st ⟨ES.refl M,zB,zB,zB,id⟩
 exact⟨f,I,λk=>⟨(E k).1.1,(E k).1.2,λ_=>(E k).2⟩⟩
def dF (u:List In) (s:Nat):List It:=if s<ln u/\(u.getD s dd).opn=true then(u.getD s dd).its else []
def xw (c:Cf) (f4:Int) (u:List In) (s:Nat) (a b:SS):Prop:=∃f:Nat->TS,f 0=⟨a.d,[],a.en,a.ks⟩/\(∀k,k<(dF u s).length->v8 c (s:Int) f4 ((dF u s).getD k dd) (f k) (f (k+1)))/\(∀k,ES c a.d (f k).d/\(f k).rs.length=k/\(f k).en.length=ln a.en+k/\(f k).ks.length<=ln a.ks+k)/\
 b=⟨(f (dF u s).length).d,a.R++[(f (dF u s).length).rs],(f (dF u s).length).en,(f (dF u s).length).ks⟩
theorem IS {u:List In} (h:∀i∈u,Sy i) (s:Nat):(dF u s).length<=1000/\∀x∈dF u s,BY x.pay/\x.pay.length<=100000:=by
 unfold dF;split
 .grind [Sy,dF,BY,List.getElem?_eq_getElem,List.getElem_mem]
 all_goals grind
def ww (c:Cf) (f4:Int) (M:0<=f4) (O:f4<=1073741824) (u:List In) (B:∀i∈u,Sy i) (d:wC) (I:qD c d):
  ∃F:Nat->SS,F 0=⟨d,[],[],[]⟩/\∀s,ES c d (F s).d/\((F s).R.length=s/\(F s).en.length<=1000*s/\(F s).ks.length<=1000*s/\∀x∈(F s).ks,0<=x/\x<(ln c.js:Int))/\xw c f4 u s (F s) (F (s+1)):=by
 obtain⟨F,E,hF⟩:=IR (λs (a:SS)=>ES c d a.d/\(ln a.R=s/\a.en.length<=1000*s/\a.ks.length<=1000*s/\∀x∈a.ks,0<=x/\x<(ln c.js:Int))) (λs a b=>xw c f4 u s a b)
  (λs a A=>by
   obtain⟨A,h1,h2,S,G⟩:=A;obtain⟨hl,hb⟩:=IS B s;obtain⟨f,C,z⟩:=J4 c (s:Int) f4 M O (dF u s) hb ⟨a.d,[],a.en,a.ks⟩ A.i;have hL:=z (dF u s).length;refine⟨_,⟨f,C,λk hk=>(z k).2.2 hk,λk=>⟨(z k).1,by have:=(z k).2.1.1;simpa using this,(z k).2.1.2.1,(z k).2.1.2.2.1⟩,rfl⟩,A.trans hL.1,?_,?_,?_,hL.2.1.2.2.2 G⟩
   .dsimp only;rw[zAx,zCx];omega
   .have:=hL.2.1.2.1;dsimp only at *;omega
   .have:=hL.2.1.2.2.1;dsimp only at *;omega)
  ⟨d,[],[],[]⟩ ⟨ES.refl I,rfl,zBb _,zBb _,λx L=>by cases L⟩
 exact⟨F,E,λs=>⟨(hF s).1.1,(hF s).1.2,(hF s).2⟩⟩
def QH (u:List In) (s:Nat) (b:Bool):Bool:=if s<ln u/\(u.getD s dd).opn=true then b else false
def Oi (u:List In) (l:List Bool):List Bool:=aZ (QH u) l (ln l)
def mq (d:wC) (u:List In):wC:=⟨d.rg,d.rq,d.dr,Oi u d.au⟩
def k8 (h:qD c d) (u:List In):qD c (mq d u):=
 ⟨h.b,h.v,h.q,h.lg,h.a,h.n,h.t8,h.br,h.bb,h.bl,by show((Oi u d.au).length:Int)=_;unfold Oi;rw[wT];exact h.au,h.dn,h.dr,h.vh⟩
def uw (d:wC) (f4:Int):wC:=⟨d.rg,EQ d.rq f4,d.dr,d.au⟩
theorem j8 (h:qD c d) (f4:Int) (u:0<=f4) (z:f4<=1073741824):qD c (uw d f4):=by
 refine⟨h.b,Z7 h.v f4 u z,?_,λr B g A=>?_,h.a,h.n,h.t8,h.br,h.bb,h.bl,h.au,h.dn,h.dr,h.vh⟩
 .show((EQ d.rq f4).length:Int)<=_
  unfold EQ;rw[zAt];exact h.q
 .obtain⟨x,C,rfl⟩:=zCb.1 B;obtain⟨y,E,rfl⟩:=zCb.1 A;obtain⟨e1,G,_⟩:=Wo y f4 u z;have:=h.lg x C y E
  grind
def YL (x:wC):List AV:=[iA x.rg.num,zE yA x.rg.ag.sec,iA x.rg.ag.rights,iA x.rg.ag.cls,zE iA x.rg.ag.lim,iA x.rg.ag.req,iA x.rg.ag.ses,iA x.rg.ag.rate,iA x.rg.ag.burst,zE yP x.rg.tk,zE vC x.rg.vh,iA x.rg.bk.level,iA x.rg.bk.rate,iA x.rg.bk.burst,zE zY x.rq,zE qO x.dr,zE bA x.au]
def qw (d:wC) (R:List (List Ms)) (E:List En) (K:List Int):AV:= .tup [zM d,zE jI R,zE kF E,zE iA K]
def YM {i:Nat} {y:AV} (h:xs[i]? =some y):xs.set i y=xs:=by
 apply zB2;intro j;rw[zD1];by_cases u:i=j
 .subst u;have hi:=(zBk.1 h).1;rw[zAs Z,zAs hi,h]
 .rw[Os u]
def f8 (g:Nat->Bool->Bool) (l:List Bool) (k:Nat):pi (l.map bA).length (py 0 ((aZ g l k).map bA))=(aZ g l k).map bA:=by
 rw[zBf];exact zA2 (by rw[zAt,zAt,wT];exact zAy _)
def tq {g:Nat->Bool->Bool} {l:List Bool} {n:Nat} (h:ln l=n):List.take n (List.drop 0 ((aZ g l k).map bA))=(aZ g l k).map bA:=by
 rw[zBf];exact zA2 (by rw[zAt,wT,h];exact zAy _)
theorem kw (hI:qD c d) (u:List In) (bs:ln u<=1000) (a4:∀i∈u,Sy i) (f4:Int) (n0:0<=f4) (n1:f4<=1073741824) (z:Nat->SS) (ap:z 0=⟨mq d u,[],[],[]⟩)
 (hz:∀s,ES c (mq d u) (z s).d/\((z s).R.length=s/\(z s).en.length<=1000*s/\(z s).ks.length<=1000*s/\∀x∈(z s).ks,0<=x/\x<(ln c.js:Int))/\xw c f4 u s (z s) (z (s+1))):
  zN 56 [wH c,zM d,zE uZ u,iA f4] [] (qw (uw (z (ln d.au)).d f4) (z (ln d.au)).R (z (ln d.au)).en (z (ln d.au)).ks) []:=by
 have br:1<=ln d.au/\d.au.length<=2:=by have:=hI.au;have:=hI.a.e;omega
 have kc:=LL d hI.bd;have bl:=zA bA d.au;have a9:=zA uZ u;have km:=Fu (z (ln d.au)).d.rq f4 (hz (ln d.au)).1.i.v;have Y:wH c= .agg [.sl false (c.js.map wD),.sl false (c.ags.map uF),iA c.per,iA c.cap,iA c.hold,iA c.lock]:=rfl;have bf:∀d:wC,zM d= .agg (YL d):=λ_=>rfl
 rw[Y];unfold XU zM xD at kc;have e0:=qM (QH u) d.au;refine eM call56 λF hF=>?_
 refine zS kc ?_;refine zO (ln d.au) [1004,4,5,8,12] [4,5,8,12] [2,3,4,5,8,12,13,14,15,29] [30,2,3,4,5,8,12,13,14,15,29] Z (λi T U=>⟨(30,iA i)::T,(1004,.arr 1 ((aZ (QH u) d.au i).map bA) false)::U⟩) ?_;(conv=>whnf);refine⟨by(rw[e0];rfl),?_,?_⟩
 .intro i hi;have a7:((aZ (QH u) d.au i).map bA)[i]? =some (bA (d.au.getD i dd)):=by rw[zA1,vS,zAs hi,Os (zDp i)];rfl
  have cd:((aZ (QH u) d.au i).map bA).length=ln d.au:=by rw[zAt,wT]
  rw[vN bA (QH u) d.au i hi];have V:=YM a7;generalize (aZ (QH u) d.au i).map bA=xs,d.au.getD i dd=b9 at *;unfold QH;by_cases h1:i<ln u
  .have hy:=zJ uZ u i h1;generalize u.getD i dd=x at *;obtain⟨op,A⟩:=x;rw[show uZ ⟨op,A⟩= .agg [bA op,zE vO A]from Z]at hy;cases op
   .rw[Os (λh=>by cases h.2)];refine WW ?_;rfl
   .rw[zAs ⟨h1,rfl⟩,V];refine WW ?_;rfl
  .rw[Os (λh=>h1 h.1)];refine WW ?_;rfl
 ·(refine WW ?_)
  refine wJ [4,8,12] [2,3,4,8,12,13,14,15,52,53] Z ?_
  (conv=>whnf)
  rw[f8];refine zQ 13 1001 1 Z Z Z ?_;refine zQ 14 1002 3 Z Z Z ?_;refine zQ 15 1003 1 Z Z Z ?_;refine zO (ln d.au) [12,1001,1002,1003,4,8] [4,8] [2,3,4,8,12,52] [13,14,15,53,2,3,4,8,12,52] Z (λi T U=>⟨(13,.ref 1001 0 ((z i).R.map jI).length)::(14,.ref 1002 0 ((z i).en.map kF).length)::(15,.ref 1003 0 ((z i).ks.map iA).length)::(53,iA i)::T,(12,.box (YL (z i).d))::(1001,.arr 1 ((z i).R.map jI) true)::(1002,.arr 3 ((z i).en.map kF) true)::(1003,.arr 1 ((z i).ks.map iA) true)::U⟩) ?_;(conv=>whnf);refine⟨by(rw[ap];rfl),?_,?_⟩
  .intro s hs;obtain⟨hT,⟨az,a1,a2,_⟩,B,L,G,E,C⟩:=hz s;have b6:(z s).R.length<=2:=by omega
   have ba:(z s).en.length<=2000:=by omega
   have bb:(z s).ks.length<=2000:=by omega
   rw[C];dsimp only;clear ap hz km kc az a1 a2;have b2:=zA jI (z s).R;have b3:=zA kF (z s).en;have b4:=zA iA (z s).ks;by_cases O:s<ln u/\(u.getD s dd).opn=true
   .have I:dF u s=(u.getD s dd).its:=by unfold dF;rw[zAs O]
    have a3:=(IS a4 s).1;rw[I]at G a3⊢;have hy:=zJ uZ u s O.1;obtain⟨cc,a5⟩:=O;generalize u.getD s dd=x at *;obtain⟨op,A⟩:=x;dsimp only at *;subst a5;rw[show uZ ⟨true,A⟩= .agg [bA true,zE vO A]from Z]at hy;have a8:=zA vO A;have M:∀y:List Ms,((z s).R++[y]).map jI=(z s).R.map jI++[jI y]:=λy=>by simp
    rw[M];clear M C I
    (repeat' (first|refine f9 ?_|apply yW|apply xH|intro hc|(apply zG;first|refine SM ?_)|fail))
    apply xB
    (repeat' (first|refine ub ?_|apply yW|apply xH|intro hc|(apply zG;first|refine SM ?_)|fail))
    refine zQ 18 1006 4 Z Z Z ?_;refine WW ?_;refine zU (A) [12,1002,1003,1006,4,8,1001] [4,8,1001] [2,3,4,8,12,13,17,52,53,71,72] [14,15,18,73,2,3,4,8,12,13,17,52,53,71,72] Z (λi ga T U=>⟨(14,.ref 1002 0 ((B i).en.map kF).length)::(15,.ref 1003 0 ((B i).ks.map iA).length)::(18,.ref 1006 0 ((B i).rs.map zX).length)::(73,iA i)::T,(12,.box (YL (B i).d))::(1002,.arr 3 ((B i).en.map kF) true)::(1003,.arr 1 ((B i).ks.map iA) true)::(1006,.arr 4 ((B i).rs.map zX) true)::U⟩) ?_;(conv=>whnf);refine⟨by(rw[L];rfl),?_,?_⟩
    .intro k ga it post hx hk;have a6:=yJ vO hx hk;have ag:=zW hx hk;have S:A.getD k dd=it:=by rw[hx,<-hk];simp[p5]
     obtain⟨h,hB,hP,C⟩:=G k ag;rw[S]at hB;obtain⟨bu,bx,bz,b0⟩:=E k;have b7:=zA kF (B k).en;have ca:=zA iA (B k).ks;have cb:=zA zX (B k).rs;have W:=hB.2.1;rw[C];dsimp only;rw[show((B k).rs++[h.p]).map zX=(B k).rs.map zX++[zX h.p] by simp,show∀e:En,((B k).en++[e]).map kF=(B k).en.map kF++[kF e]from λe=>by simp,S];rw[Y]at W;unfold ET zM xD vO at W;unfold vO at a6;clear hx S C G E hB hP hT;generalize (B k).rs.map zX=ce,(B k).en.map kF=ax,h.p=p9,h.e=e9,h.d=d9 at *;generalize b1:h.k=k9 at *;generalize (B k).d=av at *;obtain⟨pk,pt,pa,pd⟩:=p9;unfold zX OK at W;dsimp only at W;unfold YL kF OK zX;by_cases h0:0<=k9
     .rw[zAs h0,show((B k).ks++[k9]).map iA=(B k).ks.map iA++[iA k9] by simp];generalize (B k).ks.map iA=ar at *;refine zS W ?_;rfl
     .rw[Os h0];generalize (B k).ks.map iA=ar at *;refine zS W ?_;rfl
    ·(repeat' (first|refine ub ?_|apply yW|apply xH|intro hc|(apply zG;first|refine SM ?_)|fail))
     refine wJ [4,8,12,1001,1002,1003] [2,3,4,8,12,13,14,15,18,52,53,74] Z ?_
     (conv=>whnf)
     simp only[zBf,zAv];have b5:((B (ln A)).rs.map zX).length<=2000:=by rw[zAt];have:=(E (ln A)).2.1;omega
     rw[show jI (B (ln A)).rs= .sl false ((B (ln A)).rs.map zX)from Z];clear G E hT L;generalize B (ln A)=zl at *;refine WW ?_;rfl
   .have I:dF u s=[]:=by unfold dF;rw[Os O]
    rw[I,zBz,L];dsimp only;have ac:((z s).R++[([]:List Ms)]).map jI=(z s).R.map jI++[jI []]:=by rw[zA0];rfl
    rw[ac];clear I G E L C hT ac;generalize (z s).R.map jI=r9,(z s).en.map kF=ax,(z s).ks.map iA=ar,(z s).d=av at *;unfold YL;by_cases h1:s<ln u
    .have hy:=zJ uZ u s h1
     have O:(u.getD s dd).opn=false:=by
      cases h:(u.getD s dd).opn with
      |false=>rfl
      |true=>exact absurd ⟨h1,h⟩ O
     generalize u.getD s dd=x at *;obtain⟨op,A⟩:=x;dsimp only at O;subst O;rw[show uZ ⟨false,A⟩= .agg [bA false,zE vO A]from Z]at hy
     (repeat' (first|refine f9 ?_|apply yW|apply xH|intro hc|(apply zG;first|refine SM ?_)|fail))
     apply xB
     (repeat' (first|refine ub ?_|apply yW|apply xH|intro hc|(apply zG;first|refine SM ?_)|fail))
     refine Gn 18 Z Z Z ?_;refine WW ?_;rfl
    ·(repeat' (first|refine f9 ?_|apply yW|apply xH|intro hc|(apply zG;first|refine SM ?_)|fail))
     apply xB
     (repeat' (first|refine ub ?_|apply yW|apply xH|intro hc|(apply zG;first|refine SM ?_)|fail))
     refine Gn 18 Z Z Z ?_;refine WW ?_;rfl
  .generalize bk:z (ln d.au)=Fn at *;unfold YL;refine zS km ?_;refine zI [] Z Z ?_ Z
   show AV.tup [zM (uw Fn.d f4),.sl false (pi _ (py 0 (Fn.R.map jI))),.sl false (pi _ (py 0 (Fn.en.map kF))),.sl false (pi _ (py 0 (Fn.ks.map iA)))]=_
   simp only[zBf,zAv];rfl
section
variable {P:Program} {K0:List Nat} {F:Fr K0} {m:Nat} {tm:List (Nat×AV)} {h:List (Nat×xW)}
theorem wK.recell {a:Act} {w:World} (R:wK F m ⟨tm,h⟩ a w) (k i K:Nat) {ys:List AV} {M:Bool} {Y:Nat} {S:Fl} (hk:zD h k=some (.arr 1 xs ⟨M,true⟩)) (hv:xs[i]? =some (.s (.slice none 0 0))) (hK:zD h K=some (.arr Y ys S)) (ar:K≠k):
  wK F m ⟨tm,(k,.arr 1 (xs.set i (.ref K 0 0)) ⟨M,true⟩)::h⟩ a w:=by
 obtain⟨⟨X,β,hX,H,Ht,G,hJ,hD⟩,nd,gs,hl⟩:=R;have u:∀j,j≠k->zD ((k,.arr 1 (xs.set i (.ref K 0 0)) ⟨M,true⟩)::h) j=zD h j:=λj hj=>by rw[xK,Os hj]
 have L:zD ((k,.arr 1 (xs.set i (.ref K 0 0)) ⟨M,true⟩)::h) k=some (.arr 1 (xs.set i (.ref K 0 0)) ⟨M,true⟩):=by rw[xK,zAs Z]
 have A:(xs.set i (.ref K 0 0)).length=ln xs:=zB9
 have E:EK w (xU X β) (zD h) β w (xU X β) (zD ((k,.arr 1 (xs.set i (.ref K 0 0)) ⟨M,true⟩)::h)) β:=⟨zAy _,λb _ hd=>⟨rfl,hd⟩,λ_ _ _ _=>rfl,λj e C=>by
  by_cases hj:j=k
  .subst hj;rw[hk]at C;cases C;exact .inr ⟨⟨xs.set i (.ref K 0 0),⟨M,true⟩,L,by rw[A];exact zAy _⟩,λb n hm=>⟨n,zAy _,hm⟩⟩
  .have:=jB (zD h) β j e C
   rcases this with h1|h1
   .exact .inl (by rw[u j hj];exact h1)
   .refine .inr ?_
    cases e with
    |dead=>exact h1
    |box cs=>obtain⟨⟨z,h2⟩,I⟩:=h1;exact⟨⟨z,by rw[u j hj];exact h2⟩,I⟩
    |obj cs=>obtain⟨⟨z,h2⟩,I⟩:=h1;exact⟨⟨z,by rw[u j hj];exact h2⟩,I⟩
    |arr W ac st'=>obtain⟨⟨x2,s2,h2,I⟩,h4⟩:=h1;exact⟨⟨x2,s2,by rw[u j hj];exact h2,I⟩,h4⟩⟩
 have H':jM X (zD ((k,.arr 1 (xs.set i (.ref K 0 0)) ⟨M,true⟩)::h)) β w:=by
  refine⟨λj e C=>?_,λj hj=>?_,H.disj,H.free,H.lt⟩
  .by_cases hj:j=k
   .subst hj;rw[L]at C;cases C;obtain⟨e1,e2,e3,e4,e5,f,e6,e7,e8⟩:=H.ent j _ hk;refine⟨e1,by rw[A];exact e2,λB=>e3 λh0=>B (by rw[h0];rfl),λU x B=>?_,λb n r hr=>by rw[A];exact e5 b n r hr,f,λU x l v B O=>⟨?_,λh=>by cases h⟩,λU j' h1 h2=>e7 U j' (by rw[<-A];exact h1) h2,e8⟩
    .rw[zD1]at B;split at B
     .split at B
      .cases B;rfl
      .cases B
     .exact e4 U x B
    .rw [zD1]at B;split at B
     .rename_i ap;subst ap;split at B
      .cases B
       cases l with
       |zero=>
        have au:v= .ref K 0 0:=by simpa [AV.cells]using O.symm
        subst au;have h6:=e6.toV i _ 0 _ hv Z;rw[h6.s_inv];exact .ref0 K 0 Y ys S none (by rw[u K ar];exact hK) (zBb _)
       |succ l=>simp[AV.cells]at O
      .cases B
     .exact(e6.toV U x l v B O).evo E
   .rw[u j hj]at C;exact(H.ent j e C).evo E Z λ_ _ _=>rfl
  .rw[xK]at hj;split at hj
   .cases hj
   .exact H.off j hj
 refine⟨⟨X,β,hX,H',λt=>(Ht t).evo E,⟨λj e C=>?_,G.size,G.keep,G.own,G.pas,G.bs,G.os,G.tape,G.output⟩,hJ,hD⟩,λj=>?_,gs,hl⟩
 .have:=G.knd j e C;by_cases hj:j=k
  .subst hj
   cases e with
   |dead=>exact this
   |box cs=>obtain⟨z,h2⟩:=this;(try dsimp only at h2);rw[hk]at h2;cases h2
   |obj cs=>obtain⟨z,h2⟩:=this;(try dsimp only at h2);rw[hk]at h2;cases h2
   |arr W ac av=>obtain⟨ag,V,h2,I⟩:=this;(try dsimp only at h2);rw[hk]at h2;cases h2;exact⟨_,_,L,by rw[A];exact I⟩
  .cases e with
   |dead=>exact this
   |box cs=>obtain⟨z,h2⟩:=this;exact⟨z,by dsimp only;rw[u j hj];exact h2⟩
   |obj cs=>obtain⟨z,h2⟩:=this;exact⟨z,by dsimp only;rw[u j hj];exact h2⟩
   |arr W ac av=>obtain⟨ag,V,h2,I⟩:=this;exact⟨ag,V,by dsimp only;rw[u j hj];exact h2,I⟩
 .dsimp only;by_cases hj:j=k
  .subst hj;rw[L];intro hd;cases hd
  .rw[u j hj];exact nd j
def VR {c:Code} {Q:Exit->St->Prop} (k i K:Nat) {z ys:List AV} {C:Bool} {B:Nat} {A:Fl} (hk:zD h k=some (.arr 1 xs ⟨C,true⟩)) (hv:xs[i]? =some (.s (.slice none 0 0))) (E:zD h K=some (.arr B ys A)) (u:Nat.beq K k=false) (G:xs.set i (.ref K 0 0)=z)
 (I:uE P F m c ⟨tm,(k,.arr 1 z ⟨C,true⟩)::h⟩ Q):uE P F m c ⟨tm,h⟩ Q:=
 ⟨λa w R=>I.run a w (G▸R.recell k i K hk hv E (λe=>by rw[e,Nat.beq_refl]at u;cases u))⟩
end
