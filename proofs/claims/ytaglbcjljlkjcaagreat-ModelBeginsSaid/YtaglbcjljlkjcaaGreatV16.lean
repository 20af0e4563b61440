/- Part 16. -/
import Derived.Test.YtaglbcjljlkjcaaGreatV15
namespace Go.Proofs.YtaglbcjljlkjcaaGreat.Av
open Tryz
set_option linter.all false
set_option maxRecDepth 4000
set_option maxHeartbeats 8000000
open List renaming length->ln,take->pg,drop->pi,getD->py
open Inhabited renaming default->dd
variable {c:Cf}{xs:List AV}{T e sz:Nat}{x:Operand}{te ti:TI}{α:Type}{d:xU}
theorem Ad (d:Dk):∀i,∀j∈(LM d i).1,∃e,j=MG e
 |0=>λj hj=>by simp[LM]at hj
 |i+1=>λj hj=>by
  simp only[LM,zAy,zA8]at hj
  rcases hj with hj|hj
  .exact Ad d i j hj
  .exact⟨_,hj⟩
def Wl (d:Dk) (r:Int):(GF d r).js=(LM (ad (Qw d)) (J3 d)).1:=by rw[GF,tg]
def ze (d:Dk) (r:Int):(GF d r).ags=(TR (ad (tg d).2) r (nz d)).1:=by rw[GF,mz]
def W5 (d:Dk) (u:Int):1<=(GF d u).js.length/\(GF d u).js.length<=2/\1<=(GF d u).ags.length/\(GF d u).ags.length<=3:=by
 have h1:=yN (Qw d) 2 zB;have h2:=yN (tg d).2 3 zB;rw[Wl,ze,OC,cO];unfold J3 nz;omega
def V5 (d:Dk) (n r:Int) (u:0<=r/\r<=63):ot (wn d n r):=by
 have y:=yN d (3-1+1) zB;have w2:=yN (ad d) (3-1+1) zB;have z:=yN (ad (ad d)) 3 zB;have A:=yN (ad (ad (ad d))) 3 zB;have B:=yN (ad (ad (ad (ad d)))) (3-1+1) zB;have C:=yN (ad (ad (ad (ad (ad d))))) (2-1+1) zB;have E:=yN (ad (ad (ad (ad (ad (ad d)))))) (3-1+1) zB;have G:=yN (nq d) 5 zB;unfold wn;refine⟨by dsimp only;rw[jT];rfl,rfl,λx hx=>?_,u,by dsimp only;omega,by dsimp only;omega,by dsimp only;omega,by dsimp only;omega,by dsimp only;omega⟩;simp only[zBx,List.not_mem_nil,or_false]at hx
 rcases hx with rfl|rfl|rfl|rfl<;>omega
structure E8 (a:Ag) (n:Int):Prop where
 v:ot a
 s:a.sec=eV (1000+n)
 q:1<=a.req/\a.req<=3
 b:1<=a.rate/\a.burst<=7
def U5 (d:Dk) (n r:Int) (u:0<=r/\r<=63):E8 (wn d n r) n:=by
 have y:=yN (ad (ad (ad (ad d)))) (3-1+1) zB;have z:=yN (ad (ad (ad (ad (ad (ad d)))))) (3-1+1) zB;have A:=yN (nq d) 5 zB;exact⟨V5 d n r u,rfl,by unfold wn;dsimp only;omega,by unfold wn;dsimp only;omega⟩
theorem Vl (d:Dk) (r:Int) (u:0<=r/\r<=63):∀i k,k<i->E8 ((TR d r i).1.getD k dd) k/\((TR d r i).1.getD k dd).rights=r
 |0,k,h=>by omega
 | i+1,k,h=>by
  rw[Ll,zAk];by_cases hk:k<i
  .rw[zA9 (by rw[cO];exact hk),<-zAk];exact Vl d r u i k hk
  .obtain rfl:k=i:=by omega
   rw[zBb (by rw[cO];omega),cO,zCz];exact⟨U5 _ _ _ u,rfl⟩
def uz (d:Dk) (r:Int) (u:0<=r/\r<=63) (k:Int) (y:0<=k) (h1:k<((GF d r).ags.length:Int)):E8 ((GF d r).ags.getD k.toNat dd) k/\((GF d r).ags.getD k.toNat dd).rights=r:=by
 rw[ze]at h1⊢;rw[cO]at h1;have:=Vl (ad (tg d).2) r u (nz d) k.toNat zB;rw[show((k.toNat:Nat):Int)=k by omega]at this;exact this
def qz {a:Ag} (hv:ot a) (n:Int) (B:0<=n/\n<4):qB c (TL n a a.ses.toNat):=by
 have E:=hv.e;have G:=hv.q;have hb:=hv.b;have I:=hv.t;have C:=A5 n a hv;have e1:(PD n a).ag=a:=rfl;have z:(PD n a).num=n:=rfl;have e3:(PD n a).tk.length=8:=by simp[PD,de]
 have A:(PD n a).vh=[]:=rfl;have u:(PD n a).bk=⟨a.burst,a.rate,a.burst⟩:=rfl;unfold TL;generalize hN:a.ses.toNat=N;generalize PD n a=r at *;constructor
 .exact C
 .exact⟨λr y=>by simp at y,List.Pairwise.nil,zAn _⟩
 .dsimp only;rw[e1];simp only[zBq];omega
 .intro r y;simp at y
 .dsimp only;rw[e1];exact hv
 .dsimp only;rw[z];exact B
 .exact e3
 .dsimp only;rw[e1,u]
 .dsimp only;rw[e1,u]
 .dsimp only;rw[e1,u];exact⟨hb.1,zCi _⟩
 .dsimp only;rw[e1,zB1];omega
 .simp
 .intro x hx;simp at hx
 .dsimp only;rw[A];simp
def Rw (n:Int) (a:Ag) (hv:ot a):zO 80 [iA n,wP a] [] (zN (TL n a a.ses.toNat)) []/\zO 85 [iA n,wP a] [] (zN (TL n a a.ses.toNat)) []:=by
 have u:=hv.e;have h1:=hv.s;have h2:=hv.l;exact⟨V1 n a a.ses.toNat zB zB zB zB,Gu n a a.ses.toNat zB zB zB zB⟩
def T5 {l:List Tk} (h:JW l) (ga:Int):JW (ZW l ga):=by
 refine⟨by unfold ZW;rw[f7,zBp];exact h.n,λt u=>?_⟩;unfold ZW at u;rw[zBm]at u;obtain⟨j,hj,rfl⟩:=u;rw[zAw]at hj;unfold BD;split
 .exact zAn _
 .rw[zAk,zAu hj,zCo];exact h.s _ (zDy _)
def XT (d:xU) (ga:Int):xU:=⟨Lz d.rg ga,KA d.rq ga,d.dr,d.au⟩
def S5 (h:qB c d) (ga:Int):qB c (XT d ga)/\(XT d ga).rg.ag=d.rg.ag/\(XT d ga).rg.num=d.rg.num:=by
 refine⟨?_,rfl,rfl⟩;have hl:=h.bl;have u:=h.br;have y:=h.bb;have C:=h.a.t;have A:=zBz (λx:Rq=>decide (ga<=x.til)) d.rq;have B:=h.q;refine⟨⟨T5 h.b.tk ga,h.b.s,h.b.l,h.b.v⟩,h.v.filter _,?_,λr u g z=>h.lg r (zDs.1 u).1 g z,h.a,h.n,?_,h.br,h.bb,?_,h.au,h.dn,h.dr,h.vh⟩
 .show((d.rq.filter _).length:Int)<=d.rg.ag.req
  omega
 .show(ZW d.rg.tk ga).length=8
  unfold ZW;rw[f7,zBp,h.t8]
 .show 0<=min (d.rg.bk.level+d.rg.bk.rate) d.rg.bk.burst/\min (d.rg.bk.level+d.rg.bk.rate) d.rg.bk.burst<=d.rg.ag.burst
  omega
def Ul (h:qB c d) (ga:Int):zO 114 [zN d,iA ga] [] (zN (XT d ga)) []:=by
 have z:=TJ d h.bd;have hl:=h.bl;have B:=h.br;have y:=h.bb;have C:=h.a.t;have hb:=h.a.b;have u:=Pt d.rg ga h.b zB;have A:=Im d.rq ga h.v;unfold XT;generalize Lz d.rg ga=r,KA d.rq ga=q at *;unfold zN wG at *;unfold kD at u;refine eM call114 λF hF=>?_
 exact nm (qS z u A)
def Tl (h:qB c d) (ga:Int):zO 55 [zN d,iA ga] [] (zN (XT d ga)) []:=by
 have z:=kB d h.bd;have hl:=h.bl;have B:=h.br;have y:=h.bb;have C:=h.a.t;have hb:=h.a.b;have u:=Pn d.rg ga h.b h.t8 zB;have A:=Qg d.rq ga h.v;unfold XT;generalize Lz d.rg ga=r,KA d.rq ga=q at *;unfold zN wG at *;unfold kD at u;refine eM call55 λF hF=>?_
 exact nm (qS z u A)
def Is (l:List Rq) (M:ln l<=1000) (hb:∀r∈l,ln r.legs<=1000):zO 72 [zE yS l,zE yS l] [] (bA true) []:=by
 have hl:=zA yS l;refine eM call72 λF hF=>?_
 refine WW ?_;refine zU (l) [] [] [1,15,16] [17,1,15,16] Z (λi gd T U=>⟨(17,iA i)::T,U⟩) (Lq ?_ ?_)
 .intro i gd x post hx hi;have L:=zY yS hx hi;have G:=zX hx hi;have I:=hb x (yQ hx);have E:=zA xK x.legs;unfold yS zE at L;refine WW ?_;refine zU (x.legs) [7] [7] [1,7,15,16,17,62,63] [64,1,7,15,16,17,62,63] Z (λi gd T U=>⟨(64,iA i)::T,U⟩) (Lq ?_ ?_)
  .intro k C g A u y;have z:=zY xK u y;have B:=zX u y;unfold xK at z;clear hx u
   (repeat' (first|refine qU ?_|apply yY|apply xN|intro hc|(apply zG;first|refine SF ?_)|fail))
   all_goals (first|rfl|(exfalso;first|(simp[xS]at hc;done)|(revert hc;simp[xS];done)))
  .clear hx;refine WW ?_
   all_goals (first|rfl|(exfalso;first|(simp[xS]at hc;done)|(revert hc;simp[xS];done)))
 .exact mx
def Hs (d:xU) (h:cY d):zO 22 [zN d,zN d] [] (bA true) []:=by
 have z:=Lt d.rg h.rg;have I:=Is d.rq h.q h.g;have hl:=zA uE d.dr;have C:=zA bA d.au;have B:=h.n;have A:=h.a;unfold zN wG at *;unfold kD at z;refine eM call22 λF hF=>?_
 refine yB (xH z I) ?_;refine zU (d.dr) [2,3] [2,3] [2,3,42,43] [44,2,3,42,43] Z (λi gd T U=>⟨(44,iA i)::T,U⟩) (Lq ?_ ?_)
 .intro i gd x post hx hi;have y:=zY uE hx hi;have u:=zX hx hi;have G:=h.e x (yQ hx);have E:=zA yA x;unfold uE zE at y;clear hx;refine WW (I2 (λhc=>?_) λhc=>?_)
  all_goals (first|rfl|(exfalso;first|(simp[xS]at hc;done)|(revert hc;simp[xS];done)))
 ·(refine WW ?_)
  refine zU (d.au) [3] [3] [3,60,61] [62,3,60,61] Z (λi gd T U=>⟨(62,iA i)::T,U⟩) (Lq ?_ ?_)
  .intro i gd x post hx hi;have y:=zY bA hx hi;have u:=zX hx hi;unfold bA at y;clear hx;refine WW (I2 (λhc=>?_) λhc=>?_)
   all_goals (first|rfl|(exfalso;first|(simp[xS]at hc;done)|(revert hc;simp[xS];done)))
  .exact mx
section
variable {P:Program} {K0:List Nat} {F:Fr K0} {m:Nat}
theorem TY.consume {st:St} {a:Act} {w:World} {X:Nat->Prop} {β:uH} (hX:P3 F X) (H:jW X (zD st.h) β w) (Ht:∀t,yF w (xT X β) (zD st.h) β (zL st.tm t) (a.eval (.tmp t))) (y:gQ F (zD st.h) β w) (hJ:∀i,zL st.tm GS= .gh i->F.J i (Uf β) X w) (hD:Bx X F a.defers w)
  (nd:∀k,zD st.h k≠some .dead) (gs:m<=GS) (hl:a.tmps.size=m) (k:Nat) (K ts:List Nat) (hK:K0.all (K.contains ·)=true) (av:K.contains k=false) {w':World} {β':uH} (G:xX X w (zD st.h) β w' (over [(k,.dead)] (zD st.h)) β') {v:AV} {c:Value} (hc:xF w' (xT X β') v c)
  (hg:∀i,v≠ .gh i) (t:Nat) (ht:t<m) {st':St} (Y:restr K ts ⟨st.tm,(k,.dead)::st.h⟩=st'):wV F m ⟨(t,v)::st'.tm,st'.h⟩ (a.put (some t) c) w':=by
 subst Y;have eh:zD ((k,xM.dead)::st.h)=over [(k,.dead)] (zD st.h):=vQ [(k,xM.dead)] st.h;rw[<-eh]at G;obtain⟨H',ag⟩:=G.hok.restr K
 have B:∀j,j∈K->j≠k:=λj hj e=>by
  grind
 have C:∀j,j≠k->zD ((k,xM.dead)::st.h) j=zD st.h j:=λj hj=>by rw[eh];exact aA _ _ hj
 have O:∀j,j∈K->zD ((k,xM.dead)::st.h) j≠some .dead:=λj hj=>by rw[C j (B j hj)];exact nd j
 have M:∀j,j∈K0->j∈K:=λj hj=>by
  grind
 have R:∀b,xT X (λj=>if j∈K then β' j else []) b->xT X β' b:=λb hd=>by
  rcases hd with hx|⟨j,n,u⟩
  .exact .inl hx
  ·(try dsimp only at u)
   split at u
   .exact .inr ⟨j,n,u⟩
   .simp at u
 have ac:GS≠t:=by omega
 refine⟨⟨X,_,hX,H',λj=>?_,⟨λj e z=>?_,zBf y.size G.size,λb hb hi hn=>?_,λj b n u=>?_,λj b n u=>?_,λj b n u=>?_,G.os.trans y.os,G.tape.trans y.tape,G.output.trans y.output⟩,λi hi=>?_,hD.goes H G⟩,λj=>?_,gs,by simp[Act.put,hl]⟩
 .show yF _ _ _ _ (zL ((t,v)::(restr K ts ⟨st.tm,(k,.dead)::st.h⟩).tm) j) _
  rw[xL];split
  .rename_i hj;subst hj;have e:(a.put (some j) c).eval (.tmp j)=c:=by simp[Act.put,Act.eval,hl,ht]
   rw[e];exact .fz _ _ (hc.evo (zAe _) λb _ hd=>⟨rfl,λh=>hd (R b h)⟩)
  .rename_i hj;rw[Act.eval_put (λd hd e=>hj (by injection hd with hd;injection e with e;rw[hd,e])),dO];split
   .exact ag _ _ ((Ht j).evo G.evo)
   .exact .fz _ _ (.bot _)
 .have hj:=M j (F.hh j e z);have h1:=y.knd j e z;have hr:∀V,zD ((k,xM.dead)::st.h) j=some V->zD (vD K (zD ((k,xM.dead)::st.h))) j=some (qD K (zD ((k,xM.dead)::st.h)) V):=λV h2=>by rw[wI,Os hj,h2];rfl
  cases e with
  |dead=>exact h1
  |box cs=>obtain⟨U,h2⟩:=h1;exact⟨_,hr _ ((C j (B j hj)).trans h2)⟩
  |obj cs=>obtain⟨U,h2⟩:=h1;exact⟨_,hr _ ((C j (B j hj)).trans h2)⟩
  |arr sz xs sl=>obtain⟨au,ar,h2,E⟩:=h1;obtain⟨S,I,L,W⟩:=fK K (zD ((k,xM.dead)::st.h)) sz au ar;exact⟨S,I,(hr _ ((C j (B j hj)).trans h2)).trans (by rw[L]),by rw[W];exact E⟩
 .rw[G.keep b (zBg hb y.size),y.keep b hb hi hn];intro j n u
  rcases y.own j b n u with⟨k',A,h1⟩|h1
  all_goals grind
 ·(try dsimp only at u)
  split at u
  .rcases G.own j b n u with⟨k',A,h1⟩|h1
   .exact y.own k' b A h1
   .exact .inr (zBf y.size h1)
  .simp at u
 .have hj:=M j (F.hK j b n u);obtain⟨A,h1,h2⟩:=y.pas j b n u
  (try dsimp only)
  rw[Os hj]
  cases z:zD st.h j with
  |none=>rw[H.off j z]at h2;simp at h2
  | some e=>
   have E:=(G.key j e z).resolve_left (O j hj)
   cases e with
   |dead=>exact E.elim
   |box cs=>exact⟨A,h1,E.2 b A h2⟩
   |obj cs=>exact⟨A,h1,E.2 b A h2⟩
   |arr sz xs fl=>
    obtain⟨ap,L,W⟩:=E.2 b A h2;exact⟨ap,zBf h1 L,W⟩
 .obtain⟨A,_,h2⟩:=y.pas j b n u;rw[G.bs j b A h2,y.bs j b n u]
 .change zL ((t,v)::(restr K ts ⟨st.tm,(k,.dead)::st.h⟩).tm) GS= .gh i at hi
  rw[xL,hW ac,dO]at hi;split at hi
  .have h1:zL st.tm GS= .gh i:=Ac hi;refine F.Jst i _ X w' w' _ (F.go G (hJ i h1)) (zAe _) (λ_ _ _=>rfl) (λb hb=>?_) (λb hb=>?_) Z Z Z
   .obtain⟨j,n,u⟩:=hb
    (try dsimp only at u)
    split at u
    .exact .inl ⟨j,n,u⟩
    .simp at u
   .obtain⟨j,n,u⟩:=hb;exact H'.lt b (.inr ⟨j,n,u⟩)
  .cases hi
 .show zD (vD K (zD ((k,xM.dead)::st.h))) j≠some .dead
  rw[wI];split
  .rename_i hj;intro h;rw[zAo]at h;obtain⟨e,Y,h2⟩:=h
   cases e with
   |dead=>exact O j hj Y
   |box cs=>cases h2
   |obj cs=>cases h2
   |arr a b c=>obtain⟨S,I,L,_⟩:=fK K (zD ((k,xM.dead)::st.h)) a b c;rw[L]at h2;cases h2
  .intro h;cases h
variable {ops:Array Oper} {rest:List Oper} {Q:List FP->St->Prop} {tm:List (Nat×AV)} {h:List (Nat×xM)} {fs fs':List FP} {TT:List TI} {ty:Nat} {pos:String} {after:Array Edge} {t:Nat}
theorem kz (K ts:List Nat) (hP:qI P TT) {k:Nat} {s:Operand} {u:List AV} {fl:Fl} {xv:AV} (hs:yW (zL tm) s= .ref k 0 0) (hk:zD h k=some (.arr sz xs fl)) (hx:yW (zL tm) x=xv) (hT:TT[T]? =some ti) (hd:ti.d= .slice e) (he:TT[e]? =some te) (bx:Oa (zD h) xv=some u)
 (ac:Nat.beq sz te.size=true) (bu:∀y,u[0]? =some y->ln y.cells=sz) (hb:Nat.ble te.bytes 65536=true) (hz:Nat.beq (ln te.zero) te.size=true) (I:1<=ln u) (b3:ln u<=1073741824) (O:Nat.blt t m=true) (hK:K0.all (K.contains ·)=true) (bf:K.contains k=false)
 {st':St} (bs:restr K ts ⟨tm,(k,.dead)::h⟩=st') (hr:yP P F m ops false rest ⟨(t,.sl false u)::st'.tm,st'.h⟩ fs Q):yP P F m ops false (⟨some t,.call ⟨.builtin .append, #[s,x], #[T,T]⟩,ty,pos,after,none⟩::rest) ⟨tm,h⟩ fs Q:=⟨λa w R=>wpListIn_plain Z λKC a5=>by
 obtain⟨⟨X,β,hX,L,Ht,KK,hJ,hD⟩,nd,gs,hl⟩:=R;dsimp only at L Ht KK hJ nd;have h1:=dE (op:= .call ⟨.builtin .append, #[s,x], #[T,T]⟩) (st:=⟨tm,h⟩) Ht (λ_ _=>rfl) (x:=s) gR hs;have h2:=dE (op:= .call ⟨.builtin .append, #[s,x], #[T,T]⟩) (st:=⟨tm,h⟩) Ht (λ_ _=>rfl) (x:=x) gR hx;have ac:=zA3 ac;have hb:=zAq hb;have hz:=zA3 hz;have O:=zAq O;obtain⟨i,z,hu,hi,a3,e1,e2,e3⟩:=vU hP hT hd he;obtain⟨g1,g2,g3,g4,g5,f,g6,g7,g8⟩:=L.ent k _ hk;obtain⟨ad,cap,ax,_,b5,a1⟩:=aD L h2 bx bu;obtain⟨b2,q,M,rfl,hS⟩:=a1 (λh0=>by rw[h0]at I;simp at I);obtain⟨ar,a9⟩:=hS.flat g1
 have av:∀{c w'} (_:(Builtin.append_ #[T,T] ty #[a.eval s,a.eval x]).run P w= .ok c w') {β':uH} (_:xX X w (zD h) β w' (over [(k,.dead)] (zD h)) β') (_:xF w' (xT X β') (.sl false u) c),Oper.wpIn (EP F.ro) 0 P ⟨some t,.call ⟨.builtin .append, #[s,x], #[T,T]⟩,ty,pos,after,none⟩ a w KC (λe a' w'=>e= .normal/\∃st',Q [] st'/\wV F m st' a' w'):=by
  intro c w' A β' G hc;refine WH.wp (N:=λc1 w1=>c1=c/\w1=w') ?_ ?_
  .have:(execOp a.eval ⟨some t,.call ⟨.builtin .append, #[s,x], #[T,T]⟩,ty,pos,after,none⟩).run P w= .ok (.value c) w':=by simp[execOp,resolve,invoke,builtin,A]
   rw[this];exact⟨rfl,rfl⟩
  .rintro _ _ ⟨rfl,rfl⟩;exact a5 _ _ (hr.run _ _ (TY.consume (st:=⟨tm,h⟩) hX L Ht KK hJ hD nd gs hl k K ts hK bf G hc (λi hh=>by cases hh) t O bs))
 have a4:∀{w'},jW X (zD h) β w'->xX X w' (zD h) β w' (over [(k,.dead)] (zD h)) (cT β k []):=λH=>xX.step H k .dead [] (zAe _) (λ_ _ _=>rfl) Z Z Z (λb n O=>by simp at O) (λ_ _ _=>rfl) (λe _=> .inl Z) λ_=>yJ _ _ _
 have ap:∀bd B,a.eval s= .slice bd 0 B->B<ln u->(bd=none->B=0)->Oper.wpIn (EP F.ro) 0 P ⟨some t,.call ⟨.builtin .append, #[s,x], #[T,T]⟩,ty,pos,after,none⟩ a w KC (λe a' w'=>e= .normal/\∃st',Q [] st'/\wV F m st' a' w'):=by
  intro bd B V b4 a6
  have ag:ln u*i.bytes<=140737488355328:=by
   have:=zDo (show (ln u)<=1073741824 by omega) (show i.bytes<=65536 by omega);omega
  have A:(Builtin.append_ #[T,T] ty #[.slice bd 0 B,.slice (some ⟨b2,q,none⟩) (ln u) cap]).run P w= .ok (.slice (some ⟨w.heap.size,0,none⟩) (ln u) (grownCap w (ln u) B e)) (w.drew.alloc (.cells ((flat M (ln u) sz).toArray++Builtin.zeroCells z.cells (grownCap w (ln u) B e-u.length)) e)):=by
   cases bd with
   |none=>
    obtain rfl:=a6 Z;exact run_append_nil (P:=P) w T ty e i z hu hi a3 ⟨b2,q,none⟩ (ln u) cap (flat M (ln u) sz) (by rw[yD,ac,e1]) ar zB zB zB
   |some b0=>
    have:=run_append_grow (P:=P) w T ty e i z hu hi a3 b0 0 B [] yE (λj v h=>by simp at h) ⟨b2,q,none⟩ (ln u) cap (flat M (ln u) sz) (by rw[yD,ac,e1]) ar zB zB (growslice_fits zB (by simpa using ag));simpa using this
  have HD:=L.drew (w.drawn+1);have b6:z.cells.size=ln te.zero:=by rw[<-e3];simp
  have bb:=grownCap_ge w (ln u) B e;have G:=xX.newFz HD ((flat M (ln u) sz).toArray++Builtin.zeroCells z.cells (grownCap w (ln u) B e-u.length)) e
  have hv:=xF.newArr HD ((flat M (ln u) sz).toArray++Builtin.zeroCells z.cells (grownCap w (ln u) B e-u.length)) e sz u (grownCap w (ln u) B e) M g1 (by unfold cD;omega) bb hS.wide
   (λi j hi hj=>by
    rw[zCm (by simp[yD];have:=zA1 sz (show i+1<=ln u by omega);rw[zBl,zCl]at this;omega)]
    simpa using gJ M hi hj) hS.one (λi y j v hy hv=>xF.evo (w:=w) (w':={w with drawn:=w.drawn+1}) (zAe _) (λ_ _ hd=>⟨rfl,hd⟩) (hS.rep.toF Z i y j v hy hv))
  have G2:=xX.trans L (xX.drew L (w.drawn+1)) G;have G3:=a4 G2.hok;exact av (by rw[V,ax];exact A) (xX.trans L G2 G3) (hv.wkF.evo G3.evo.size G3.evo.fz)
 generalize V:a.eval s=cx at h1
 cases h1 with
 |fz _ _ hf=>cases hf
 |dref _ _ _ _ a8 _=>exact absurd a8 (nd k)
 |ref0 _ _ bz b1 st' bd W hn=>exact ap bd 0 V zB (λ_=>rfl)
 | ref _ _ _ bz b1 st' b n B W U hn hc br=>
  rw[hk]at W;cases W;by_cases Y:ln u<=B
  case neg=>exact ap _ B V zB (λh=>by cases h)
  obtain⟨C,el,c1,c2,c3,c4⟩:=g8 b n U
  have a7:C.size=B*sz:=by
   have:wW w b=C.size:=by unfold wW World.shape?;rw[c1];rfl
   rw[<-this,<-br,zBu]
  have az:ln u*sz<=C.size:=by rw[a7];exact zA1 _ Y
  have A:=cV hP hT hd he w ty b 0 0 B C el c1 ⟨b2,q,none⟩ (ln u) cap (flat M (ln u) sz) (by rw[yD,ac]) ar a9 zB (by
   rw[yD,zDh];simpa using az)
  generalize E:(C.toList.take (0+0*te.size)++flat M (ln u) sz++C.toList.drop (0+0*te.size+(flat M (ln u) sz).length)).toArray=S at A;rw[zDh,zBu,zDe,zC7,zBu]at E
  have a2:S.size=C.size:=by
   rw[<-E];simp only[zDi,zAf,zBh,zC8,yD];omega
  have G:=xX.step (w':=w.setRow b S) L k .dead [] yE (λj hj hn=>setRow_other w b j S (λe=>hn n (by rw[e];exact U))) Z Z Z (λb n O=>by simp at O) (λb n _=>qX c1 a2 b) (λe _=> .inl Z) λ_=>yJ _ _ _
  have bk:¬xT X (cT β k []) b:=λhd=>by
   rcases hd with hx|⟨j,n',O⟩
   .exact L.free k b n U hx
   .by_cases au:j=k
    .subst au;rw[yJ]at O;simp at O
    .rw[qN _ _ au]at O;exact au (L.disj _ _ _ _ _ O U)
  refine av (by rw[V,ax,zDh];exact A) G ?_;rw[zBu];have bl:u≠[]:=λh0=>by rw[h0]at I;simp at I
  refine .sl false u b 0 sz B M bl ⟨zBg (L.lt b (.inr ⟨k,n,U⟩)) G.size,bk,g1,by unfold cD;omega,hS.wide,λi j hi hj=>?_,hS.one⟩ Y λi y j v hy hv=>(hS.rep.toF Z i y j v hy hv).evo G.evo.size G.evo.fz
  rw[uI (setRow_heap w _ _ _ _ _ c1),<-E,zBu,zC3,zA9 (by
   rw[yD];have:=zA1 sz (show i+1<=ln u by omega);rw[zBl,zCl]at this
   omega)]
  exact gJ M hi hj⟩
end
def fM (d:Dk):Nat->List Int×Dk
 |0=>([],d)
 |i+1=>((fM d i).1++[nx (fM d i).2 256],ad (fM d i).2)
theorem mb (d:Dk):∀i,(fM d i).1.length=i/\rem (fM d i).2<=rem d/\BY (fM d i).1
 |0=>⟨rfl,zAe _,λx hx=>by cases hx⟩
 |i+1=>by
  obtain⟨h1,h2,u⟩:=mb d i;have z:=wX (fM d i).2;have y:=yN (fM d i).2 256 zB;refine⟨by simp only[fM,zAf,zAp,zBq];omega,by simp only[fM];omega,?_⟩;simp only[fM];intro x hx
  rcases zAy.1 hx with hx|hx
  .exact u x hx
  .rw[zA8]at hx;subst hx;exact y
def Sl (d:Dk) (n:Int) (L:0<=n) (h1:n<=1000):zO 163 [.ptr 1000 0 0,iA n] [(1000,cB d)] (zE yA (fM (ad d) (nx d (n+1)).toNat).1) [(1000,cB (fM (ad d) (nx d (n+1)).toNat).2)]:=by
 have A:=yR d (n+1) zB zB;have I:=yN d (n+1) zB;generalize nx d (n+1)=k,ad d=u at *;obtain⟨N,hN⟩:∃N:Nat,k.toNat=N:=⟨_,rfl⟩;have z:k=(N:Int):=by omega
 rw[hN];subst z;refine eM call163 λF hF=>?_
 refine zP A ?_;refine zW 5 1001 1 Z Z Z ?_;refine zM (N) [1000,1001] [] [0] [5,6,0] Z (λi T U=>⟨(5,.ref 1001 0 ((fM u i).1.map yA).length)::(6,iA ((N:Int)-i))::T,(1000,cB (fM u i).2)::(1001,.arr 1 ((fM u i).1.map yA) true)::U⟩) ?_;(conv=>whnf);refine⟨by(rw[show(N:Int)-(0:Nat)=N by omega];rfl),?_,?_⟩
 .intro i hi;have hl:=(mb u i).1;have B:fM u (i+1)=((fM u i).1++[nx (fM u i).2 256],ad (fM u i).2):=rfl;rw[show((N:Int)-((i+1:Nat):Int))=(N:Int)-i-1 by omega];generalize (fM u i).1=p at *;generalize (fM u i).2=e at *;have C:1<=(N:Int)-i:=by omega
  have E:(N:Int)-i<=1001:=by omega
  have M:ln p<=1001:=by omega
  generalize (N:Int)-i=q at *;have G:=yR e 256 zB zB;have O:=yN e 256 zB;rw[B];generalize nx e 256=y,ad e=e1 at *;refine zP G ?_
  show restr _ _ _=_
  rw[zAd];rfl
 .rw[show(N:Int)-(N:Int)=0 by omega];refine WW ?_;exact zH [1000] Z Z (zAt (AV.sl false) zAa) Z
theorem Rl:∀(f:Nat) (n:Int),0<=n->n<128 ^ (f+1)->BY (Tb f n)
 |0,n,u,h1=>λx hx=>by
  rw[Tb,zA8]at hx;subst hx;simp at h1;omega
 | f+1,n,u,h1=>λx hx=>by
  rw[Tb]at hx;split at hx
  .rw[zA8]at hx;subst hx;omega
  .rcases zBx.1 hx with rfl|hx
   .omega
   .exact Rl f (n/128) zB (Sb h1) x hx
theorem GE {n:Int} (u:0<=n) (h1:n<=4294967295):BY (jI n):=Rl 4 n u zB
theorem Ql (u A:Nat) (c:Int) (hc:0<=c/\c<256):∀(l:List Int) (i:Nat),SY l->BY (aV u A c i l)
 | [],_,_=>λx hx=>by cases hx
 | y::l,i,h=>λx hx=>by
  rw[aV]at hx
  rcases zAy.1 hx with hx|hx
  .split at hx
   .rw[zA8]at hx;subst hx;exact hc
   .cases hx
  .rcases zAy.1 hx with hx|hx
   .have:=h y yE;exact GE this.1 this.2 x hx
   .exact Ql u A c hc l (i+1) (λz B=>h z (by simp[B])) x hx
def jz (m:Ms) (h:Zz m) (n:Nat) (M:n<=2) (I:wK m.kind≠0->1<=n) (z:ln m.args=uD m.kind+n*wK m.kind):∃p,BY p/\p.length<=200/\p=eP (uD m.kind) (wK m.kind) n m/\zO 21 [yO m] [] (.tup [zE yA p,iA 0]) []:=by
 have y:=MI m.kind h.k.1 h.k.2 m n Z h.l (by rw[h.d];simp) h.n z zB;have L:=GJ m.kind;have A:=GI m.kind
 have B:n*wK m.kind<=8:=by rcases A with e|e|e<;>rw[e]<;>omega
 have G:=YS m.kind h.k.1 h.k.2 m n Z h.l (by rw[h.d];simp) h.n zB (λ_=>z) zB
 have hv:qq (wK m.kind) n m.data=true:=by
  unfold qq;rw[zAg,h.d];exact⟨rfl,by by_cases u:wK m.kind=0;exact .inl u;exact .inr (I u)⟩
 rw[hv]at y;have E:=GH (uD m.kind) (wK m.kind) n m.args 0;have C:=h.l;refine⟨eP (uD m.kind) (wK m.kind) n m,λx hx=>?_,?_,rfl,?_⟩
 .unfold eP at hx;rw[h.d]at hx
  rcases zAy.1 hx with hx|hx
  .rcases zAy.1 hx with hx|hx
   .exact h.t x hx
   .exact Ql _ _ _ zB _ _ h.n x hx
  .rw[zA6]at hx;split at hx
   .rw[zA8]at hx;omega
   .cases hx
 .unfold eP;rw[h.d,zA6,zAf,zAf]
  have:(if wK m.kind≠0/\m.args.length=uD m.kind then [(0:Int)]else []).length<=1:=by split<;>simp
  omega
 .generalize eP (uD m.kind) (wK m.kind) n m=p at *;refine eM call21 λF hF=>?_
  exact ng (xH y G)
def gz (m:Ms) (h:Zz m):∃p,BY p/\p.length<=200/\zO 21 [yO m] [] (.tup [zE yA p,iA 0]) []:=by
 obtain⟨n,y,z,A⟩:=h.c;obtain⟨p,h1,h2,_,u⟩:=jz m h n y z A;exact⟨p,h1,h2,u⟩
def R5 (y:Int):0<=IntKind.u8.wrap y/\IntKind.u8.wrap y<256:=by
 unfold IntKind.wrap;simp[IntKind.signed,IntKind.bits];omega
section
variable {P:Program} {TT:List TI} {st:St}
def Pl (hP:qI P TT) {k off len:Nat} {s:Operand} {fl:Fl} {S:AV} (hs:yW (zL st.tm) s= .ref k off len) (hk:zD st.h k=some (.arr sz xs fl)) (hx:yW (zL st.tm) x=S) (hT:TT[T]? =some ti) (hd:ti.d= .slice e) (he:TT[e]? =some te) (M:Oa (zD st.h) S=some []):
  wZ P st (.call ⟨.builtin .append, #[s,x], #[T,T]⟩) (.ref k off len) [] (k::LI S) []:=by
 refine⟨?_⟩;intro X tm h W hr _ o a w β Y U V;obtain⟨d0,o0,y0,p0,f0,g0⟩:=o;dsimp only at Y;subst Y;have hk':=(hr k yE).trans hk;have h1:=dE V W (x:=s) gR hs;have h2:=dE V W (x:=x) gR hx;obtain⟨ad,cap,z,_⟩:=aD U h2 ((dF λk' hk=>hr k' (by simp[hk])).trans M) (sz:=0) (λy hy=>by cases hy)
 have L:∃E u,a.eval s= .slice E len u/\len<=u:=by
  generalize a.eval s=cx at h1
  cases h1 with
  |fz _ _ hf=>cases hf
  |dref _ _ _ _ hd _=>rw[hk']at hd;cases hd
  |ref0 _ _ O R st' b B hn=>exact⟨_,0,rfl,zAe _⟩
  |ref _ _ _ O R st' b n u B ac hn hc ag=>exact⟨_,u,rfl,hc⟩
 obtain⟨E,u,A,G⟩:=L;have C:=jY hP hT hd he w y0 E ad len u cap G
 have I:(execOp a.eval ⟨d0,.call ⟨.builtin .append, #[s,x], #[T,T]⟩,y0,p0,f0,g0⟩).run P w= .ok (.value (.slice E len u)) w:=by
  rw[zBq]at z;simp[execOp,resolve,invoke,builtin,A,z,C]
 rw[I,ZH];exact⟨β,xX.refl U,by rw[A]at h1;exact h1⟩
end
section
variable {P:Program} {TT:List TI} {K0:List Nat} {F:Fr K0} {m:Nat} {ops:Array Oper} {rest:List Oper} {Q:List FP->St->Prop} {tm:List (Nat×AV)} {h:List (Nat×xM)} {dr:Bool} {fs:List FP}
variable {ty:Nat} {pos:String} {after:Array Edge} {t:Nat}
def ye (z:qI P TT) {u len:Nat} {l:Operand} {E:Fl} {k:IntKind} {i:Int} (hx:yW (zL tm) x= .ref u 0 len) (hk:zD h u=some (.arr sz xs E)) (hl:yW (zL tm) l= .s (.int k i)) (hT:TT[T]? =some ti) (hd:ti.d= .slice e) (A:TT[e]? =some te)
 (y:Nat.beq sz te.size=true) (G:0<=i) (h1:i<=len) (B:Nat.blt t m=true) (C:yP P F m ops dr rest ⟨(t,.ref u 0 i.toNat)::tm,h⟩ (⟨true,[],[u]⟩::fs) Q):
  yP P F m ops dr (⟨some t,.slice T x none (some l) none,ty,pos,after,none⟩::rest) ⟨tm,h⟩ fs Q:=by
 have:=cU (P:=P) (st:=⟨tm,h⟩) (lo:=none) (hi:=some l) (l:=0) (r:=i.toNat) z hx hk hT hd A Z ⟨k,i,hl,zB⟩ (zAn _) zB y;rw[zFs]at this;exact wO this B C
end
theorem Q5 {y:Int} (h: -9223372036854775808<=y/\y<=9223372036854775807):bZ .i64 (y.tdiv 256):=by grind [bZ]
def D8 (a y:Int) (u: -9223372036854775808<=y/\y<=9223372036854775807):zO 98 [zE yA [],iA a,iA y] [] (zE yA [IntKind.u8.wrap y]) []:=by
 refine eM call98 λF hF=>?_
 exact ny
section
variable (b:List Int) (a y k:Int) (hl:1<=ln b) (hn:ln b<=1000) (h0: -9223372036854775808<=y/\y<=9223372036854775807) (hk:a % (ln b:Int)=k)
include hl hn h0 hk
theorem JP (j:Int) (hj:y.tdiv 256 % 4=j):(b.map yA).length=ln b/\zO 11 [iA a,iA (((b.map yA).length:Nat):Int)] [] (iA k) []/\zO 11 [iA (y.tdiv 256),iA 4] [] (iA j) []/\bZ .i64 (y.tdiv 256)/\0<=k/\k<(ln b:Int):=by
 have u:=zA yA b;have B:=JZ a (ln b:Int) zB zB;have C:=JZ (y.tdiv 256) 4 zB zB;have z:=zCx a (show(ln b:Int)≠0 by omega);have A:=zCq a (show 0<(ln b:Int) by omega);rw[hk]at B z A;rw[hj]at C;exact⟨u,by rw[u];exact B,C,Q5 h0,z,A⟩
def C8 (hj:y.tdiv 256 % 4=3):zO 98 [zE yA b,iA a,iA y] [] (zE yA (b.take k.toNat)) []:=by
 obtain⟨A,u,z,B,C,E⟩:=JP b a y k hl hn h0 hk 3 hj;clear hk hj;unfold zE;refine eM call98 λF hF=>?_
 exact nm (xH u z)
def B8 (hj:y.tdiv 256 % 4=2):zO 98 [zE yA b,iA a,iA y] [] (zE yA (b.take k.toNat++[IntKind.u8.wrap y]++b.drop k.toNat)) []:=by
 obtain⟨A,u,z,C,E,G⟩:=JP b a y k hl hn h0 hk 2 hj;clear hk hj;have e:zE yA (b.take k.toNat++[IntKind.u8.wrap y]++b.drop k.toNat)= .sl false ((b.take k.toNat).map yA++[yA (IntKind.u8.wrap y)]++(b.drop k.toNat).map yA):=by rw[zE,zAd,zAd];rfl
 rw[e];unfold zE;have B:(b.take k.toNat).length=k.toNat:=by rw[zA0];omega
 refine eM call98 λF hF=>?_
 (have gt:=u;have gv:=z;(repeat' (first|refine WYX ?_|apply yY|apply xN|intro hc|(apply zG;first|refine SL ?_)|refine SB ?_|fail))<;>clear gt gv)
 (repeat' (first|refine gM ?_|apply yY|apply xN|intro hc|(apply zG;first|(apply yL;refine wQ tok Z Z ?_)|(apply yI;refine xB 1001 tok Z Z Z Z Z Z (yG _ _ (λ_=>rfl)) Z Z Z (by first|omega|(simp;omega)) Z Z Z ?_))|refine SB ?_|fail))
 exact zH [] Z Z (zAt (AV.sl false) zAa) Z
def P5 (hj:y.tdiv 256 % 4=0):zO 98 [zE yA b,iA a,iA y] [] (zE yA (b.set k.toNat (IntKind.u8.wrap y))) []:=by
 obtain⟨A,u,z,E,B,C⟩:=JP b a y k hl hn h0 hk 0 hj;clear hk hj;have e:zE yA (b.set k.toNat (IntKind.u8.wrap y))= .sl false ((b.map yA).set k.toNat (yA (IntKind.u8.wrap y))):=by rw[zE,zBt]
 rw[e];have G:=yC yA b k B C;unfold zE;refine eM call98 λF hF=>?_
 (have gt:=u;have gv:=z;(repeat' (first|refine qU ?_|apply yY|apply xN|intro hc|(apply zG;first|(apply yI;refine xB 1001 tok Z Z Z Z Z Z (yG _ _ (λ_=>rfl)) Z Z Z zB Z Z Z ?_))|fail))<;>clear gt gv)
 exact zH [] Z Z (zAt (AV.sl false) (by rw[zAr];exact zAl yE)) Z
def O5 (hj:y.tdiv 256 % 4=1) (h1:1<=k) (h2:k+1<ln b):zO 98 [zE yA b,iA a,iA y] [] (zE yA (b.take k.toNat++b.drop (k.toNat+1))) []:=by
 obtain⟨E,A,B,G,I,L⟩:=JP b a y k hl hn h0 hk 1 hj;clear hk hj
 have C:∀y∈b.map yA,ln y.cells=1:=λy u=>by
  rw[zBm]at u;obtain⟨z,_,rfl⟩:=u;rfl
 have e:zE yA (b.take k.toNat++b.drop (k.toNat+1))= .sl false ((b.map yA).take k.toNat++(b.map yA).drop (k.toNat+1)):=by rw[zE,zAd,zDk,zC4]
 rw[e];unfold zE;refine eM call98 λF hF=>?_
 (have gt:=A;have gv:=B;(repeat' (first|refine Az ?_|apply yY|apply xN|intro hc|(apply zG;first|(apply yI;refine xB 1001 tok Z Z Z Z Z Z (yG _ _ (λ_=>rfl)) Z Z Z zB Z Z Z ?_))|fail))<;>clear gt gv)
 apply xE
 (repeat' (first|refine qU ?_|apply yY|apply xN|intro hc|(apply zG;first|(apply aN;first|refine YZ tok Z Z Z Z Z Z Z zB zB Z ?_|refine ye tok Z Z Z Z Z Z Z zB zB Z ?_)|(apply yI;refine yu tok Z Z Z Z Z Z Z Z (λy u=>C y (zBo (zB6 (zB5 u)))) qM zB qM zB Z Z ?_))|fail))
 refine zH [] Z Z (zAt (AV.sl false) ?_) Z
 have hv:pg ((b.map yA).length-(k+1).toNat) (pi (k+1).toNat (b.map yA))=pi (k.toNat+1) (b.map yA):=by
  rw[show(k+1).toNat=k.toNat+1 by omega];exact zAl EY
 rw[hv,zAr];exact List.take_left' (by rw[zAf,zA0];omega)
def N5 (hj:y.tdiv 256 % 4=1) (h2:k+1=ln b):zO 98 [zE yA b,iA a,iA y] [] (zE yA (b.take k.toNat)) []:=by
 obtain⟨A,u,z,B,C,E⟩:=JP b a y k hl hn h0 hk 1 hj;clear hk hj;have e:zE yA (b.take k.toNat)= .sl false ((b.map yA).take k.toNat):=by rw[zE,zDk]
 rw[e]
 have hv:((b.map yA).drop (k+1).toNat).take ((b.map yA).length-(k+1).toNat)=[]:=by
  rw[show(b.map yA).length-(k+1).toNat=0 by omega,zDe]
 unfold zE;refine eM call98 λF hF=>?_
 (have gt:=u;have gv:=z;(repeat' (first|refine Az ?_|apply yY|apply xN|intro hc|(apply zG;first|(apply yI;refine xB 1001 tok Z Z Z Z Z Z (yG _ _ (λ_=>rfl)) Z Z Z zB Z Z Z ?_))|fail))<;>clear gt gv)
 apply xE
 (repeat' (first|refine qU ?_|apply yY|apply xN|intro hc|(apply zG;first|(apply aN;first|refine YZ tok Z Z Z Z Z Z Z zB zB Z ?_|refine ye tok Z Z Z Z Z Z Z zB zB Z ?_)|(apply yI;refine wO (Pl tok Z Z Z Z Z Z ((zAt some hv:some _=_))) Z ?_))|fail))
 exact zI
def M5 (hj:y.tdiv 256 % 4=1) (h2:k=0) (G:1<ln b):zO 98 [zE yA b,iA a,iA y] [] (zE yA (b.drop 1)) []:=by
 obtain⟨E,A,B,I,L,M⟩:=JP b a y k hl hn h0 hk 1 hj;subst h2;clear hk hj
 have C:∀y∈b.map yA,ln y.cells=1:=λy u=>by
  rw[zBm]at u;obtain⟨z,_,rfl⟩:=u;rfl
 have e:zE yA (b.drop 1)= .sl false ((b.map yA).drop 1):=by rw[zE,zC4]
 rw[e];unfold zE;refine eM call98 λF hF=>?_
 (have gt:=A;have gv:=B;(repeat' (first|refine Az ?_|apply yY|apply xN|intro hc|(apply zG;first|(apply yI;refine xB 1001 tok Z Z Z Z Z Z (yG _ _ (λ_=>rfl)) Z Z Z zB Z Z Z ?_))|fail))<;>clear gt gv)
 apply xE
 (repeat' (first|refine WS ?_|refine SG (I2 (λhc=>?_) λhc=>?_)|refine SG λhc=>?_|(apply zG;first|(apply aN;first|refine YZ tok Z Z Z Z Z Z Z zB zB Z ?_|refine Te tok Z Z Z Z Z Z Z Z ?_))|(first|refine pe 7 9 Z Z ?_|first|refine SR ?_|refine SK (I2 (λhc=>?_) λhc=>?_)|refine SK λhc=>?_|fail)|fail))
 refine Fm vA ?_;refine kz [] [] tok Z Z Z Z Z Z Z Z (λy u=>C y (zBo (zB6 (zB5 u)))) Z Z qM qM Z Z Z Z ?_;refine WW ?_;refine zH [] Z Z ?_ Z
 show AV.sl false (pg ((b.map yA).length-1) (pi 1 (b.map yA)))=_
 rw[zAl EY]
end
def og (b:List Int) (hb:BY b) (z:ln b<=1000) (a y:Int) (u: -9223372036854775808<=y/\y<=9223372036854775807):∃q,BY q/\q.length<=ln b+1/\zO 98 [zE yA b,iA a,iA y] [] (zE yA q) []:=by
 have B:=R5 y;by_cases hl:1<=ln b
 case neg=>
  have e:b=[]:=zA5 zB;subst e;exact⟨_,λx hx=>by rw[zA8]at hx;subst hx;exact B,by simp,D8 a y u⟩
 have E:=zCx a (show(ln b:Int)≠0 by omega);have G:=zCq a (show 0<(ln b:Int) by omega);have j0:=zCx (y.tdiv 256) (show(4:Int)≠0 by omega);have j1:=zCq (y.tdiv 256) (show(0:Int)<4 by omega);have hT:BY (b.take (a % (ln b:Int)).toNat):=λx hx=>hb x (zB6 hx)
 have A:∀n,BY (b.drop n):=λn x hx=>hb x (zBo hx)
 have C:(b.take (a % (ln b:Int)).toNat).length<=ln b:=by rw[zA0];omega
 obtain hj|hj|hj|hj:y.tdiv 256 % 4=0\/y.tdiv 256 % 4=1\/y.tdiv 256 % 4=2\/y.tdiv 256 % 4=3:=by omega
 .refine⟨_,λx hx=>?_,by rw[zBn];omega,P5 b a y _ hl z u Z hj⟩
  rcases zC1 hx with h|rfl
  .exact hb x h
  .exact B
 .by_cases h2:a % (ln b:Int)+1=ln b
  .exact⟨_,hT,zB,N5 b a y _ hl z u Z hj h2⟩
  .by_cases h1:1<=a % (ln b:Int)
   .refine⟨_,λx hx=>?_,?_,O5 b a y _ hl z u Z hj h1 zB⟩
    .rcases zAy.1 hx with h|h
     .exact hT x h
     .exact A _ x h
    .rw[zAf,zBh,zA0];omega
   .exact⟨_,A 1,by rw[zBh];omega,M5 b a y _ hl z u Z hj zB zB⟩
 .refine⟨_,λx hx=>?_,?_,B8 b a y _ hl z u Z hj⟩
  .rcases zAy.1 hx with h|h
   .rcases zAy.1 h with h|h
    .exact hT x h
    .rw[zA8]at h;subst h;exact B
   .exact A _ x h
  .rw[zAf,zAf,zBh,zA0,zCf];omega
 .exact⟨_,hT,zB,C8 b a y _ hl z u Z hj⟩
theorem Ol (I:Nat->α->Prop) (R:Nat->α->α->Prop) (h:∀i a,I i a->∃b,R i a b/\I (i+1) b) (a0:α) (z:I 0 a0):∃f:Nat->α,f 0=a0/\∀i,I i (f i)/\R i (f i) (f (i+1)):=by
 have u:∀i a,∃b,I i a->R i a b/\I (i+1) b:=λi a=>by
  by_cases hi:I i a
  all_goals grind
 let f:Nat->α:=λn=>Nat.rec a0 (λi a=>(u i a).choose) n
 have y:∀i,I i (f i):=λi=>by
  induction i with
  |zero=>exact z
  |succ i A=>exact((u i (f i)).choose_spec A).2
 exact⟨f,rfl,λi=>⟨y i,((u i (f i)).choose_spec (y i)).1⟩⟩
def Gs (l:List Int) (hl:ln l<=9223372036854775807):zO 32 [zE yA l] [] (bA (decide (ln l<=600))) []:=by
 have u:=zA yA l;by_cases h:ln l<=600
 .rw[zAc h];refine eM call32 λF hF=>?_
  exact mx
 .rw[zAb h];refine eM call32 λF hF=>?_
  exact mx
def QI [Inhabited α] (g:Nat->α->α) (l:List α) (i:Nat):List α:=(List.range (ln l)).map λj=>if j<i then g j (l.getD j dd)else l.getD j dd
theorem vI [Inhabited α] (g:Nat->α->α) (l:List α) (i:Nat):(QI g l i).length=ln l:=by simp[QI]
theorem uJ [Inhabited α] (g:Nat->α->α) (l:List α) (i j:Nat):(QI g l i)[j]? =if j<ln l then some (if j<i then g j (l.getD j dd)else l.getD j dd)else none:=by grind [QI]
theorem kC [Inhabited α] (g:Nat->α->α) (l:List α):QI g l 0=l:=by apply zBe<;>grind [QI,uJ,py,List.getElem?_eq_none]
theorem Fs [Inhabited α] (g:Nat->α->α) (l:List α) (i:Nat) (hi:i<ln l):QI g l (i+1)=(QI g l i).set i (g i (l.getD i dd)):=by
 apply zBe
 grind [QI]
def uC [Inhabited α] (f:α->AV) (g:Nat->α->α) (l:List α) (i:Nat) (hi:i<ln l):(QI g l (i+1)).map f=((QI g l i).map f).set i (f (g i (l.getD i dd))):=by
 rw[Fs g l i hi,zBt]
structure In where
 opn:Bool
 its:List It
instance:Inhabited In:=⟨⟨false,[]⟩⟩
instance:Inhabited It:=⟨⟨0,0,[]⟩⟩
def fZ (i:In):AV:= .agg [bA i.opn,zE cF i.its]
structure En where
 ag:Int
 ki:Int
 co:Int
def bM (e:En):AV:=Se e.ag e.ki e.co
structure TS where
 d:xU
 rs:List Ms
 en:List En
 ks:List Int
structure SS where
 d:xU
 R:List (List Ms)
 en:List En
 ks:List Int
def jC (l:List Ms):AV:=zE yO l
def M3 (i:In):Prop:=ln i.its<=1000/\∀x∈i.its,BY x.pay/\x.pay.length<=100000
def L5 (c:Cf) (s ga:Int) (i:It) (a b:TS):Prop:=∃h:Hd,RI c a.d s i ga h/\Dw c a.d s i ga h/\b=⟨h.d,a.rs++[h.p],a.en++[⟨a.d.rg.num,i.kind,h.e⟩],if 0<=h.k then a.ks++[h.k]else a.ks⟩
structure za (c:Cf) (d0 d:xU):Prop where
 i:qB c d
 n:d.rg.num=d0.rg.num
 a:d.rg.ag=d0.rg.ag
 t:BQ d0 d
theorem za.refl (h:qB c d):za c d d:=⟨h,rfl,rfl,BQ.refl d⟩
theorem za.trans {a b:xU} (h1:za c a b) (h2:za c b d):za c a d:=⟨h2.i,h2.n.trans h1.n,h2.a.trans h1.a,h1.t.trans h2.t⟩
theorem dz (c:Cf) (s ga:Int) (O:0<=ga) (R:ga<=1073741824) (u:List It) (L:∀x∈u,BY x.pay/\x.pay.length<=100000) (st:TS) (I:qB c st.d):
  ∃f:Nat->TS,f 0=st/\∀k,za c st.d (f k).d/\((f k).rs.length=ln st.rs+k/\(f k).en.length=ln st.en+k/\(f k).ks.length<=ln st.ks+k/\((∀x∈st.ks,0<=x/\x<(ln c.js:Int))->∀x∈(f k).ks,0<=x/\x<(ln c.js:Int)))/\(k<ln u->L5 c s ga (u.getD k dd) (f k) (f (k+1))):=by
 have hx:∀k,BY (u.getD k dd).pay/\(u.getD k dd).pay.length<=100000:=λk=>by
  by_cases hk:k<ln u
  .grind
  .rw[zAk,zBj zB]
   show BY ([]:List Int)/\([]:List Int).length<=100000
   grind [BY,L5]
 obtain⟨f,E,B⟩:=Ol (λk (a:TS)=>za c st.d a.d/\(ln a.rs=ln st.rs+k/\a.en.length=ln st.en+k/\a.ks.length<=ln st.ks+k/\((∀x∈st.ks,0<=x/\x<(ln c.js:Int))->∀x∈a.ks,0<=x/\x<(ln c.js:Int)))) (λk a b=>L5 c s ga (u.getD k dd) a b)
  (λk a A=>by
   obtain⟨A,h1,h2,S,C⟩:=A;obtain⟨h,G,y⟩:=zh c a.d A.i s ga O R _ (hx k).1 (hx k).2;refine⟨_,⟨h,G,y,rfl⟩,A.trans ⟨y.inv,y.num,y.ag,y.t0⟩,?_,?_,?_,λz x hx=>?_⟩
   .dsimp only;rw[zAf,zCf];omega
   .dsimp only;rw[zAf,zCf];omega
   .dsimp only;split
    .rw[zAf,zCf];omega
    .omega
   .dsimp only at hx;split at hx
    .rename_i M
     rcases zAy.1 hx with hx|hx
     .exact C z x hx
     .rw[zA8]at hx;subst hx
      rcases y.rst with h9|⟨_,h8,h9⟩
      .omega
      .exact⟨h8,h9⟩
    .exact C z x hx)
  st ⟨za.refl I,zB,zB,zB,id⟩
 exact⟨f,E,λk=>⟨(B k).1.1,(B k).1.2,λ_=>(B k).2⟩⟩
def SW (u:List In) (s:Nat):List It:=if s<ln u/\(u.getD s dd).opn=true then(u.getD s dd).its else []
def cz (c:Cf) (ga:Int) (u:List In) (s:Nat) (a b:SS):Prop:=∃f:Nat->TS,f 0=⟨a.d,[],a.en,a.ks⟩/\(∀k,k<(SW u s).length->L5 c (s:Int) ga ((SW u s).getD k dd) (f k) (f (k+1)))/\(∀k,za c a.d (f k).d/\(f k).rs.length=k/\(f k).en.length=ln a.en+k/\(f k).ks.length<=ln a.ks+k)/\
 b=⟨(f (SW u s).length).d,a.R++[(f (SW u s).length).rs],(f (SW u s).length).en,(f (SW u s).length).ks⟩
theorem Nl {u:List In} (h:∀i∈u,M3 i) (s:Nat):(SW u s).length<=1000/\∀x∈SW u s,BY x.pay/\x.pay.length<=100000:=by
 unfold SW;split
 .grind [M3,SW,BY,List.getElem?_eq_getElem,List.getElem_mem]
 all_goals grind
def Es (c:Cf) (ga:Int) (L:0<=ga) (M:ga<=1073741824) (u:List In) (B:∀i∈u,M3 i) (d:xU) (I:qB c d):
  ∃F:Nat->SS,F 0=⟨d,[],[],[]⟩/\∀s,za c d (F s).d/\((F s).R.length=s/\(F s).en.length<=1000*s/\(F s).ks.length<=1000*s/\∀x∈(F s).ks,0<=x/\x<(ln c.js:Int))/\cz c ga u s (F s) (F (s+1)):=by
 obtain⟨F,E,hF⟩:=Ol (λs (a:SS)=>za c d a.d/\(ln a.R=s/\a.en.length<=1000*s/\a.ks.length<=1000*s/\∀x∈a.ks,0<=x/\x<(ln c.js:Int))) (λs a b=>cz c ga u s a b)
  (λs a A=>by
   obtain⟨A,h1,h2,O,G⟩:=A;obtain⟨hl,hb⟩:=Nl B s;obtain⟨f,C,y⟩:=dz c (s:Int) ga L M (SW u s) hb ⟨a.d,[],a.en,a.ks⟩ A.i;have z:=y (SW u s).length;refine⟨_,⟨f,C,λk hk=>(y k).2.2 hk,λk=>⟨(y k).1,by have:=(y k).2.1.1;simpa using this,(y k).2.1.2.1,(y k).2.1.2.2.1⟩,rfl⟩,A.trans z.1,?_,?_,?_,z.2.1.2.2.2 G⟩
   .dsimp only;rw[zAf,zCf];omega
   .have:=z.2.1.2.1;dsimp only at *;omega
   .have:=z.2.1.2.2.1;dsimp only at *;omega)
  ⟨d,[],[],[]⟩ ⟨za.refl I,rfl,zAn _,zAn _,λx hx=>by cases hx⟩
 exact⟨F,E,λs=>⟨(hF s).1.1,(hF s).1.2,(hF s).2⟩⟩
def vq (u:List In) (s:Nat) (b:Bool):Bool:=if s<ln u/\(u.getD s dd).opn=true then b else false
def Cs (u:List In) (l:List Bool):List Bool:=QI (vq u) l (ln l)
def pz (d:xU) (u:List In):xU:=⟨d.rg,d.rq,d.dr,Cs u d.au⟩
def K5 (h:qB c d) (u:List In):qB c (pz d u):=
 ⟨h.b,h.v,h.q,h.lg,h.a,h.n,h.t8,h.br,h.bb,h.bl,by show((Cs u d.au).length:Int)=_;unfold Cs;rw[vI];exact h.au,h.dn,h.dr,h.vh⟩
def E7 (d:xU) (ga:Int):xU:=⟨d.rg,Kg d.rq ga,d.dr,d.au⟩
theorem J5 (h:qB c d) (ga:Int) (u:0<=ga) (z:ga<=1073741824):qB c (E7 d ga):=by
 refine⟨h.b,m6 h.v ga u z,?_,λr B g A=>?_,h.a,h.n,h.t8,h.br,h.bb,h.bl,h.au,h.dn,h.dr,h.vh⟩
 .show((Kg d.rq ga).length:Int)<=_
  unfold Kg;rw[f7];exact h.q
 .obtain⟨x,hx,rfl⟩:=zBm.1 B;obtain⟨y,C,rfl⟩:=zBm.1 A;obtain⟨e1,E,_⟩:=im y ga u z;have:=h.lg x hx y C
  grind
def mg (x:xU):List AV:=[iA x.rg.num,zE yA x.rg.ag.sec,iA x.rg.ag.rights,iA x.rg.ag.cls,zE iA x.rg.ag.lim,iA x.rg.ag.req,iA x.rg.ag.ses,iA x.rg.ag.rate,iA x.rg.ag.burst,zE yK x.rg.tk,zE vB x.rg.vh,iA x.rg.bk.level,iA x.rg.bk.rate,iA x.rg.bk.burst,zE yS x.rq,zE uE x.dr,zE bA x.au]
def D7 (d:xU) (R:List (List Ms)) (E:List En) (K:List Int):AV:= .tup [zN d,zE jC R,zE bM E,zE iA K]
def dT {i:Nat} {y:AV} (h:xs[i]? =some y):xs.set i y=xs:=by
 apply zBe;intro j;rw[zDu];by_cases u:i=j
 .subst u;have hi:=(zAx.1 h).1;rw[Os Z,Os hi,h]
 .rw[hW u]
def G5 (g:Nat->Bool->Bool) (l:List Bool) (k:Nat):pg (l.map bA).length (pi 0 ((QI g l k).map bA))=(QI g l k).map bA:=by
 rw[zAr];exact zAl (by rw[f7,f7,vI];exact zAe _)
theorem zt (hI:qB c d) (u:List In) (bs:ln u<=1000) (a3:∀i∈u,M3 i) (ga:Int) (n0:0<=ga) (n1:ga<=1073741824) (z:Nat->SS) (ag:z 0=⟨pz d u,[],[],[]⟩)
 (hz:∀s,za c (pz d u) (z s).d/\((z s).R.length=s/\(z s).en.length<=1000*s/\(z s).ks.length<=1000*s/\∀x∈(z s).ks,0<=x/\x<(ln c.js:Int))/\cz c ga u s (z s) (z (s+1))):
  zO 56 [vL c,zN d,zE fZ u,iA ga] [] (D7 (E7 (z (ln d.au)).d ga) (z (ln d.au)).R (z (ln d.au)).en (z (ln d.au)).ks) []:=by
 have br:1<=ln d.au/\d.au.length<=2:=by have:=hI.au;have:=hI.a.e;omega
 have kc:=MW d hI.bd;have bl:=zA bA d.au;have a8:=zA fZ u;have km:=Vt (z (ln d.au)).d.rq ga (hz (ln d.au)).1.i.v;have X:vL c= .agg [.sl false (c.js.map xC),.sl false (c.ags.map wP),iA c.per,iA c.cap,iA c.hold,iA c.lock]:=rfl;have bf:∀d:xU,zN d= .agg (mg d):=λ_=>rfl
 rw[X];unfold BS zN wG at kc;have e0:=kC (vq u) d.au;refine eM call56 λF hF=>?_
 refine zP kc ?_;refine zM (ln d.au) [1004,4,5,8,12] [4,5,8,12] [2,3,4,5,8,12,13,14,15,29] [30,2,3,4,5,8,12,13,14,15,29] Z (λi T U=>⟨(30,iA i)::T,(1004,.arr 1 ((QI (vq u) d.au i).map bA) false)::U⟩) ?_;(conv=>whnf);refine⟨by(rw[e0];rfl),?_,?_⟩
 .intro i hi;have a6:((QI (vq u) d.au i).map bA)[i]? =some (bA (d.au.getD i dd)):=by rw[zAh,uJ,Os hi,hW (zDa i)];rfl
  have cc:((QI (vq u) d.au i).map bA).length=ln d.au:=by rw[f7,vI]
  rw[uC bA (vq u) d.au i hi];have V:=dT a6;generalize (QI (vq u) d.au i).map bA=xs,d.au.getD i dd=b9 at *;unfold vq;by_cases h1:i<ln u
  .have hy:=zJ fZ u i h1;generalize u.getD i dd=x at *;obtain⟨op,A⟩:=x;rw[show fZ ⟨op,A⟩= .agg [bA op,zE cF A]from Z]at hy;cases op
   .rw[hW (λh=>by cases h.2)];refine WW ?_;rfl
   .rw[Os ⟨h1,rfl⟩,V];refine WW ?_;rfl
  .rw[hW (λh=>h1 h.1)];refine WW ?_;rfl
 ·(refine WW ?_)
  refine vJ [4,8,12] [2,3,4,8,12,13,14,15,52,53] Z ?_
  (conv=>whnf)
  rw[G5];refine zW 13 1001 1 Z Z Z ?_;refine zW 14 1002 3 Z Z Z ?_;refine zW 15 1003 1 Z Z Z ?_;refine zM (ln d.au) [12,1001,1002,1003,4,8] [4,8] [2,3,4,8,12,52] [13,14,15,53,2,3,4,8,12,52] Z (λi T U=>⟨(13,.ref 1001 0 ((z i).R.map jC).length)::(14,.ref 1002 0 ((z i).en.map bM).length)::(15,.ref 1003 0 ((z i).ks.map iA).length)::(53,iA i)::T,(12,.box (mg (z i).d))::(1001,.arr 1 ((z i).R.map jC) true)::(1002,.arr 3 ((z i).en.map bM) true)::(1003,.arr 1 ((z i).ks.map iA) true)::U⟩) ?_;(conv=>whnf);refine⟨by(rw[ag];rfl),?_,?_⟩
  .intro s hs;obtain⟨hT,⟨ax,az,a1,_⟩,B,L,G,E,C⟩:=hz s;have b6:(z s).R.length<=2:=by omega
   have a9:(z s).en.length<=2000:=by omega
   have bb:(z s).ks.length<=2000:=by omega
   rw[C];dsimp only;clear ag hz km kc ax az a1;have b2:=zA jC (z s).R;have b3:=zA bM (z s).en;have b4:=zA iA (z s).ks;by_cases O:s<ln u/\(u.getD s dd).opn=true
   .have I:SW u s=(u.getD s dd).its:=by unfold SW;rw[Os O]
    have a2:=(Nl a3 s).1;rw[I]at G a2⊢;have hy:=zJ fZ u s O.1;obtain⟨cb,a4⟩:=O;generalize u.getD s dd=x at *;obtain⟨op,A⟩:=x;dsimp only at *;subst a4;rw[show fZ ⟨true,A⟩= .agg [bA true,zE cF A]from Z]at hy;have a7:=zA cF A;have M:∀y:List Ms,((z s).R++[y]).map jC=(z s).R.map jC++[jC y]:=λy=>by simp
    rw[M];clear M C I
    (repeat' (first|refine A7 ?_|apply yY|apply xN|intro hc|(apply zG;first|refine SM ?_)|fail))
    apply xE
    (repeat' (first|refine Ch ?_|apply yY|apply xN|intro hc|(apply zG;first|refine SM ?_)|fail))
    refine zW 18 1006 4 Z Z Z ?_;refine WW ?_;refine zU (A) [12,1002,1003,1006,4,8,1001] [4,8,1001] [2,3,4,8,12,13,17,52,53,71,72] [14,15,18,73,2,3,4,8,12,13,17,52,53,71,72] Z (λi gd T U=>⟨(14,.ref 1002 0 ((B i).en.map bM).length)::(15,.ref 1003 0 ((B i).ks.map iA).length)::(18,.ref 1006 0 ((B i).rs.map yO).length)::(73,iA i)::T,(12,.box (mg (B i).d))::(1002,.arr 3 ((B i).en.map bM) true)::(1003,.arr 1 ((B i).ks.map iA) true)::(1006,.arr 4 ((B i).rs.map yO) true)::U⟩) ?_;(conv=>whnf);refine⟨by(rw[L];rfl),?_,?_⟩
    .intro k gd it post hx hk;have a5:=zY cF hx hk;have ac:=zX hx hk;have S:A.getD k dd=it:=by rw[hx,<-hk];simp[py]
     obtain⟨h,hB,hP,C⟩:=G k ac;rw[S]at hB;obtain⟨bu,bx,bz,b0⟩:=E k;have b7:=zA bM (B k).en;have b8:=zA iA (B k).ks;have ca:=zA yO (B k).rs;have W:=hB.2.1;rw[C];dsimp only;rw[show((B k).rs++[h.p]).map yO=(B k).rs.map yO++[yO h.p] by simp,show∀e:En,((B k).en++[e]).map bM=(B k).en.map bM++[bM e]from λe=>by simp,S];rw[X]at W;unfold iu zN wG cF at W;unfold cF at a5;clear hx S C G E hB hP hT;generalize (B k).rs.map yO=cd,(B k).en.map bM=av,h.p=p9,h.e=e9,h.d=d9 at *;generalize b1:h.k=k9 at *;generalize (B k).d=ar at *;obtain⟨pk,pt,pa,pd⟩:=p9;unfold yO Se at W;dsimp only at W;unfold mg bM Se yO;by_cases h0:0<=k9
     .rw[Os h0,show((B k).ks++[k9]).map iA=(B k).ks.map iA++[iA k9] by simp];generalize (B k).ks.map iA=ap at *;refine zP W ?_;rfl
     .rw[hW h0];generalize (B k).ks.map iA=ap at *;refine zP W ?_;rfl
    ·(repeat' (first|refine Ch ?_|apply yY|apply xN|intro hc|(apply zG;first|refine SM ?_)|fail))
     refine vJ [4,8,12,1001,1002,1003] [2,3,4,8,12,13,14,15,18,52,53,74] Z ?_
     (conv=>whnf)
     simp only[zAr,zAa];have b5:((B (ln A)).rs.map yO).length<=2000:=by rw[f7];have:=(E (ln A)).2.1;omega
     rw[show jC (B (ln A)).rs= .sl false ((B (ln A)).rs.map yO)from Z];clear G E hT L;generalize B (ln A)=zl at *;refine WW ?_;rfl
   .have I:SW u s=[]:=by unfold SW;rw[hW O]
    rw[I,zBq,L];dsimp only;have Y:((z s).R++[([]:List Ms)]).map jC=(z s).R.map jC++[jC []]:=by rw[zAd];rfl
    rw[Y];clear I G E L C hT Y;generalize (z s).R.map jC=r9,(z s).en.map bM=av,(z s).ks.map iA=ap,(z s).d=ar at *;unfold mg;by_cases h1:s<ln u
    .have hy:=zJ fZ u s h1
     have O:(u.getD s dd).opn=false:=by
      cases h:(u.getD s dd).opn with
      |false=>rfl
      |true=>exact absurd ⟨h1,h⟩ O
     generalize u.getD s dd=x at *;obtain⟨op,A⟩:=x;dsimp only at O;subst O;rw[show fZ ⟨false,A⟩= .agg [bA false,zE cF A]from Z]at hy
     (repeat' (first|refine A7 ?_|apply yY|apply xN|intro hc|(apply zG;first|refine SM ?_)|fail))
     apply xE
     (repeat' (first|refine Ch ?_|apply yY|apply xN|intro hc|(apply zG;first|refine SM ?_)|fail))
     refine Vn 18 Z Z Z ?_;refine WW ?_;rfl
    ·(repeat' (first|refine A7 ?_|apply yY|apply xN|intro hc|(apply zG;first|refine SM ?_)|fail))
     apply xE
     (repeat' (first|refine Ch ?_|apply yY|apply xN|intro hc|(apply zG;first|refine SM ?_)|fail))
     refine Vn 18 Z Z Z ?_;refine WW ?_;rfl
  .generalize bk:z (ln d.au)=Fn at *;unfold mg;refine zP km ?_;refine zH [] Z Z ?_ Z
   show AV.tup [zN (E7 Fn.d ga),.sl false (pg _ (pi 0 (Fn.R.map jC))),.sl false (pg _ (pi 0 (Fn.en.map bM))),.sl false (pg _ (pi 0 (Fn.ks.map iA)))]=_
   simp only[zAr,zAa];rfl
section
variable {P:Program} {K0:List Nat} {F:Fr K0} {m:Nat} {tm:List (Nat×AV)} {h:List (Nat×xM)}
end
