/- Part 19. -/
import Derived.Test.YtaglbcjljlkjcaaGreatX18
namespace Go.Proofs.YtaglbcjljlkjcaaGreat.Av
open Tryz
set_option linter.all false
set_option maxRecDepth 4000
set_option maxHeartbeats 8000000
open List renaming length->ln,take->pb,drop->pi,getD->py
open Inhabited renaming default->dd
variable {c:Cf}{xs:List AV}{T e k sz:Nat}{x:Operand}{te ti:TI}{α:Type}{d:wE}
theorem Yg (d:Dk):∀i,∀j∈(LW d i).1,∃e,j=NS e
 |0=>λj hj=>by simp[LW]at hj
 |i+1=>λj hj=>by
  simp only[LW,zBs,zB1]at hj
  rcases hj with hj|hj
  .exact Yg d i j hj
  .exact⟨_,hj⟩
def jq (d:Dk) (r:Int):(IX d r).js=(LW (ad (Ey d)) (M6 d)).1:=by rw[IX,Qi]
def Xg (d:Dk) (r:Int):(IX d r).ags=(VQ (ad (Qi d).2) r (G4 d)).1:=by rw[IX,F4]
def l8 (d:Dk) (u:Int):1<=(IX d u).js.length/\(IX d u).js.length<=2/\1<=(IX d u).ags.length/\(IX d u).ags.length<=3:=by
 have h1:=yQ (Ey d) 2 zB;have h2:=yQ (Qi d).2 3 zB;rw[jq,Xg,OO,bB];unfold M6 G4;omega
def s8 (d:Dk) (n r:Int) (z:0<=r/\r<=63):Sy (Zj d n r):=by
 have A:=yQ d (3-1+1) zB;have w2:=yQ (ad d) (3-1+1) zB;have B:=yQ (ad (ad d)) 3 zB;have C:=yQ (ad (ad (ad d))) 3 zB;have E:=yQ (ad (ad (ad (ad d)))) (3-1+1) zB;have G:=yQ (ad (ad (ad (ad (ad d))))) (2-1+1) zB;have I:=yQ (ad (ad (ad (ad (ad (ad d)))))) (3-1+1) zB;have L:=yQ (Ir d) 5 zB;unfold Zj;refine⟨by dsimp only;rw[fA];rfl,rfl,λx u=>?_,z,by dsimp only;omega,by dsimp only;omega,by dsimp only;omega,by dsimp only;omega,by dsimp only;omega⟩;simp only[zCt,List.not_mem_nil,or_false]at u
 rcases u with rfl|rfl|rfl|rfl<;>omega
structure AgD (a:Ag) (n:Int):Prop where
 v:Sy a
 s:a.sec=cQ (1000+n)
 q:1<=a.req/\a.req<=3
 b:1<=a.rate/\a.burst<=7
def Z8 (d:Dk) (n r:Int) (u:0<=r/\r<=63):AgD (Zj d n r) n:=by
 have z:=yQ (ad (ad (ad (ad d)))) (3-1+1) zB;have A:=yQ (ad (ad (ad (ad (ad (ad d)))))) (3-1+1) zB;have B:=yQ (Ir d) 5 zB;exact⟨s8 d n r u,rfl,by unfold Zj;dsimp only;omega,by unfold Zj;dsimp only;omega⟩
theorem gq (d:Dk) (r:Int) (u:0<=r/\r<=63):∀i k,k<i->AgD ((VQ d r i).1.getD k dd) k/\((VQ d r i).1.getD k dd).rights=r
 |0,k,h=>by omega
 | i+1,k,h=>by
  rw[Ip,zBj];by_cases hk:k<i
  .rw[zB9 (by rw[bB];exact hk),<-zBj];exact gq d r u i k hk
  .obtain rfl:k=i:=by omega
   rw[zCe (by rw[bB];omega),bB,zEj];exact⟨Z8 _ _ _ u,rfl⟩
def Z5 (d:Dk) (r:Int) (u:0<=r/\r<=63) (k:Int) (z:0<=k) (h1:k<((IX d r).ags.length:Int)):AgD ((IX d r).ags.getD k.toNat dd) k/\((IX d r).ags.getD k.toNat dd).rights=r:=by
 rw[Xg]at h1⊢;rw[bB]at h1;have:=gq (ad (Qi d).2) r u (G4 d) k.toNat zB;rw[show((k.toNat:Nat):Int)=k by omega]at this;exact this
def Y5 {a:Ag} (hv:Sy a) (n:Int) (C:0<=n/\n<4):qE c (PJ n a a.ses.toNat):=by
 have I:=hv.e;have L:=hv.q;have hb:=hv.b;have M:=hv.t;have E:=D7 n a hv;have e1:(PF n a).ag=a:=rfl;have A:(PF n a).num=n:=rfl;have e3:(PF n a).tk.length=8:=by simp[PF,Xb]
 have B:(PF n a).vh=[]:=rfl;have u:(PF n a).bk=⟨a.burst,a.rate,a.burst⟩:=rfl;unfold PJ;generalize hN:a.ses.toNat=N;generalize PF n a=r at *;constructor
 .exact E
 .exact⟨λr z=>by simp at z,List.Pairwise.nil,zBn _⟩
 .dsimp only;rw[e1];simp only[zCd];omega
 .intro r z;simp at z
 .dsimp only;rw[e1];exact hv
 .dsimp only;rw[A];exact C
 .exact e3
 .dsimp only;rw[e1,u]
 .dsimp only;rw[e1,u]
 .dsimp only;rw[e1,u];exact⟨hb.1,zDg _⟩
 .dsimp only;rw[e1,zC4];omega
 .simp
 .intro x G;simp at G
 .dsimp only;rw[B];simp
def Y8 (n:Int) (a:Ag) (hv:Sy a):zO 80 [iA n,vP a] [] (zM (PJ n a a.ses.toNat)) []/\zO 85 [iA n,vP a] [] (zM (PJ n a a.ses.toNat)) []:=by
 have u:=hv.e;have h1:=hv.s;have h2:=hv.l;exact⟨O4 n a a.ses.toNat zB zB zB zB,Cv n a a.ses.toNat zB zB zB zB⟩
def X8 {l:List Tk} (h:IP l) (f3:Int):IP (ZD l f3):=by
 refine⟨by unfold ZD;rw[zA6,zCr];exact h.n,λt u=>?_⟩;unfold ZD at u;rw[zCl]at u;obtain⟨j,hj,rfl⟩:=u;rw[zBu]at hj;unfold FS;split
 .exact zBn _
 .rw[zBj,zB2 hj,zDr];exact h.s _ (zE0 _)
def XL (d:wE) (f3:Int):wE:=⟨P3 d.rg f3,KL d.rq f3,d.dr,d.au⟩
def W8 (h:qE c d) (f3:Int):qE c (XL d f3)/\(XL d f3).rg.ag=d.rg.ag/\(XL d f3).rg.num=d.rg.num:=by
 refine⟨?_,rfl,rfl⟩;have hl:=h.bl;have u:=h.br;have z:=h.bb;have E:=h.a.t;have B:=zCw (λx:Rq=>decide (f3<=x.til)) d.rq;have C:=h.q;refine⟨⟨X8 h.b.tk f3,h.b.s,h.b.l,h.b.v⟩,h.v.filter _,?_,λr u g A=>h.lg r (zEv.1 u).1 g A,h.a,h.n,?_,h.br,h.bb,?_,h.au,h.dn,h.dr,h.vh⟩
 .show((d.rq.filter _).length:Int)<=d.rg.ag.req
  omega
 .show(ZD d.rg.tk f3).length=8
  unfold ZD;rw[zA6,zCr,h.t8]
 .show 0<=min (d.rg.bk.level+d.rg.bk.rate) d.rg.bk.burst/\min (d.rg.bk.level+d.rg.bk.rate) d.rg.bk.burst<=d.rg.ag.burst
  omega
def dq (h:qE c d) (f3:Int):zO 114 [zM d,iA f3] [] (zM (XL d f3)) []:=by
 have A:=LG d h.bd;have hl:=h.bl;have C:=h.br;have z:=h.bb;have E:=h.a.t;have hb:=h.a.b;have u:=Nu d.rg f3 h.b zB;have B:=Zo d.rq f3 h.v;unfold XL;generalize P3 d.rg f3=r,KL d.rq f3=q at *;unfold zM xD at *;unfold uR at u;refine eM call114 λF hF=>?_
 exact nm (qM A u B)
def aq (h:qE c d) (f3:Int):zO 55 [zM d,iA f3] [] (zM (XL d f3)) []:=by
 have A:=kN d h.bd;have hl:=h.bl;have C:=h.br;have z:=h.bb;have E:=h.a.t;have hb:=h.a.b;have u:=Vq d.rg f3 h.b h.t8 zB;have B:=ai d.rq f3 h.v;unfold XL;generalize P3 d.rg f3=r,KL d.rq f3=q at *;unfold zM xD at *;unfold uR at u;refine eM call55 λF hF=>?_
 exact nm (qM A u B)
def pw (l:List Rq) (R:ln l<=1000) (hb:∀r∈l,ln r.legs<=1000):zO 72 [zE zY l,zE zY l] [] (bA true) []:=by
 have hl:=zA zY l;refine eM call72 λF hF=>?_
 refine WW ?_;refine zU (l) [] [] [1,15,16] [17,1,15,16] Z (λi f4 T U=>⟨(17,iA i)::T,U⟩) (Lq ?_ ?_)
 .intro i f4 x post A hi;have O:=yG zY A hi;have L:=zW A hi;have M:=hb x (yY A);have I:=zA yO x.legs;unfold zY zE at O;refine WW ?_;refine zU (x.legs) [7] [7] [1,7,15,16,17,62,63] [64,1,7,15,16,17,62,63] Z (λi f4 T U=>⟨(64,iA i)::T,U⟩) (Lq ?_ ?_)
  .intro k G g C u z;have B:=yG yO u z;have E:=zW u z;unfold yO at B;clear A u
   (repeat' (first|refine uT ?_|apply yW|apply xH|intro hc|(apply zG;first|refine SF ?_)|fail))
   all_goals (first|rfl|(exfalso;first|(simp[wR]at hc;done)|(revert hc;simp[wR];done)))
  .clear A;refine WW ?_
   all_goals (first|rfl|(exfalso;first|(simp[wR]at hc;done)|(revert hc;simp[wR];done)))
 .exact ly
def mw (d:wE) (h:dH d):zO 22 [zM d,zM d] [] (bA true) []:=by
 have B:=Ju d.rg h.rg;have M:=pw d.rq h.q h.g;have hl:=zA qO d.dr;have G:=zA bA d.au;have E:=h.n;have C:=h.a;unfold zM xD at *;unfold uR at B;refine eM call22 λF hF=>?_
 refine yJ (xW B M) ?_;refine zU (d.dr) [2,3] [2,3] [2,3,42,43] [44,2,3,42,43] Z (λi f4 T U=>⟨(44,iA i)::T,U⟩) (Lq ?_ ?_)
 .intro i f4 x post u hi;have A:=yG qO u hi;have z:=zW u hi;have L:=h.e x (yY u);have I:=zA yA x;unfold qO zE at A;clear u;refine WW (I2 (λhc=>?_) λhc=>?_)
  all_goals (first|rfl|(exfalso;first|(simp[wR]at hc;done)|(revert hc;simp[wR];done)))
 ·(refine WW ?_)
  refine zU (d.au) [3] [3] [3,60,61] [62,3,60,61] Z (λi f4 T U=>⟨(62,iA i)::T,U⟩) (Lq ?_ ?_)
  .intro i f4 x post u hi;have A:=yG bA u hi;have z:=zW u hi;unfold bA at A;clear u;refine WW (I2 (λhc=>?_) λhc=>?_)
   all_goals (first|rfl|(exfalso;first|(simp[wR]at hc;done)|(revert hc;simp[wR];done)))
  .exact ly
section
variable {P:Program} {K0:List Nat} {F:Fr K0} {m:Nat}
theorem VC.consume {st:St} {a:Act} {w:World} {X:Nat->Prop} {β:uP} (hX:Q6 F X) (H:jM X (zD st.h) β w) (Ht:∀t,yK w (xT X β) (zD st.h) β (zK st.tm t) (a.eval (.tmp t))) (z:fF F (zD st.h) β w) (hJ:∀i,zK st.tm GS= .gh i->F.J i (Mh β) X w) (hD:P2 X F a.defers w)
  (nd:∀k,zD st.h k≠some .dead) (gs:m<=GS) (hl:a.tmps.size=m) (k:Nat) (K ts:List Nat) (hK:K0.all (K.contains ·)=true) (av:K.contains k=false) {w':World} {β':uP} (G:xU X w (zD st.h) β w' (over [(k,.dead)] (zD st.h)) β') {v:AV} {c:Value} (hc:xM w' (xT X β') v c)
  (hg:∀i,v≠ .gh i) (t:Nat) (ht:t<m) {st':St} (he:restr K ts ⟨st.tm,(k,.dead)::st.h⟩=st'):wL F m ⟨(t,v)::st'.tm,st'.h⟩ (a.put (some t) c) w':=by
 subst he;have eh:zD ((k,xV.dead)::st.h)=over [(k,.dead)] (zD st.h):=vF [(k,xV.dead)] st.h;rw[<-eh]at G;obtain⟨H',ag⟩:=G.hok.restr K
 have C:∀j,j∈K->j≠k:=λj hj e=>by
  grind
 have E:∀j,j≠k->zD ((k,xV.dead)::st.h) j=zD st.h j:=λj hj=>by rw[eh];exact aQ _ _ hj
 have R:∀j,j∈K->zD ((k,xV.dead)::st.h) j≠some .dead:=λj hj=>by rw[E j (C j hj)];exact nd j
 have O:∀j,j∈K0->j∈K:=λj hj=>by
  grind
 have S:∀b,xT X (λj=>if j∈K then β' j else []) b->xT X β' b:=λb hd=>by
  rcases hd with hx|⟨j,n,u⟩
  .exact .inl hx
  ·(try dsimp only at u)
   split at u
   .exact .inr ⟨j,n,u⟩
   .simp at u
 have ac:GS≠t:=by omega
 refine⟨⟨X,_,hX,H',λj=>?_,⟨λj e A=>?_,zCa z.size G.size,λb hb hi hn=>?_,λj b n u=>?_,λj b n u=>?_,λj b n u=>?_,G.os.trans z.os,G.tape.trans z.tape,G.output.trans z.output⟩,λi hi=>?_,hD.goes H G⟩,λj=>?_,gs,by simp[Act.put,hl]⟩
 .show yK _ _ _ _ (zK ((t,v)::(restr K ts ⟨st.tm,(k,.dead)::st.h⟩).tm) j) _
  rw[xF];split
  .rename_i hj;subst hj;have e:(a.put (some j) c).eval (.tmp j)=c:=by simp[Act.put,Act.eval,hl,ht]
   rw[e];exact .fz _ _ (hc.evo (zBb _) λb _ hd=>⟨rfl,λh=>hd (S b h)⟩)
  .rename_i hj;rw[Act.eval_put (λd hd e=>hj (by injection hd with hd;injection e with e;rw[hd,e])),gG];split
   .exact ag _ _ ((Ht j).evo G.evo)
   .exact .fz _ _ (.bot _)
 .have hj:=O j (F.hh j e A);have h1:=z.knd j e A;have hr:∀W,zD ((k,xV.dead)::st.h) j=some W->zD (wZ K (zD ((k,xV.dead)::st.h))) j=some (kD K (zD ((k,xV.dead)::st.h)) W):=λW h2=>by rw[wH,zA5 hj,h2];rfl
  cases e with
  |dead=>exact h1
  |box cs=>obtain⟨V,h2⟩:=h1;exact⟨_,hr _ ((E j (C j hj)).trans h2)⟩
  |obj cs=>obtain⟨V,h2⟩:=h1;exact⟨_,hr _ ((E j (C j hj)).trans h2)⟩
  |arr sz xs sl=>obtain⟨au,ar,h2,I⟩:=h1;obtain⟨U,L,M,Y⟩:=gV K (zD ((k,xV.dead)::st.h)) sz au ar;exact⟨U,L,(hr _ ((E j (C j hj)).trans h2)).trans (by rw[M]),by rw[Y];exact I⟩
 .rw[G.keep b (zCb hb z.size),z.keep b hb hi hn];intro j n u
  rcases z.own j b n u with⟨k',B,h1⟩|h1
  all_goals grind
 ·(try dsimp only at u)
  split at u
  .rcases G.own j b n u with⟨k',B,h1⟩|h1
   .exact z.own k' b B h1
   .exact .inr (zCa z.size h1)
  .simp at u
 .have hj:=O j (F.hK j b n u);obtain⟨B,h1,h2⟩:=z.pas j b n u
  (try dsimp only)
  rw[zA5 hj]
  cases A:zD st.h j with
  |none=>rw[H.off j A]at h2;simp at h2
  | some e=>
   have I:=(G.key j e A).resolve_left (R j hj)
   cases e with
   |dead=>exact I.elim
   |box cs=>exact⟨B,h1,I.2 b B h2⟩
   |obj cs=>exact⟨B,h1,I.2 b B h2⟩
   |arr sz xs fl=>
    obtain⟨ap,M,Y⟩:=I.2 b B h2;exact⟨ap,zCa h1 M,Y⟩
 .obtain⟨B,_,h2⟩:=z.pas j b n u;rw[G.bs j b B h2,z.bs j b n u]
 .change zK ((t,v)::(restr K ts ⟨st.tm,(k,.dead)::st.h⟩).tm) GS= .gh i at hi
  rw[xF,Os ac,gG]at hi;split at hi
  .have h1:zK st.tm GS= .gh i:=GV hi;refine F.Jst i _ X w' w' _ (F.go G (hJ i h1)) (zBb _) (λ_ _ _=>rfl) (λb hb=>?_) (λb hb=>?_) Z Z Z
   .obtain⟨j,n,u⟩:=hb
    (try dsimp only at u)
    split at u
    .exact .inl ⟨j,n,u⟩
    .simp at u
   .obtain⟨j,n,u⟩:=hb;exact H'.lt b (.inr ⟨j,n,u⟩)
  .cases hi
 .show zD (wZ K (zD ((k,xV.dead)::st.h))) j≠some .dead
  rw[wH];split
  .rename_i hj;intro h;rw[zBp]at h;obtain⟨e,he,h2⟩:=h
   cases e with
   |dead=>exact R j hj he
   |box cs=>cases h2
   |obj cs=>cases h2
   |arr a b c=>obtain⟨U,L,M,_⟩:=gV K (zD ((k,xV.dead)::st.h)) a b c;rw[M]at h2;cases h2
  .intro h;cases h
variable {ops:Array Oper} {rest:List Oper} {Q:List FP->St->Prop} {tm:List (Nat×AV)} {h:List (Nat×xV)} {fs fs':List FP} {TT:List TI} {ty:Nat} {pos:String} {after:Array Edge} {t:Nat}
theorem X5 (K ts:List Nat) (hP:uW P TT) {k:Nat} {s:Operand} {vs:List AV} {fl:Fl} {xv:AV} (hs:yX (zK tm) s= .ref k 0 0) (hk:zD h k=some (.arr sz xs fl)) (hx:yX (zK tm) x=xv) (hT:TT[T]? =some ti) (hd:ti.d= .slice e) (he:TT[e]? =some te) (bs:AI (zD h) xv=some vs)
 (Y:Nat.beq sz te.size=true) (br:∀y,vs[0]? =some y->ln y.cells=sz) (hb:Nat.ble te.bytes 65536=true) (hz:Nat.beq (ln te.zero) te.size=true) (E:1<=ln vs) (bz:ln vs<=1073741824) (M:Nat.blt t m=true) (hK:K0.all (K.contains ·)=true) (ba:K.contains k=false)
 {st':St} (bl:restr K ts ⟨tm,(k,.dead)::h⟩=st') (hr:yP P F m ops false rest ⟨(t,.sl false vs)::st'.tm,st'.h⟩ fs Q):yP P F m ops false (⟨some t,.call ⟨.builtin .append, #[s,x], #[T,T]⟩,ty,pos,after,none⟩::rest) ⟨tm,h⟩ fs Q:=⟨λa w R=>wpListIn_plain Z λKC a4=>by
 obtain⟨⟨X,β,hX,I,Ht,KK,hJ,hD⟩,nd,gs,hl⟩:=R;dsimp only at I Ht KK hJ nd;have h1:=gZ (op:= .call ⟨.builtin .append, #[s,x], #[T,T]⟩) (st:=⟨tm,h⟩) Ht (λ_ _=>rfl) (x:=s) kS hs;have h2:=gZ (op:= .call ⟨.builtin .append, #[s,x], #[T,T]⟩) (st:=⟨tm,h⟩) Ht (λ_ _=>rfl) (x:=x) kS hx;have Y:=zBz Y;have hb:=zBo hb;have hz:=zBz hz;have M:=zBo M;obtain⟨i,z,hu,hi,a2,e1,e2,e3⟩:=vB hP hT hd he;obtain⟨g1,g2,g3,g4,g5,f,g6,g7,g8⟩:=I.ent k _ hk;obtain⟨ad,cap,av,_,b3,az⟩:=cX I h2 bs br;obtain⟨b2,q,L,rfl,hS⟩:=az (λh0=>by rw[h0]at E;simp at E);obtain⟨ap,a8⟩:=hS.flat g1
 have au:∀{c w'} (_:(Builtin.append_ #[T,T] ty #[a.eval s,a.eval x]).run P w= .ok c w') {β':uP} (_:xU X w (zD h) β w' (over [(k,.dead)] (zD h)) β') (_:xM w' (xT X β') (.sl false vs) c),Oper.wpIn (BL F.ro) 0 P ⟨some t,.call ⟨.builtin .append, #[s,x], #[T,T]⟩,ty,pos,after,none⟩ a w KC (λe a' w'=>e= .normal/\∃st',Q [] st'/\wL F m st' a' w'):=by
  intro c w' u β' G hc;refine aP.wp (N:=λc1 w1=>c1=c/\w1=w') ?_ ?_
  .have:(execOp a.eval ⟨some t,.call ⟨.builtin .append, #[s,x], #[T,T]⟩,ty,pos,after,none⟩).run P w= .ok (.value c) w':=by simp[execOp,resolve,invoke,builtin,u]
   rw[this];exact⟨rfl,rfl⟩
  .rintro _ _ ⟨rfl,rfl⟩;exact a4 _ _ (hr.run _ _ (VC.consume (st:=⟨tm,h⟩) hX I Ht KK hJ hD nd gs hl k K ts hK ba G hc (λi hh=>by cases hh) t M bl))
 have a3:∀{w'},jM X (zD h) β w'->xU X w' (zD h) β w' (over [(k,.dead)] (zD h)) (bH β k []):=λH=>xU.step H k .dead [] (zBb _) (λ_ _ _=>rfl) Z Z Z (λb n M=>by simp at M) (λ_ _ _=>rfl) (λe _=> .inl Z) λ_=>yL _ _ _
 have ag:∀bd A,a.eval s= .slice bd 0 A->A<ln vs->(bd=none->A=0)->Oper.wpIn (BL F.ro) 0 P ⟨some t,.call ⟨.builtin .append, #[s,x], #[T,T]⟩,ty,pos,after,none⟩ a w KC (λe a' w'=>e= .normal/\∃st',Q [] st'/\wL F m st' a' w'):=by
  intro bd A U b1 a5
  have ac:ln vs*i.bytes<=140737488355328:=by
   have:=zDx (show (ln vs)<=1073741824 by omega) (show i.bytes<=65536 by omega);omega
  have u:(Builtin.append_ #[T,T] ty #[.slice bd 0 A,.slice (some ⟨b2,q,none⟩) (ln vs) cap]).run P w= .ok (.slice (some ⟨w.heap.size,0,none⟩) (ln vs) (grownCap w (ln vs) A e)) (w.drew.alloc (.cells ((flat L (ln vs) sz).toArray++Builtin.zeroCells z.cells (grownCap w (ln vs) A e-vs.length)) e)):=by
   cases bd with
   |none=>
    obtain rfl:=a5 Z;exact run_append_nil (P:=P) w T ty e i z hu hi a2 ⟨b2,q,none⟩ (ln vs) cap (flat L (ln vs) sz) (by rw[zZ,Y,e1]) ap zB zB zB
   |some b0=>
    have:=run_append_grow (P:=P) w T ty e i z hu hi a2 b0 0 A [] zV (λj v h=>by simp at h) ⟨b2,q,none⟩ (ln vs) cap (flat L (ln vs) sz) (by rw[zZ,Y,e1]) ap zB zB (growslice_fits zB (by simpa using ac));simpa using this
  have HD:=I.drew (w.drawn+1);have b4:z.cells.size=ln te.zero:=by rw[<-e3];simp
  have a9:=grownCap_ge w (ln vs) A e;have G:=xU.newFz HD ((flat L (ln vs) sz).toArray++Builtin.zeroCells z.cells (grownCap w (ln vs) A e-vs.length)) e
  have hv:=xM.newArr HD ((flat L (ln vs) sz).toArray++Builtin.zeroCells z.cells (grownCap w (ln vs) A e-vs.length)) e sz vs (grownCap w (ln vs) A e) L g1 (by unfold cF;omega) a9 hS.wide
   (λi j hi hj=>by
    rw[zC8 (by simp[zZ];have:=zBt sz (show i+1<=ln vs by omega);rw[zCi,zDh]at this;omega)]
    simpa using kT L hi hj) hS.one (λi y j v hy hv=>xM.evo (w:=w) (w':={w with drawn:=w.drawn+1}) (zBb _) (λ_ _ hd=>⟨rfl,hd⟩) (hS.rep.toF Z i y j v hy hv))
  have G2:=xU.trans I (xU.drew I (w.drawn+1)) G;have G3:=a3 G2.hok;exact au (by rw[U,av];exact u) (xU.trans I G2 G3) (hv.wkF.evo G3.evo.size G3.evo.fz)
 generalize U:a.eval s=cx at h1
 cases h1 with
 |fz _ _ hf=>cases hf
 |dref _ _ _ _ a7 _=>exact absurd a7 (nd k)
 |ref0 _ _ bu bx st' bd V hn=>exact ag bd 0 U zB (λ_=>rfl)
 | ref _ _ _ bu bx st' b n A V S hn hc bk=>
  rw[hk]at V;cases V;by_cases W:ln vs<=A
  case neg=>exact ag _ A U zB (λh=>by cases h)
  obtain⟨B,el,c1,c2,c3,c4⟩:=g8 b n S
  have a6:B.size=A*sz:=by
   have:wO w b=B.size:=by unfold wO World.shape?;rw[c1];rfl
   rw[<-this,<-bk,zCn]
  have ax:ln vs*sz<=B.size:=by rw[a6];exact zBt _ W
  have u:=bJ hP hT hd he w ty b 0 0 A B el c1 ⟨b2,q,none⟩ (ln vs) cap (flat L (ln vs) sz) (by rw[zZ,Y]) ap a8 zB (by
   rw[zZ,zEp];simpa using ax)
  generalize C:(B.toList.take (0+0*te.size)++flat L (ln vs) sz++B.toList.drop (0+0*te.size+(flat L (ln vs) sz).length)).toArray=O at u;rw[zEp,zCn,zEm,zEf,zCn]at C
  have a1:O.size=B.size:=by
   rw[<-C];simp only[zD6,zBa,zB6,zD8,zZ];omega
  have G:=xU.step (w':=w.setRow b O) I k .dead [] zV (λj hj hn=>setRow_other w b j O (λe=>hn n (by rw[e];exact S))) Z Z Z (λb n M=>by simp at M) (λb n _=>kM c1 a1 b) (λe _=> .inl Z) λ_=>yL _ _ _
  have bb:¬xT X (bH β k []) b:=λhd=>by
   rcases hd with hx|⟨j,n',M⟩
   .exact I.free k b n S hx
   .by_cases ar:j=k
    .subst ar;rw[yL]at M;simp at M
    .rw[qU _ _ ar]at M;exact ar (I.disj _ _ _ _ _ M S)
  refine au (by rw[U,av,zEp];exact u) G ?_;rw[zCn];have bf:vs≠[]:=λh0=>by rw[h0]at E;simp at E
  refine .sl false vs b 0 sz A L bf ⟨zCb (I.lt b (.inr ⟨k,n,S⟩)) G.size,bb,g1,by unfold cF;omega,hS.wide,λi j hi hj=>?_,hS.one⟩ W λi y j v hy hv=>(hS.rep.toF Z i y j v hy hv).evo G.evo.size G.evo.fz
  rw[uU (setRow_heap w _ _ _ _ _ c1),<-C,zCn,zDv,zB9 (by
   rw[zZ];have:=zBt sz (show i+1<=ln vs by omega);rw[zCi,zDh]at this
   omega)]
  exact kT L hi hj⟩
end
def eX (d:Dk):Nat->List Int×Dk
 |0=>([],d)
 |i+1=>((eX d i).1++[nx (eX d i).2 256],ad (eX d i).2)
theorem ue (d:Dk):∀i,(eX d i).1.length=i/\rem (eX d i).2<=rem d/\BY (eX d i).1
 |0=>⟨rfl,zBb _,λx u=>by cases u⟩
 |i+1=>by
  obtain⟨h1,h2,z⟩:=ue d i;have B:=vH (eX d i).2;have A:=yQ (eX d i).2 256 zB;refine⟨by simp only[eX,zBa,zBl,zCd];omega,by simp only[eX];omega,?_⟩;simp only[eX];intro x u
  rcases zBs.1 u with u|u
  .exact z x u
  .rw[zB1]at u;subst u;exact A
def oq (d:Dk) (n:Int) (L:0<=n) (h1:n<=1000):zO 163 [.ptr 1000 0 0,iA n] [(1000,fI d)] (zE yA (eX (ad d) (nx d (n+1)).toNat).1) [(1000,fI (eX (ad d) (nx d (n+1)).toNat).2)]:=by
 have A:=yS d (n+1) zB zB;have I:=yQ d (n+1) zB;generalize nx d (n+1)=k,ad d=u at *;obtain⟨N,hN⟩:∃N:Nat,k.toNat=N:=⟨_,rfl⟩;have z:k=(N:Int):=by omega
 rw[hN];subst z;refine eM call163 λF hF=>?_
 refine zS A ?_;refine zQ 5 1001 1 Z Z Z ?_;refine zN (N) [1000,1001] [] [0] [5,6,0] Z (λi T U=>⟨(5,.ref 1001 0 ((eX u i).1.map yA).length)::(6,iA ((N:Int)-i))::T,(1000,fI (eX u i).2)::(1001,.arr 1 ((eX u i).1.map yA) true)::U⟩) ?_;(conv=>whnf);refine⟨by(rw[show(N:Int)-(0:Nat)=N by omega];rfl),?_,?_⟩
 .intro i hi;have hl:=(ue u i).1;have B:eX u (i+1)=((eX u i).1++[nx (eX u i).2 256],ad (eX u i).2):=rfl;rw[show((N:Int)-((i+1:Nat):Int))=(N:Int)-i-1 by omega];generalize (eX u i).1=p at *;generalize (eX u i).2=e at *;have C:1<=(N:Int)-i:=by omega
  have E:(N:Int)-i<=1001:=by omega
  have M:ln p<=1001:=by omega
  generalize (N:Int)-i=q at *;have G:=yS e 256 zB zB;have O:=yQ e 256 zB;rw[B];generalize nx e 256=y,ad e=e1 at *;refine zS G ?_
  show restr _ _ _=_
  rw[zBd];rfl
 .rw[show(N:Int)-(N:Int)=0 by omega];refine WW ?_;exact zI [1000] Z Z (zBq (AV.sl false) zA8) Z
theorem nq:∀(f:Nat) (n:Int),0<=n->n<128 ^ (f+1)->BY (tc f n)
 |0,n,z,h1=>λx u=>by
  rw[tc,zB1]at u;subst u;simp at h1;omega
 | f+1,n,z,h1=>λx u=>by
  rw[tc]at u;split at u
  .rw[zB1]at u;subst u;omega
  .rcases zCt.1 u with rfl|u
   .omega
   .exact nq f (n/128) zB (Zc h1) x u
theorem EQ {n:Int} (u:0<=n) (h1:n<=4294967295):BY (jQ n):=nq 4 n u zB
theorem mq (A B:Nat) (c:Int) (hc:0<=c/\c<256):∀(l:List Int) (i:Nat),RX l->BY (ZC A B c i l)
 | [],_,_=>λx u=>by cases u
 | y::l,i,h=>λx u=>by
  rw[ZC]at u
  rcases zBs.1 u with u|u
  .split at u
   .rw[zB1]at u;subst u;exact hc
   .cases u
  .rcases zBs.1 u with u|u
   .have:=h y zV;exact EQ this.1 this.2 x u
   .exact mq A B c hc l (i+1) (λz C=>h z (by simp[C])) x u
def W5 (m:Ms) (h:B4 m) (n:Nat) (R:n<=2) (M:wF m.kind≠0->1<=n) (B:ln m.args=vW m.kind+n*wF m.kind):∃p,BY p/\p.length<=200/\p=dL (vW m.kind) (wF m.kind) n m/\zO 21 [zX m] [] (.tup [zE yA p,iA 0]) []:=by
 have A:=LK m.kind h.k.1 h.k.2 m n Z h.l (by rw[h.d];simp) h.n B zB;have O:=EN m.kind;have C:=EM m.kind
 have E:n*wF m.kind<=8:=by rcases C with e|e|e<;>rw[e]<;>omega
 have L:=YT m.kind h.k.1 h.k.2 m n Z h.l (by rw[h.d];simp) h.n zB (λ_=>B) zB
 have hv:Br (wF m.kind) n m.data=true:=by
  unfold Br;rw[zBc,h.d];exact⟨rfl,by by_cases z:wF m.kind=0;exact .inl z;exact .inr (M z)⟩
 rw[hv]at A;have I:=EL (vW m.kind) (wF m.kind) n m.args 0;have G:=h.l;refine⟨dL (vW m.kind) (wF m.kind) n m,λx u=>?_,?_,rfl,?_⟩
 .unfold dL at u;rw[h.d]at u
  rcases zBs.1 u with u|u
  .rcases zBs.1 u with u|u
   .exact h.t x u
   .exact mq _ _ _ zB _ _ h.n x u
  .rw[zB0]at u;split at u
   .rw[zB1]at u;omega
   .cases u
 .unfold dL;rw[h.d,zB0,zBa,zBa]
  have:(if wF m.kind≠0/\m.args.length=vW m.kind then [(0:Int)]else []).length<=1:=by split<;>simp
  omega
 .generalize dL (vW m.kind) (wF m.kind) n m=p at *;refine eM call21 λF hF=>?_
  exact mx (xW A L)
def tq (m:Ms) (h:B4 m):∃p,BY p/\p.length<=200/\zO 21 [zX m] [] (.tup [zE yA p,iA 0]) []:=by
 obtain⟨n,z,A,B⟩:=h.c;obtain⟨p,h1,h2,_,u⟩:=W5 m h n z A B;exact⟨p,h1,h2,u⟩
def V8 (y:Int):0<=IntKind.u8.wrap y/\IntKind.u8.wrap y<256:=by
 unfold IntKind.wrap;simp[IntKind.signed,IntKind.bits];omega
section
variable {P:Program} {TT:List TI} {st:St}
def iq (hP:uW P TT) {k off len:Nat} {s:Operand} {fl:Fl} {S:AV} (hs:yX (zK st.tm) s= .ref k off len) (hk:zD st.h k=some (.arr sz xs fl)) (hx:yX (zK st.tm) x=S) (hT:TT[T]? =some ti) (hd:ti.d= .slice e) (he:TT[e]? =some te) (M:AI (zD st.h) S=some []):
  vA P st (.call ⟨.builtin .append, #[s,x], #[T,T]⟩) (.ref k off len) [] (k::OE S) []:=by
 refine⟨?_⟩;intro X tm h W hr _ o a w β Y U V;obtain⟨d0,o0,y0,p0,f0,g0⟩:=o;dsimp only at Y;subst Y;have hk':=(hr k zV).trans hk;have h1:=gZ V W (x:=s) kS hs;have h2:=gZ V W (x:=x) kS hx;obtain⟨ad,cap,z,_⟩:=cX U h2 ((fS λk' hk=>hr k' (by simp[hk])).trans M) (sz:=0) (λy hy=>by cases hy)
 have L:∃E u,a.eval s= .slice E len u/\len<=u:=by
  generalize a.eval s=cx at h1
  cases h1 with
  |fz _ _ hf=>cases hf
  |dref _ _ _ _ hd _=>rw[hk']at hd;cases hd
  |ref0 _ _ O R st' b B hn=>exact⟨_,0,rfl,zBb _⟩
  |ref _ _ _ O R st' b n u B ac hn hc ag=>exact⟨_,u,rfl,hc⟩
 obtain⟨E,u,A,G⟩:=L;have C:=gF hP hT hd he w y0 E ad len u cap G
 have I:(execOp a.eval ⟨d0,.call ⟨.builtin .append, #[s,x], #[T,T]⟩,y0,p0,f0,g0⟩).run P w= .ok (.value (.slice E len u)) w:=by
  rw[zCd]at z;simp[execOp,resolve,invoke,builtin,A,z,C]
 rw[I,cG];exact⟨β,xU.refl U,by rw[A]at h1;exact h1⟩
end
section
variable {P:Program} {TT:List TI} {K0:List Nat} {F:Fr K0} {m:Nat} {ops:Array Oper} {rest:List Oper} {Q:List FP->St->Prop} {tm:List (Nat×AV)} {h:List (Nat×xV)} {dr:Bool} {fs:List FP}
variable {ty:Nat} {pos:String} {after:Array Edge} {t:Nat}
def Wg (A:uW P TT) {u len:Nat} {l:Operand} {I:Fl} {k:IntKind} {i:Int} (G:yX (zK tm) x= .ref u 0 len) (hk:zD h u=some (.arr sz xs I)) (hl:yX (zK tm) l= .s (.int k i)) (hT:TT[T]? =some ti) (hd:ti.d= .slice e) (B:TT[e]? =some te)
 (z:Nat.beq sz te.size=true) (L:0<=i) (h1:i<=len) (C:Nat.blt t m=true) (E:yP P F m ops dr rest ⟨(t,.ref u 0 i.toNat)::tm,h⟩ (⟨true,[],[u]⟩::fs) Q):
  yP P F m ops dr (⟨some t,.slice T x none (some l) none,ty,pos,after,none⟩::rest) ⟨tm,h⟩ fs Q:=by
 have:=bI (P:=P) (st:=⟨tm,h⟩) (lo:=none) (hi:=some l) (l:=0) (r:=i.toNat) A G hk hT hd B Z ⟨k,i,hl,zB⟩ (zBn _) zB z;rw[zF0]at this;exact wJ this C E
end
theorem U8 {y:Int} (h: -9223372036854775808<=y/\y<=9223372036854775807):aG .i64 (y.tdiv 256):=by grind [aG]
def zAs (a y:Int) (u: -9223372036854775808<=y/\y<=9223372036854775807):zO 98 [zE yA [],iA a,iA y] [] (zE yA [IntKind.u8.wrap y]) []:=by
 refine eM call98 λF hF=>?_
 exact nl
section
variable (b:List Int) (a y k:Int) (hl:1<=ln b) (hn:ln b<=1000) (h0: -9223372036854775808<=y/\y<=9223372036854775807) (hk:a % (ln b:Int)=k)
include hl hn h0 hk
theorem IZ (j:Int) (hj:y.tdiv 256 % 4=j):(b.map yA).length=ln b/\zO 11 [iA a,iA (((b.map yA).length:Nat):Int)] [] (iA k) []/\zO 11 [iA (y.tdiv 256),iA 4] [] (iA j) []/\aG .i64 (y.tdiv 256)/\0<=k/\k<(ln b:Int):=by
 have u:=zA yA b;have B:=BE a (ln b:Int) zB zB;have C:=BE (y.tdiv 256) 4 zB zB;have z:=zEe a (show(ln b:Int)≠0 by omega);have A:=zDy a (show 0<(ln b:Int) by omega);rw[hk]at B z A;rw[hj]at C;exact⟨u,by rw[u];exact B,C,U8 h0,z,A⟩
def zAt (hj:y.tdiv 256 % 4=3):zO 98 [zE yA b,iA a,iA y] [] (zE yA (b.take k.toNat)) []:=by
 obtain⟨A,u,z,B,C,E⟩:=IZ b a y k hl hn h0 hk 3 hj;clear hk hj;unfold zE;refine eM call98 λF hF=>?_
 exact nm (xW u z)
def zAu (hj:y.tdiv 256 % 4=2):zO 98 [zE yA b,iA a,iA y] [] (zE yA (b.take k.toNat++[IntKind.u8.wrap y]++b.drop k.toNat)) []:=by
 obtain⟨A,u,z,C,E,G⟩:=IZ b a y k hl hn h0 hk 2 hj;clear hk hj;have e:zE yA (b.take k.toNat++[IntKind.u8.wrap y]++b.drop k.toNat)= .sl false ((b.take k.toNat).map yA++[yA (IntKind.u8.wrap y)]++(b.drop k.toNat).map yA):=by rw[zE,zBd,zBd];rfl
 rw[e];unfold zE;have B:(b.take k.toNat).length=k.toNat:=by rw[zBv];omega
 refine eM call98 λF hF=>?_
 (have ga:=u;have ge:=z;(repeat' (first|refine WYX ?_|apply yW|apply xH|intro hc|(apply zG;first|refine SL ?_)|refine SB ?_|fail))<;>clear ga ge)
 (repeat' (first|refine jX ?_|apply yW|apply xH|intro hc|(apply zG;first|(apply yI;refine vD tok Z Z ?_)|(apply yE;refine xE 1001 tok Z Z Z Z Z Z (yM _ _ (λ_=>rfl)) Z Z Z (by first|omega|(simp;omega)) Z Z Z ?_))|refine SB ?_|fail))
 exact zI [] Z Z (zBq (AV.sl false) zA8) Z
def T8 (hj:y.tdiv 256 % 4=0):zO 98 [zE yA b,iA a,iA y] [] (zE yA (b.set k.toNat (IntKind.u8.wrap y))) []:=by
 obtain⟨A,u,z,E,B,C⟩:=IZ b a y k hl hn h0 hk 0 hj;clear hk hj;have e:zE yA (b.set k.toNat (IntKind.u8.wrap y))= .sl false ((b.map yA).set k.toNat (yA (IntKind.u8.wrap y))):=by rw[zE,zCs]
 rw[e];have G:=yF yA b k B C;unfold zE;refine eM call98 λF hF=>?_
 (have ga:=u;have ge:=z;(repeat' (first|refine uT ?_|apply yW|apply xH|intro hc|(apply zG;first|(apply yE;refine xE 1001 tok Z Z Z Z Z Z (yM _ _ (λ_=>rfl)) Z Z Z zB Z Z Z ?_))|fail))<;>clear ga ge)
 exact zI [] Z Z (zBq (AV.sl false) (by rw[zBr];exact zBf zV)) Z
def S8 (hj:y.tdiv 256 % 4=1) (h1:1<=k) (h2:k+1<ln b):zO 98 [zE yA b,iA a,iA y] [] (zE yA (b.take k.toNat++b.drop (k.toNat+1))) []:=by
 obtain⟨E,A,B,G,I,L⟩:=IZ b a y k hl hn h0 hk 1 hj;clear hk hj
 have C:∀y∈b.map yA,ln y.cells=1:=λy u=>by
  rw[zCl]at u;obtain⟨z,_,rfl⟩:=u;rfl
 have e:zE yA (b.take k.toNat++b.drop (k.toNat+1))= .sl false ((b.map yA).take k.toNat++(b.map yA).drop (k.toNat+1)):=by rw[zE,zBd,zEk,zD2]
 rw[e];unfold zE;refine eM call98 λF hF=>?_
 (have ga:=A;have ge:=B;(repeat' (first|refine I1 ?_|apply yW|apply xH|intro hc|(apply zG;first|(apply yE;refine xE 1001 tok Z Z Z Z Z Z (yM _ _ (λ_=>rfl)) Z Z Z zB Z Z Z ?_))|fail))<;>clear ga ge)
 apply xC
 (repeat' (first|refine uT ?_|apply yW|apply xH|intro hc|(apply zG;first|(apply gU;first|refine dM tok Z Z Z Z Z Z Z zB zB Z ?_|refine Wg tok Z Z Z Z Z Z Z zB zB Z ?_)|(apply yE;refine Bf tok Z Z Z Z Z Z Z Z (λy u=>C y (zCc (zC2 (zCq u)))) qD zB qD zB Z Z ?_))|fail))
 refine zI [] Z Z (zBq (AV.sl false) ?_) Z
 have hv:pb ((b.map yA).length-(k+1).toNat) (pi (k+1).toNat (b.map yA))=pi (k.toNat+1) (b.map yA):=by
  rw[show(k+1).toNat=k.toNat+1 by omega];exact zBf BT
 rw[hv,zBr];exact List.take_left' (by rw[zBa,zBv];omega)
def R8 (hj:y.tdiv 256 % 4=1) (h2:k+1=ln b):zO 98 [zE yA b,iA a,iA y] [] (zE yA (b.take k.toNat)) []:=by
 obtain⟨A,u,z,B,C,E⟩:=IZ b a y k hl hn h0 hk 1 hj;clear hk hj;have e:zE yA (b.take k.toNat)= .sl false ((b.map yA).take k.toNat):=by rw[zE,zEk]
 rw[e]
 have hv:((b.map yA).drop (k+1).toNat).take ((b.map yA).length-(k+1).toNat)=[]:=by
  rw[show(b.map yA).length-(k+1).toNat=0 by omega,zEm]
 unfold zE;refine eM call98 λF hF=>?_
 (have ga:=u;have ge:=z;(repeat' (first|refine I1 ?_|apply yW|apply xH|intro hc|(apply zG;first|(apply yE;refine xE 1001 tok Z Z Z Z Z Z (yM _ _ (λ_=>rfl)) Z Z Z zB Z Z Z ?_))|fail))<;>clear ga ge)
 apply xC
 (repeat' (first|refine uT ?_|apply yW|apply xH|intro hc|(apply zG;first|(apply gU;first|refine dM tok Z Z Z Z Z Z Z zB zB Z ?_|refine Wg tok Z Z Z Z Z Z Z zB zB Z ?_)|(apply yE;refine wJ (iq tok Z Z Z Z Z Z ((zBq some hv:some _=_))) Z ?_))|fail))
 exact zH
def Q8 (hj:y.tdiv 256 % 4=1) (h2:k=0) (G:1<ln b):zO 98 [zE yA b,iA a,iA y] [] (zE yA (b.drop 1)) []:=by
 obtain⟨E,A,B,I,L,M⟩:=IZ b a y k hl hn h0 hk 1 hj;subst h2;clear hk hj
 have C:∀y∈b.map yA,ln y.cells=1:=λy u=>by
  rw[zCl]at u;obtain⟨z,_,rfl⟩:=u;rfl
 have e:zE yA (b.drop 1)= .sl false ((b.map yA).drop 1):=by rw[zE,zD2]
 rw[e];unfold zE;refine eM call98 λF hF=>?_
 (have ga:=A;have ge:=B;(repeat' (first|refine I1 ?_|apply yW|apply xH|intro hc|(apply zG;first|(apply yE;refine xE 1001 tok Z Z Z Z Z Z (yM _ _ (λ_=>rfl)) Z Z Z zB Z Z Z ?_))|fail))<;>clear ga ge)
 apply xC
 (repeat' (first|refine WS ?_|refine SG (I2 (λhc=>?_) λhc=>?_)|refine SG λhc=>?_|(apply zG;first|(apply gU;first|refine dM tok Z Z Z Z Z Z Z zB zB Z ?_|refine Yf tok Z Z Z Z Z Z Z Z ?_))|(first|refine EA 7 9 Z Z ?_|first|refine SR ?_|refine SK (I2 (λhc=>?_) λhc=>?_)|refine SK λhc=>?_|fail)|fail))
 refine Vd gY ?_;refine X5 [] [] tok Z Z Z Z Z Z Z Z (λy u=>C y (zCc (zC2 (zCq u)))) Z Z qD qD Z Z Z Z ?_;refine WW ?_;refine zI [] Z Z ?_ Z
 show AV.sl false (pb ((b.map yA).length-1) (pi 1 (b.map yA)))=_
 rw[zBf BT]
end
def Ei (b:List Int) (hb:BY b) (A:ln b<=1000) (a y:Int) (z: -9223372036854775808<=y/\y<=9223372036854775807):∃q,BY q/\q.length<=ln b+1/\zO 98 [zE yA b,iA a,iA y] [] (zE yA q) []:=by
 have C:=V8 y;by_cases hl:1<=ln b
 case neg=>
  have e:b=[]:=zB5 zB;subst e;exact⟨_,λx u=>by rw[zB1]at u;subst u;exact C,by simp,zAs a y z⟩
 have G:=zEe a (show(ln b:Int)≠0 by omega);have I:=zDy a (show 0<(ln b:Int) by omega);have j0:=zEe (y.tdiv 256) (show(4:Int)≠0 by omega);have j1:=zDy (y.tdiv 256) (show(0:Int)<4 by omega);have hT:BY (b.take (a % (ln b:Int)).toNat):=λx u=>hb x (zC2 u)
 have B:∀n,BY (b.drop n):=λn x u=>hb x (zCc u)
 have E:(b.take (a % (ln b:Int)).toNat).length<=ln b:=by rw[zBv];omega
 obtain hj|hj|hj|hj:y.tdiv 256 % 4=0\/y.tdiv 256 % 4=1\/y.tdiv 256 % 4=2\/y.tdiv 256 % 4=3:=by omega
 .refine⟨_,λx u=>?_,by rw[zCk];omega,T8 b a y _ hl A z Z hj⟩
  rcases zDm u with h|rfl
  .exact hb x h
  .exact C
 .by_cases h2:a % (ln b:Int)+1=ln b
  .exact⟨_,hT,zB,R8 b a y _ hl A z Z hj h2⟩
  .by_cases h1:1<=a % (ln b:Int)
   .refine⟨_,λx u=>?_,?_,S8 b a y _ hl A z Z hj h1 zB⟩
    .rcases zBs.1 u with h|h
     .exact hT x h
     .exact B _ x h
    .rw[zBa,zB6,zBv];omega
   .exact⟨_,B 1,by rw[zB6];omega,Q8 b a y _ hl A z Z hj zB zB⟩
 .refine⟨_,λx u=>?_,?_,zAu b a y _ hl A z Z hj⟩
  .rcases zBs.1 u with h|h
   .rcases zBs.1 h with h|h
    .exact hT x h
    .rw[zB1]at h;subst h;exact C
   .exact B _ x h
  .rw[zBa,zBa,zB6,zBv,zDb];omega
 .exact⟨_,hT,zB,zAt b a y _ hl A z Z hj⟩
theorem LN (I:Nat->α->Prop) (R:Nat->α->α->Prop) (h:∀i a,I i a->∃b,R i a b/\I (i+1) b) (a0:α) (A:I 0 a0):∃f:Nat->α,f 0=a0/\∀i,I i (f i)/\R i (f i) (f (i+1)):=by
 have u:∀i a,∃b,I i a->R i a b/\I (i+1) b:=λi a=>by
  by_cases hi:I i a
  all_goals grind
 let f:Nat->α:=λn=>Nat.rec a0 (λi a=>(u i a).choose) n
 have z:∀i,I i (f i):=λi=>by
  induction i with
  |zero=>exact A
  |succ i B=>exact((u i (f i)).choose_spec B).2
 exact⟨f,rfl,λi=>⟨z i,((u i (f i)).choose_spec (z i)).1⟩⟩
def ZA [Inhabited α] (g:Nat->α->α) (l:List α) (i:Nat):List α:=(List.range (ln l)).map λj=>if j<i then g j (l.getD j dd)else l.getD j dd
theorem wP [Inhabited α] (g:Nat->α->α) (l:List α) (i:Nat):(ZA g l i).length=ln l:=by simp[ZA]
theorem vY [Inhabited α] (g:Nat->α->α) (l:List α) (i j:Nat):(ZA g l i)[j]? =if j<ln l then some (if j<i then g j (l.getD j dd)else l.getD j dd)else none:=by grind [ZA]
theorem qQ [Inhabited α] (g:Nat->α->α) (l:List α):ZA g l 0=l:=by apply zCf<;>grind [ZA,vY,py,List.getElem?_eq_none]
theorem lw [Inhabited α] (g:Nat->α->α) (l:List α) (i:Nat) (hi:i<ln l):ZA g l (i+1)=(ZA g l i).set i (g i (l.getD i dd)):=by
 apply zCf
 grind [ZA]
def vO [Inhabited α] (f:α->AV) (g:Nat->α->α) (l:List α) (i:Nat) (hi:i<ln l):(ZA g l (i+1)).map f=((ZA g l i).map f).set i (f (g i (l.getD i dd))):=by
 rw[lw g l i hi,zCs]
structure In where
 opn:Bool
 its:List It
instance:Inhabited In:=⟨⟨false,[]⟩⟩
instance:Inhabited It:=⟨⟨0,0,[]⟩⟩
def uI (i:In):AV:= .agg [bA i.opn,zE vE i.its]
structure En where
 ag:Int
 ki:Int
 co:Int
def kG (e:En):AV:=OQ e.ag e.ki e.co
structure TS where
 d:wE
 rs:List Ms
 en:List En
 ks:List Int
structure SS where
 d:wE
 R:List (List Ms)
 en:List En
 ks:List Int
def kW (l:List Ms):AV:=zE zX l
def zz (i:In):Prop:=ln i.its<=1000/\∀x∈i.its,BY x.pay/\x.pay.length<=100000
def P8 (c:Cf) (s f3:Int) (i:It) (a b:TS):Prop:=∃h:Hd,RZ c a.d s i f3 h/\S5 c a.d s i f3 h/\b=⟨h.d,a.rs++[h.p],a.en++[⟨a.d.rg.num,i.kind,h.e⟩],if 0<=h.k then a.ks++[h.k]else a.ks⟩
structure DD (c:Cf) (d0 d:wE):Prop where
 i:qE c d
 n:d.rg.num=d0.rg.num
 a:d.rg.ag=d0.rg.ag
 t:Oa d0 d
theorem DD.refl (h:qE c d):DD c d d:=⟨h,rfl,rfl,Oa.refl d⟩
theorem DD.trans {a b:wE} (h1:DD c a b) (h2:DD c b d):DD c a d:=⟨h2.i,h2.n.trans h1.n,h2.a.trans h1.a,h1.t.trans h2.t⟩
theorem V5 (c:Cf) (s f3:Int) (S:0<=f3) (U:f3<=1073741824) (u:List It) (O:∀x∈u,BY x.pay/\x.pay.length<=100000) (st:TS) (M:qE c st.d):
  ∃f:Nat->TS,f 0=st/\∀k,DD c st.d (f k).d/\((f k).rs.length=ln st.rs+k/\(f k).en.length=ln st.en+k/\(f k).ks.length<=ln st.ks+k/\((∀x∈st.ks,0<=x/\x<(ln c.js:Int))->∀x∈(f k).ks,0<=x/\x<(ln c.js:Int)))/\(k<ln u->P8 c s f3 (u.getD k dd) (f k) (f (k+1))):=by
 have z:∀k,BY (u.getD k dd).pay/\(u.getD k dd).pay.length<=100000:=λk=>by
  by_cases hk:k<ln u
  .grind
  .rw[zBj,zCh zB]
   show BY ([]:List Int)/\([]:List Int).length<=100000
   grind [BY,P8]
 obtain⟨f,I,E⟩:=LN (λk (a:TS)=>DD c st.d a.d/\(ln a.rs=ln st.rs+k/\a.en.length=ln st.en+k/\a.ks.length<=ln st.ks+k/\((∀x∈st.ks,0<=x/\x<(ln c.js:Int))->∀x∈a.ks,0<=x/\x<(ln c.js:Int)))) (λk a b=>P8 c s f3 (u.getD k dd) a b)
  (λk a C=>by
   obtain⟨C,h1,h2,V,G⟩:=C;obtain⟨h,L,A⟩:=Bi c a.d C.i s f3 S U _ (z k).1 (z k).2;refine⟨_,⟨h,L,A,rfl⟩,C.trans ⟨A.inv,A.num,A.ag,A.t0⟩,?_,?_,?_,λB x z=>?_⟩
   .dsimp only;rw[zBa,zDb];omega
   .dsimp only;rw[zBa,zDb];omega
   .dsimp only;split
    .rw[zBa,zDb];omega
    .omega
   .dsimp only at z;split at z
    .rename_i R
     rcases zBs.1 z with z|z
     .exact G B x z
     .rw[zB1]at z;subst z
      rcases A.rst with h9|⟨_,h8,h9⟩
      .omega
      .exact⟨h8,h9⟩
    .exact G B x z)
  st ⟨DD.refl M,zB,zB,zB,id⟩
 exact⟨f,I,λk=>⟨(E k).1.1,(E k).1.2,λ_=>(E k).2⟩⟩
def cO (ins:List In) (s:Nat):List It:=if s<ln ins/\(ins.getD s dd).opn=true then(ins.getD s dd).its else []
def sw (c:Cf) (f3:Int) (ins:List In) (s:Nat) (a b:SS):Prop:=∃f:Nat->TS,f 0=⟨a.d,[],a.en,a.ks⟩/\(∀k,k<(cO ins s).length->P8 c (s:Int) f3 ((cO ins s).getD k dd) (f k) (f (k+1)))/\(∀k,DD c a.d (f k).d/\(f k).rs.length=k/\(f k).en.length=ln a.en+k/\(f k).ks.length<=ln a.ks+k)/\
 b=⟨(f (cO ins s).length).d,a.R++[(f (cO ins s).length).rs],(f (cO ins s).length).en,(f (cO ins s).length).ks⟩
theorem HA {ins:List In} (h:∀i∈ins,zz i) (s:Nat):(cO ins s).length<=1000/\∀x∈cO ins s,BY x.pay/\x.pay.length<=100000:=by
 unfold cO;split
 .grind [zz,cO,BY,List.getElem?_eq_getElem,List.getElem_mem]
 all_goals grind
def iw (c:Cf) (f3:Int) (L:0<=f3) (M:f3<=1073741824) (ins:List In) (A:∀i∈ins,zz i) (d:wE) (G:qE c d):
  ∃F:Nat->SS,F 0=⟨d,[],[],[]⟩/\∀s,DD c d (F s).d/\((F s).R.length=s/\(F s).en.length<=1000*s/\(F s).ks.length<=1000*s/\∀x∈(F s).ks,0<=x/\x<(ln c.js:Int))/\sw c f3 ins s (F s) (F (s+1)):=by
 obtain⟨F,C,hF⟩:=LN (λs (a:SS)=>DD c d a.d/\(ln a.R=s/\a.en.length<=1000*s/\a.ks.length<=1000*s/\∀x∈a.ks,0<=x/\x<(ln c.js:Int))) (λs a b=>sw c f3 ins s a b)
  (λs a z=>by
   obtain⟨z,h1,h2,O,E⟩:=z;obtain⟨hl,hb⟩:=HA A s;obtain⟨f,B,u⟩:=V5 c (s:Int) f3 L M (cO ins s) hb ⟨a.d,[],a.en,a.ks⟩ z.i;have hL:=u (cO ins s).length;refine⟨_,⟨f,B,λk hk=>(u k).2.2 hk,λk=>⟨(u k).1,by have:=(u k).2.1.1;simpa using this,(u k).2.1.2.1,(u k).2.1.2.2.1⟩,rfl⟩,z.trans hL.1,?_,?_,?_,hL.2.1.2.2.2 E⟩
   .dsimp only;rw[zBa,zDb];omega
   .have:=hL.2.1.2.1;dsimp only at *;omega
   .have:=hL.2.1.2.2.1;dsimp only at *;omega)
  ⟨d,[],[],[]⟩ ⟨DD.refl G,rfl,zBn _,zBn _,λx I=>by cases I⟩
 exact⟨F,C,λs=>⟨(hF s).1.1,(hF s).1.2,(hF s).2⟩⟩
def QN (ins:List In) (s:Nat) (b:Bool):Bool:=if s<ln ins/\(ins.getD s dd).opn=true then b else false
def Vg (ins:List In) (l:List Bool):List Bool:=ZA (QN ins) l (ln l)
def Zq (d:wE) (ins:List In):wE:=⟨d.rg,d.rq,d.dr,Vg ins d.au⟩
def O8 (h:qE c d) (ins:List In):qE c (Zq d ins):=
 ⟨h.b,h.v,h.q,h.lg,h.a,h.n,h.t8,h.br,h.bb,h.bl,by show((Vg ins d.au).length:Int)=_;unfold Vg;rw[wP];exact h.au,h.dn,h.dr,h.vh⟩
def Zw (d:wE) (f3:Int):wE:=⟨d.rg,DA d.rq f3,d.dr,d.au⟩
theorem N8 (h:qE c d) (f3:Int) (u:0<=f3) (z:f3<=1073741824):qE c (Zw d f3):=by
 refine⟨h.b,B7 h.v f3 u z,?_,λr B g A=>?_,h.a,h.n,h.t8,h.br,h.bb,h.bl,h.au,h.dn,h.dr,h.vh⟩
 .show((DA d.rq f3).length:Int)<=_
  unfold DA;rw[zA6];exact h.q
 .obtain⟨x,C,rfl⟩:=zCl.1 B;obtain⟨y,E,rfl⟩:=zCl.1 A;obtain⟨e1,G,_⟩:=Ho y f3 u z;have:=h.lg x C y E
  grind
def YJ (x:wE):List AV:=[iA x.rg.num,zE yA x.rg.ag.sec,iA x.rg.ag.rights,iA x.rg.ag.cls,zE iA x.rg.ag.lim,iA x.rg.ag.req,iA x.rg.ag.ses,iA x.rg.ag.rate,iA x.rg.ag.burst,zE yN x.rg.tk,zE wX x.rg.vh,iA x.rg.bk.level,iA x.rg.bk.rate,iA x.rg.bk.burst,zE zY x.rq,zE qO x.dr,zE bA x.au]
def Yw (d:wE) (R:List (List Ms)) (E:List En) (K:List Int):AV:= .tup [zM d,zE kW R,zE kG E,zE iA K]
def YL {i:Nat} {y:AV} (h:xs[i]? =some y):xs.set i y=xs:=by
 apply zCf;intro j;rw[zD5];by_cases u:i=j
 .subst u;have hi:=(zBw.1 h).1;rw[zA5 Z,zA5 hi,h]
 .rw[Os u]
def M8 (g:Nat->Bool->Bool) (l:List Bool) (k:Nat):pb (l.map bA).length (pi 0 ((ZA g l k).map bA))=(ZA g l k).map bA:=by
 rw[zBr];exact zBf (by rw[zA6,zA6,wP];exact zBb _)
def Yq {g:Nat->Bool->Bool} {l:List Bool} {n:Nat} (h:ln l=n):List.take n (List.drop 0 ((ZA g l k).map bA))=(ZA g l k).map bA:=by
 rw[zBr];exact zBf (by rw[zA6,wP,h];exact zBb _)
theorem Xw (hI:qE c d) (ins:List In) (br:ln ins<=1000) (a3:∀i∈ins,zz i) (f3:Int) (n0:0<=f3) (n1:f3<=1073741824) (u:Nat->SS) (ag:u 0=⟨Zq d ins,[],[],[]⟩)
 (hz:∀s,DD c (Zq d ins) (u s).d/\((u s).R.length=s/\(u s).en.length<=1000*s/\(u s).ks.length<=1000*s/\∀x∈(u s).ks,0<=x/\x<(ln c.js:Int))/\sw c f3 ins s (u s) (u (s+1))):
  zO 56 [wD c,zM d,zE uI ins,iA f3] [] (Yw (Zw (u (ln d.au)).d f3) (u (ln d.au)).R (u (ln d.au)).en (u (ln d.au)).ks) []:=by
 have bl:1<=ln d.au/\d.au.length<=2:=by have:=hI.au;have:=hI.a.e;omega
 have kc:=LQ d hI.bd;have bk:=zA bA d.au;have a8:=zA uI ins;have km:=pv (u (ln d.au)).d.rq f3 (hz (ln d.au)).1.i.v;have W:wD c= .agg [.sl false (c.js.map wK),.sl false (c.ags.map vP),iA c.per,iA c.cap,iA c.hold,iA c.lock]:=rfl;have bb:∀d:wE,zM d= .agg (YJ d):=λ_=>rfl
 rw[W];unfold XS zM xD at kc;have e0:=qQ (QN ins) d.au;refine eM call56 λF hF=>?_
 refine zS kc ?_;refine zN (ln d.au) [1004,4,5,8,12] [4,5,8,12] [2,3,4,5,8,12,13,14,15,29] [30,2,3,4,5,8,12,13,14,15,29] Z (λi T U=>⟨(30,iA i)::T,(1004,.arr 1 ((ZA (QN ins) d.au i).map bA) false)::U⟩) ?_;(conv=>whnf);refine⟨by(rw[e0];rfl),?_,?_⟩
 .intro i hi;have a6:((ZA (QN ins) d.au i).map bA)[i]? =some (bA (d.au.getD i dd)):=by rw[zBe,vY,zA5 hi,Os (zD3 i)];rfl
  have cc:((ZA (QN ins) d.au i).map bA).length=ln d.au:=by rw[zA6,wP]
  rw[vO bA (QN ins) d.au i hi];have S:=YL a6;generalize (ZA (QN ins) d.au i).map bA=xs,d.au.getD i dd=b9 at *;unfold QN;by_cases h1:i<ln ins
  .have hy:=zJ uI ins i h1;generalize ins.getD i dd=x at *;obtain⟨op,z⟩:=x;rw[show uI ⟨op,z⟩= .agg [bA op,zE vE z]from Z]at hy;cases op
   .rw[Os (λh=>by cases h.2)];refine WW ?_;rfl
   .rw[zA5 ⟨h1,rfl⟩,S];refine WW ?_;rfl
  .rw[Os (λh=>h1 h.1)];refine WW ?_;rfl
 ·(refine WW ?_)
  refine wB [4,8,12] [2,3,4,8,12,13,14,15,52,53] Z ?_
  (conv=>whnf)
  rw[M8];refine zQ 13 1001 1 Z Z Z ?_;refine zQ 14 1002 3 Z Z Z ?_;refine zQ 15 1003 1 Z Z Z ?_;refine zN (ln d.au) [12,1001,1002,1003,4,8] [4,8] [2,3,4,8,12,52] [13,14,15,53,2,3,4,8,12,52] Z (λi T U=>⟨(13,.ref 1001 0 ((u i).R.map kW).length)::(14,.ref 1002 0 ((u i).en.map kG).length)::(15,.ref 1003 0 ((u i).ks.map iA).length)::(53,iA i)::T,(12,.box (YJ (u i).d))::(1001,.arr 1 ((u i).R.map kW) true)::(1002,.arr 3 ((u i).en.map kG) true)::(1003,.arr 1 ((u i).ks.map iA) true)::U⟩) ?_;(conv=>whnf);refine⟨by(rw[ag];rfl),?_,?_⟩
  .intro s hs;obtain⟨hT,⟨ax,az,a1,_⟩,A,I,E,C,B⟩:=hz s;have b5:(u s).R.length<=2:=by omega
   have a9:(u s).en.length<=2000:=by omega
   have ba:(u s).ks.length<=2000:=by omega
   rw[B];dsimp only;clear ag hz km kc ax az a1;have b1:=zA kW (u s).R;have b2:=zA kG (u s).en;have b3:=zA iA (u s).ks;by_cases M:s<ln ins/\(ins.getD s dd).opn=true
   .have G:cO ins s=(ins.getD s dd).its:=by unfold cO;rw[zA5 M]
    have a2:=(HA a3 s).1;rw[G]at E a2⊢;have hy:=zJ uI ins s M.1;obtain⟨cb,a4⟩:=M;generalize ins.getD s dd=x at *;obtain⟨op,z⟩:=x;dsimp only at *;subst a4;rw[show uI ⟨true,z⟩= .agg [bA true,zE vE z]from Z]at hy;have a7:=zA vE z;have L:∀y:List Ms,((u s).R++[y]).map kW=(u s).R.map kW++[kW y]:=λy=>by simp
    rw[L];clear L B G
    (repeat' (first|refine J9 ?_|apply yW|apply xH|intro hc|(apply zG;first|refine SM ?_)|fail))
    apply xC
    (repeat' (first|refine Tc ?_|apply yW|apply xH|intro hc|(apply zG;first|refine SM ?_)|fail))
    refine zQ 18 1006 4 Z Z Z ?_;refine WW ?_;refine zU (z) [12,1002,1003,1006,4,8,1001] [4,8,1001] [2,3,4,8,12,13,17,52,53,71,72] [14,15,18,73,2,3,4,8,12,13,17,52,53,71,72] Z (λi f4 T U=>⟨(14,.ref 1002 0 ((A i).en.map kG).length)::(15,.ref 1003 0 ((A i).ks.map iA).length)::(18,.ref 1006 0 ((A i).rs.map zX).length)::(73,iA i)::T,(12,.box (YJ (A i).d))::(1002,.arr 3 ((A i).en.map kG) true)::(1003,.arr 1 ((A i).ks.map iA) true)::(1006,.arr 4 ((A i).rs.map zX) true)::U⟩) ?_;(conv=>whnf);refine⟨by(rw[I];rfl),?_,?_⟩
    .intro k f4 it post hx hk;have a5:=yG vE hx hk;have ac:=zW hx hk;have O:z.getD k dd=it:=by rw[hx,<-hk];simp[py]
     obtain⟨h,hB,hP,B⟩:=E k ac;rw[O]at hB;obtain⟨bs,bu,bx,bz⟩:=C k;have b6:=zA kG (A k).en;have b7:=zA iA (A k).ks;have ca:=zA zX (A k).rs;have V:=hB.2.1;rw[B];dsimp only;rw[show((A k).rs++[h.p]).map zX=(A k).rs.map zX++[zX h.p] by simp,show∀e:En,((A k).en++[e]).map kG=(A k).en.map kG++[kG e]from λe=>by simp,O];rw[W]at V;unfold DE zM xD vE at V;unfold vE at a5;clear hx O B E C hB hP hT;generalize (A k).rs.map zX=cd,(A k).en.map kG=av,h.p=p9,h.e=e9,h.d=d9 at *;generalize b0:h.k=k9 at *;generalize (A k).d=ar at *;obtain⟨pk,pt,pa,pd⟩:=p9;unfold zX OQ at V;dsimp only at V;unfold YJ kG OQ zX;by_cases h0:0<=k9
     .rw[zA5 h0,show((A k).ks++[k9]).map iA=(A k).ks.map iA++[iA k9] by simp];generalize (A k).ks.map iA=ap at *;refine zS V ?_;rfl
     .rw[Os h0];generalize (A k).ks.map iA=ap at *;refine zS V ?_;rfl
    ·(repeat' (first|refine Tc ?_|apply yW|apply xH|intro hc|(apply zG;first|refine SM ?_)|fail))
     refine wB [4,8,12,1001,1002,1003] [2,3,4,8,12,13,14,15,18,52,53,74] Z ?_
     (conv=>whnf)
     simp only[zBr,zA8];have b4:((A (ln z)).rs.map zX).length<=2000:=by rw[zA6];have:=(C (ln z)).2.1;omega
     rw[show kW (A (ln z)).rs= .sl false ((A (ln z)).rs.map zX)from Z];clear E C hT I;generalize A (ln z)=zl at *;refine WW ?_;rfl
   .have G:cO ins s=[]:=by unfold cO;rw[Os M]
    rw[G,zCd,I];dsimp only;have Y:((u s).R++[([]:List Ms)]).map kW=(u s).R.map kW++[kW []]:=by rw[zBd];rfl
    rw[Y];clear G E C I B hT Y;generalize (u s).R.map kW=r9,(u s).en.map kG=av,(u s).ks.map iA=ap,(u s).d=ar at *;unfold YJ;by_cases h1:s<ln ins
    .have hy:=zJ uI ins s h1
     have M:(ins.getD s dd).opn=false:=by
      cases h:(ins.getD s dd).opn with
      |false=>rfl
      |true=>exact absurd ⟨h1,h⟩ M
     generalize ins.getD s dd=x at *;obtain⟨op,z⟩:=x;dsimp only at M;subst M;rw[show uI ⟨false,z⟩= .agg [bA false,zE vE z]from Z]at hy
     (repeat' (first|refine J9 ?_|apply yW|apply xH|intro hc|(apply zG;first|refine SM ?_)|fail))
     apply xC
     (repeat' (first|refine Tc ?_|apply yW|apply xH|intro hc|(apply zG;first|refine SM ?_)|fail))
     refine Xm 18 Z Z Z ?_;refine WW ?_;rfl
    ·(repeat' (first|refine J9 ?_|apply yW|apply xH|intro hc|(apply zG;first|refine SM ?_)|fail))
     apply xC
     (repeat' (first|refine Tc ?_|apply yW|apply xH|intro hc|(apply zG;first|refine SM ?_)|fail))
     refine Xm 18 Z Z Z ?_;refine WW ?_;rfl
  .generalize bf:u (ln d.au)=Fn at *;unfold YJ;refine zS km ?_;refine zI [] Z Z ?_ Z
   show AV.tup [zM (Zw Fn.d f3),.sl false (pb _ (pi 0 (Fn.R.map kW))),.sl false (pb _ (pi 0 (Fn.en.map kG))),.sl false (pb _ (pi 0 (Fn.ks.map iA)))]=_
   simp only[zBr,zA8];rfl
section
variable {P:Program} {K0:List Nat} {F:Fr K0} {m:Nat} {tm:List (Nat×AV)} {h:List (Nat×xV)}
theorem wL.recell {a:Act} {w:World} (R:wL F m ⟨tm,h⟩ a w) (k i K:Nat) {ys:List AV} {M:Bool} {Y:Nat} {S:Fl} (hk:zD h k=some (.arr 1 xs ⟨M,true⟩)) (hv:xs[i]? =some (.s (.slice none 0 0))) (hK:zD h K=some (.arr Y ys S)) (ar:K≠k):
  wL F m ⟨tm,(k,.arr 1 (xs.set i (.ref K 0 0)) ⟨M,true⟩)::h⟩ a w:=by
 obtain⟨⟨X,β,hX,H,Ht,G,hJ,hD⟩,nd,gs,hl⟩:=R;have u:∀j,j≠k->zD ((k,.arr 1 (xs.set i (.ref K 0 0)) ⟨M,true⟩)::h) j=zD h j:=λj hj=>by rw[xK,Os hj]
 have L:zD ((k,.arr 1 (xs.set i (.ref K 0 0)) ⟨M,true⟩)::h) k=some (.arr 1 (xs.set i (.ref K 0 0)) ⟨M,true⟩):=by rw[xK,zA5 Z]
 have A:(xs.set i (.ref K 0 0)).length=ln xs:=zCk
 have E:EZ w (xT X β) (zD h) β w (xT X β) (zD ((k,.arr 1 (xs.set i (.ref K 0 0)) ⟨M,true⟩)::h)) β:=⟨zBb _,λb _ hd=>⟨rfl,hd⟩,λ_ _ _ _=>rfl,λj e C=>by
  by_cases hj:j=k
  .subst hj;rw[hk]at C;cases C;exact .inr ⟨⟨xs.set i (.ref K 0 0),⟨M,true⟩,L,by rw[A];exact zBb _⟩,λb n hm=>⟨n,zBb _,hm⟩⟩
  .have:=jB (zD h) β j e C
   rcases this with h1|h1
   .exact .inl (by rw[u j hj];exact h1)
   .refine .inr ?_
    cases e with
    |dead=>exact h1
    |box cs=>obtain⟨⟨z,h2⟩,I⟩:=h1;exact⟨⟨z,by rw[u j hj];exact h2⟩,I⟩
    |obj cs=>obtain⟨⟨z,h2⟩,I⟩:=h1;exact⟨⟨z,by rw[u j hj];exact h2⟩,I⟩
    |arr W ac st'=>obtain⟨⟨x2,s2,h2,I⟩,h4⟩:=h1;exact⟨⟨x2,s2,by rw[u j hj];exact h2,I⟩,h4⟩⟩
 have H':jM X (zD ((k,.arr 1 (xs.set i (.ref K 0 0)) ⟨M,true⟩)::h)) β w:=by
  refine⟨λj e C=>?_,λj hj=>?_,H.disj,H.free,H.lt⟩
  .by_cases hj:j=k
   .subst hj;rw[L]at C;cases C;obtain⟨e1,e2,e3,e4,e5,f,e6,e7,e8⟩:=H.ent j _ hk;refine⟨e1,by rw[A];exact e2,λB=>e3 λh0=>B (by rw[h0];rfl),λU x B=>?_,λb n r hr=>by rw[A];exact e5 b n r hr,f,λU x l v B O=>⟨?_,λh=>by cases h⟩,λU j' h1 h2=>e7 U j' (by rw[<-A];exact h1) h2,e8⟩
    .rw[zD5]at B;split at B
     .split at B
      .cases B;rfl
      .cases B
     .exact e4 U x B
    .rw [zD5]at B;split at B
     .rename_i ap;subst ap;split at B
      .cases B
       cases l with
       |zero=>
        have au:v= .ref K 0 0:=by simpa [AV.cells]using O.symm
        subst au;have h6:=e6.toV i _ 0 _ hv Z;rw[h6.s_inv];exact .ref0 K 0 Y ys S none (by rw[u K ar];exact hK) (zBn _)
       |succ l=>simp[AV.cells]at O
      .cases B
     .exact(e6.toV U x l v B O).evo E
   .rw[u j hj]at C;exact(H.ent j e C).evo E Z λ_ _ _=>rfl
  .rw[xK]at hj;split at hj
   .cases hj
   .exact H.off j hj
 refine⟨⟨X,β,hX,H',λt=>(Ht t).evo E,⟨λj e C=>?_,G.size,G.keep,G.own,G.pas,G.bs,G.os,G.tape,G.output⟩,hJ,hD⟩,λj=>?_,gs,hl⟩
 .have:=G.knd j e C;by_cases hj:j=k
  .subst hj
   cases e with
   |dead=>exact this
   |box cs=>obtain⟨z,h2⟩:=this;(try dsimp only at h2);rw[hk]at h2;cases h2
   |obj cs=>obtain⟨z,h2⟩:=this;(try dsimp only at h2);rw[hk]at h2;cases h2
   |arr W ac av=>obtain⟨ag,V,h2,I⟩:=this;(try dsimp only at h2);rw[hk]at h2;cases h2;exact⟨_,_,L,by rw[A];exact I⟩
  .cases e with
   |dead=>exact this
   |box cs=>obtain⟨z,h2⟩:=this;exact⟨z,by dsimp only;rw[u j hj];exact h2⟩
   |obj cs=>obtain⟨z,h2⟩:=this;exact⟨z,by dsimp only;rw[u j hj];exact h2⟩
   |arr W ac av=>obtain⟨ag,V,h2,I⟩:=this;exact⟨ag,V,by dsimp only;rw[u j hj];exact h2,I⟩
 .dsimp only;by_cases hj:j=k
  .subst hj;rw[L];intro hd;cases hd
  .rw[u j hj];exact nd j
def VT {c:Code} {Q:Exit->St->Prop} (k i K:Nat) {z ys:List AV} {C:Bool} {B:Nat} {A:Fl} (hk:zD h k=some (.arr 1 xs ⟨C,true⟩)) (hv:xs[i]? =some (.s (.slice none 0 0))) (E:zD h K=some (.arr B ys A)) (u:Nat.beq K k=false) (G:xs.set i (.ref K 0 0)=z)
 (I:uG P F m c ⟨tm,(k,.arr 1 z ⟨C,true⟩)::h⟩ Q):uG P F m c ⟨tm,h⟩ Q:=
 ⟨λa w R=>I.run a w (G▸R.recell k i K hk hv E (λe=>by rw[e,Nat.beq_refl]at u;cases u))⟩
end
