/- Part 19. -/
import Derived.Test.YtaglbcjljlkjcaaGreatT18
namespace Go.Proofs.YtaglbcjljlkjcaaGreat.Av
open Tryz
set_option linter.all false
set_option maxRecDepth 4000
set_option maxHeartbeats 8000000
open List renaming length->ln,take->oj,drop->pb,getD->pi
open Inhabited renaming default->dd
variable {c:Cf}{xs:List AV}{T e k sz:Nat}{x:Operand}{te ti:TI}{α:Type}{d:wD}
theorem Yg (d:Dk):∀i,∀j∈(LU d i).1,∃e,j=MG e
 |0=>λj hj=>by simp[LU]at hj
 |i+1=>λj hj=>by
  simp only[LU,zBq,zBz]at hj
  rcases hj with hj|hj
  .exact Yg d i j hj
  .exact⟨_,hj⟩
def vq (d:Dk) (r:Int):(EA d r).js=(LU (ad (Gy d)) (J6 d)).1:=by rw[EA,Si]
def Xg (d:Dk) (r:Int):(EA d r).ags=(SO (ad (Si d).2) r (F4 d)).1:=by rw[EA,E4]
def m8 (d:Dk) (u:Int):1<=(EA d u).js.length/\(EA d u).js.length<=2/\1<=(EA d u).ags.length/\(EA d u).ags.length<=3:=by
 have h1:=yQ (Gy d) 2 zB;have h2:=yQ (Si d).2 3 zB;rw[vq,Xg,OK,cX];unfold J6 F4;omega
def l8 (d:Dk) (n r:Int) (z:0<=r/\r<=63):Uy (Cm d n r):=by
 have A:=yQ d (3-1+1) zB;have w2:=yQ (ad d) (3-1+1) zB;have B:=yQ (ad (ad d)) 3 zB;have C:=yQ (ad (ad (ad d))) 3 zB;have E:=yQ (ad (ad (ad (ad d)))) (3-1+1) zB;have G:=yQ (ad (ad (ad (ad (ad d))))) (2-1+1) zB;have I:=yQ (ad (ad (ad (ad (ad (ad d)))))) (3-1+1) zB;have L:=yQ (Kr d) 5 zB;unfold Cm;refine⟨by dsimp only;rw[gZ];rfl,rfl,λx u=>?_,z,by dsimp only;omega,by dsimp only;omega,by dsimp only;omega,by dsimp only;omega,by dsimp only;omega⟩;simp only[zCt,List.not_mem_nil,or_false]at u
 rcases u with rfl|rfl|rfl|rfl<;>omega
structure AgD (a:Ag) (n:Int):Prop where
 v:Uy a
 s:a.sec=cO (1000+n)
 q:1<=a.req/\a.req<=3
 b:1<=a.rate/\a.burst<=7
def s8 (d:Dk) (n r:Int) (u:0<=r/\r<=63):AgD (Cm d n r) n:=by
 have z:=yQ (ad (ad (ad (ad d)))) (3-1+1) zB;have A:=yQ (ad (ad (ad (ad (ad (ad d)))))) (3-1+1) zB;have B:=yQ (Kr d) 5 zB;exact⟨l8 d n r u,rfl,by unfold Cm;dsimp only;omega,by unfold Cm;dsimp only;omega⟩
theorem uq (d:Dk) (r:Int) (u:0<=r/\r<=63):∀i k,k<i->AgD ((SO d r i).1.getD k dd) k/\((SO d r i).1.getD k dd).rights=r
 |0,k,h=>by omega
 | i+1,k,h=>by
  rw[Mp,zBk];by_cases hk:k<i
  .rw[zB8 (by rw[cX];exact hk),<-zBk];exact uq d r u i k hk
  .obtain rfl:k=i:=by omega
   rw[zCa (by rw[cX];omega),cX,zEb];exact⟨s8 _ _ _ u,rfl⟩
def X5 (d:Dk) (r:Int) (u:0<=r/\r<=63) (k:Int) (z:0<=k) (h1:k<((EA d r).ags.length:Int)):AgD ((EA d r).ags.getD k.toNat dd) k/\((EA d r).ags.getD k.toNat dd).rights=r:=by
 rw[Xg]at h1⊢;rw[cX]at h1;have:=uq (ad (Si d).2) r u (F4 d) k.toNat zB;rw[show((k.toNat:Nat):Int)=k by omega]at this;exact this
def W5 {a:Ag} (hv:Uy a) (n:Int) (C:0<=n/\n<4):qC c (PE n a a.ses.toNat):=by
 have I:=hv.e;have L:=hv.q;have hb:=hv.b;have M:=hv.t;have E:=F7 n a hv;have e1:(PA n a).ag=a:=rfl;have A:(PA n a).num=n:=rfl;have e3:(PA n a).tk.length=8:=by simp[PA,Lf]
 have B:(PA n a).vh=[]:=rfl;have u:(PA n a).bk=⟨a.burst,a.rate,a.burst⟩:=rfl;unfold PE;generalize hN:a.ses.toNat=N;generalize PA n a=r at *;constructor
 .exact E
 .exact⟨λr z=>by simp at z,List.Pairwise.nil,zBn _⟩
 .dsimp only;rw[e1];simp only[zCb];omega
 .intro r z;simp at z
 .dsimp only;rw[e1];exact hv
 .dsimp only;rw[A];exact C
 .exact e3
 .dsimp only;rw[e1,u]
 .dsimp only;rw[e1,u]
 .dsimp only;rw[e1,u];exact⟨hb.1,zDf _⟩
 .dsimp only;rw[e1,zC5];omega
 .simp
 .intro x G;simp at G
 .dsimp only;rw[B];simp
def Z8 (n:Int) (a:Ag) (hv:Uy a):zM 80 [iA n,uK a] [] (zN (PE n a a.ses.toNat)) []/\zM 85 [iA n,uK a] [] (zN (PE n a a.ses.toNat)) []:=by
 have u:=hv.e;have h1:=hv.s;have h2:=hv.l;exact⟨N4 n a a.ses.toNat zB zB zB zB,Gv n a a.ses.toNat zB zB zB zB⟩
def Y8 {l:List Tk} (h:IL l) (f3:Int):IL (ZZ l f3):=by
 refine⟨by unfold ZZ;rw[zA5,zCp];exact h.n,λt u=>?_⟩;unfold ZZ at u;rw[zCo]at u;obtain⟨j,hj,rfl⟩:=u;rw[zBv]at hj;unfold AN;split
 .exact zBn _
 .rw[zBk,zB2 hj,zDz];exact h.s _ (zEz _)
def XV (d:wD) (f3:Int):wD:=⟨P3 d.rg f3,KH d.rq f3,d.dr,d.au⟩
def X8 (h:qC c d) (f3:Int):qC c (XV d f3)/\(XV d f3).rg.ag=d.rg.ag/\(XV d f3).rg.num=d.rg.num:=by
 refine⟨?_,rfl,rfl⟩;have hl:=h.bl;have u:=h.br;have z:=h.bb;have E:=h.a.t;have B:=zCv (λx:Rq=>decide (f3<=x.til)) d.rq;have C:=h.q;refine⟨⟨Y8 h.b.tk f3,h.b.s,h.b.l,h.b.v⟩,h.v.filter _,?_,λr u g A=>h.lg r (zEu.1 u).1 g A,h.a,h.n,?_,h.br,h.bb,?_,h.au,h.dn,h.dr,h.vh⟩
 .show((d.rq.filter _).length:Int)<=d.rg.ag.req
  omega
 .show(ZZ d.rg.tk f3).length=8
  unfold ZZ;rw[zA5,zCp,h.t8]
 .show 0<=min (d.rg.bk.level+d.rg.bk.rate) d.rg.bk.burst/\min (d.rg.bk.level+d.rg.bk.rate) d.rg.bk.burst<=d.rg.ag.burst
  omega
def qq (h:qC c d) (f3:Int):zM 114 [zN d,iA f3] [] (zN (XV d f3)) []:=by
 have A:=LB d h.bd;have hl:=h.bl;have C:=h.br;have z:=h.bb;have E:=h.a.t;have hb:=h.a.b;have u:=Pu d.rg f3 h.b zB;have B:=bo d.rq f3 h.v;unfold XV;generalize P3 d.rg f3=r,KH d.rq f3=q at *;unfold zN xD at *;unfold uR at u;refine eM call114 λF hF=>?_
 exact nl (qL A u B)
def jq (h:qC c d) (f3:Int):zM 55 [zN d,iA f3] [] (zN (XV d f3)) []:=by
 have A:=kN d h.bd;have hl:=h.bl;have C:=h.br;have z:=h.bb;have E:=h.a.t;have hb:=h.a.b;have u:=Yq d.rg f3 h.b h.t8 zB;have B:=bi d.rq f3 h.v;unfold XV;generalize P3 d.rg f3=r,KH d.rq f3=q at *;unfold zN xD at *;unfold uR at u;refine eM call55 λF hF=>?_
 exact nl (qL A u B)
def dw (l:List Rq) (R:ln l<=1000) (hb:∀r∈l,ln r.legs<=1000):zM 72 [zE zY l,zE zY l] [] (bA true) []:=by
 have hl:=zA zY l;refine eM call72 λF hF=>?_
 refine WW ?_;refine zQ (l) [] [] [1,15,16] [17,1,15,16] Z (λi f4 T U=>⟨(17,iA i)::T,U⟩) (Lq ?_ ?_)
 .intro i f4 x post A hi;have O:=zZ zY A hi;have L:=zV A hi;have M:=hb x (yU A);have I:=zA yO x.legs;unfold zY zE at O;refine WW ?_;refine zQ (x.legs) [7] [7] [1,7,15,16,17,62,63] [64,1,7,15,16,17,62,63] Z (λi f4 T U=>⟨(64,iA i)::T,U⟩) (Lq ?_ ?_)
  .intro k G g C u z;have B:=zZ yO u z;have E:=zV u z;unfold yO at B;clear A u
   (repeat' (first|refine uQ ?_|apply yW|apply xG|intro hc|(apply zG;first|refine SF ?_)|fail))
   all_goals (first|rfl|(exfalso;first|(simp[xS]at hc;done)|(revert hc;simp[xS];done)))
  .clear A;refine WW ?_
   all_goals (first|rfl|(exfalso;first|(simp[xS]at hc;done)|(revert hc;simp[xS];done)))
 .exact ly
def bw (d:wD) (h:dH d):zM 22 [zN d,zN d] [] (bA true) []:=by
 have B:=Lu d.rg h.rg;have M:=dw d.rq h.q h.g;have hl:=zA qM d.dr;have G:=zA bA d.au;have E:=h.n;have C:=h.a;unfold zN xD at *;unfold uR at B;refine eM call22 λF hF=>?_
 refine yH (xU B M) ?_;refine zQ (d.dr) [2,3] [2,3] [2,3,42,43] [44,2,3,42,43] Z (λi f4 T U=>⟨(44,iA i)::T,U⟩) (Lq ?_ ?_)
 .intro i f4 x post u hi;have A:=zZ qM u hi;have z:=zV u hi;have L:=h.e x (yU u);have I:=zA yA x;unfold qM zE at A;clear u;refine WW (I2 (λhc=>?_) λhc=>?_)
  all_goals (first|rfl|(exfalso;first|(simp[xS]at hc;done)|(revert hc;simp[xS];done)))
 ·(refine WW ?_)
  refine zQ (d.au) [3] [3] [3,60,61] [62,3,60,61] Z (λi f4 T U=>⟨(62,iA i)::T,U⟩) (Lq ?_ ?_)
  .intro i f4 x post u hi;have A:=zZ bA u hi;have z:=zV u hi;unfold bA at A;clear u;refine WW (I2 (λhc=>?_) λhc=>?_)
   all_goals (first|rfl|(exfalso;first|(simp[xS]at hc;done)|(revert hc;simp[xS];done)))
  .exact ly
section
variable {P:Program} {K0:List Nat} {F:Fr K0} {m:Nat}
theorem WP.consume {st:St} {a:Act} {w:World} {X:Nat->Prop} {β:uP} (hX:R6 F X) (H:jM X (zD st.h) β w) (Ht:∀t,yJ w (xV X β) (zD st.h) β (zK st.tm t) (a.eval (.tmp t))) (z:fF F (zD st.h) β w) (hJ:∀i,zK st.tm GS= .gh i->F.J i (fh β) X w) (hD:Hz X F a.defers w)
  (nd:∀k,zD st.h k≠some .dead) (gs:m<=GS) (hl:a.tmps.size=m) (k:Nat) (K ts:List Nat) (hK:K0.all (K.contains ·)=true) (av:K.contains k=false) {w':World} {β':uP} (G:xX X w (zD st.h) β w' (over [(k,.dead)] (zD st.h)) β') {v:AV} {c:Value} (hc:xM w' (xV X β') v c)
  (hg:∀i,v≠ .gh i) (t:Nat) (ht:t<m) {st':St} (he:restr K ts ⟨st.tm,(k,.dead)::st.h⟩=st'):wM F m ⟨(t,v)::st'.tm,st'.h⟩ (a.put (some t) c) w':=by
 subst he;have eh:zD ((k,xW.dead)::st.h)=over [(k,.dead)] (zD st.h):=vF [(k,xW.dead)] st.h;rw[<-eh]at G;obtain⟨H',ag⟩:=G.hok.restr K
 have C:∀j,j∈K->j≠k:=λj hj e=>by
  grind
 have E:∀j,j≠k->zD ((k,xW.dead)::st.h) j=zD st.h j:=λj hj=>by rw[eh];exact aM _ _ hj
 have R:∀j,j∈K->zD ((k,xW.dead)::st.h) j≠some .dead:=λj hj=>by rw[E j (C j hj)];exact nd j
 have O:∀j,j∈K0->j∈K:=λj hj=>by
  grind
 have S:∀b,xV X (λj=>if j∈K then β' j else []) b->xV X β' b:=λb hd=>by
  rcases hd with hx|⟨j,n,u⟩
  .exact .inl hx
  ·(try dsimp only at u)
   split at u
   .exact .inr ⟨j,n,u⟩
   .simp at u
 have ac:GS≠t:=by omega
 refine⟨⟨X,_,hX,H',λj=>?_,⟨λj e A=>?_,zB9 z.size G.size,λb hb hi hn=>?_,λj b n u=>?_,λj b n u=>?_,λj b n u=>?_,G.os.trans z.os,G.tape.trans z.tape,G.output.trans z.output⟩,λi hi=>?_,hD.goes H G⟩,λj=>?_,gs,by simp[Act.put,hl]⟩
 .show yJ _ _ _ _ (zK ((t,v)::(restr K ts ⟨st.tm,(k,.dead)::st.h⟩).tm) j) _
  rw[xF];split
  .rename_i hj;subst hj;have e:(a.put (some j) c).eval (.tmp j)=c:=by simp[Act.put,Act.eval,hl,ht]
   rw[e];exact .fz _ _ (hc.evo (zBa _) λb _ hd=>⟨rfl,λh=>hd (S b h)⟩)
  .rename_i hj;rw[Act.eval_put (λd hd e=>hj (by injection hd with hd;injection e with e;rw[hd,e])),gF];split
   .exact ag _ _ ((Ht j).evo G.evo)
   .exact .fz _ _ (.bot _)
 .have hj:=O j (F.hh j e A);have h1:=z.knd j e A;have hr:∀W,zD ((k,xW.dead)::st.h) j=some W->zD (wX K (zD ((k,xW.dead)::st.h))) j=some (qZ K (zD ((k,xW.dead)::st.h)) W):=λW h2=>by rw[wG,zA4 hj,h2];rfl
  cases e with
  |dead=>exact h1
  |box cs=>obtain⟨V,h2⟩:=h1;exact⟨_,hr _ ((E j (C j hj)).trans h2)⟩
  |obj cs=>obtain⟨V,h2⟩:=h1;exact⟨_,hr _ ((E j (C j hj)).trans h2)⟩
  |arr sz xs sl=>obtain⟨au,ar,h2,I⟩:=h1;obtain⟨U,L,M,Y⟩:=gP K (zD ((k,xW.dead)::st.h)) sz au ar;exact⟨U,L,(hr _ ((E j (C j hj)).trans h2)).trans (by rw[M]),by rw[Y];exact I⟩
 .rw[G.keep b (zCc hb z.size),z.keep b hb hi hn];intro j n u
  rcases z.own j b n u with⟨k',B,h1⟩|h1
  all_goals grind
 ·(try dsimp only at u)
  split at u
  .rcases G.own j b n u with⟨k',B,h1⟩|h1
   .exact z.own k' b B h1
   .exact .inr (zB9 z.size h1)
  .simp at u
 .have hj:=O j (F.hK j b n u);obtain⟨B,h1,h2⟩:=z.pas j b n u
  (try dsimp only)
  rw[zA4 hj]
  cases A:zD st.h j with
  |none=>rw[H.off j A]at h2;simp at h2
  | some e=>
   have I:=(G.key j e A).resolve_left (R j hj)
   cases e with
   |dead=>exact I.elim
   |box cs=>exact⟨B,h1,I.2 b B h2⟩
   |obj cs=>exact⟨B,h1,I.2 b B h2⟩
   |arr sz xs fl=>
    obtain⟨ap,M,Y⟩:=I.2 b B h2;exact⟨ap,zB9 h1 M,Y⟩
 .obtain⟨B,_,h2⟩:=z.pas j b n u;rw[G.bs j b B h2,z.bs j b n u]
 .change zK ((t,v)::(restr K ts ⟨st.tm,(k,.dead)::st.h⟩).tm) GS= .gh i at hi
  rw[xF,Os ac,gF]at hi;split at hi
  .have h1:zK st.tm GS= .gh i:=HP hi;refine F.Jst i _ X w' w' _ (F.go G (hJ i h1)) (zBa _) (λ_ _ _=>rfl) (λb hb=>?_) (λb hb=>?_) Z Z Z
   .obtain⟨j,n,u⟩:=hb
    (try dsimp only at u)
    split at u
    .exact .inl ⟨j,n,u⟩
    .simp at u
   .obtain⟨j,n,u⟩:=hb;exact H'.lt b (.inr ⟨j,n,u⟩)
  .cases hi
 .show zD (wX K (zD ((k,xW.dead)::st.h))) j≠some .dead
  rw[wG];split
  .rename_i hj;intro h;rw[zBo]at h;obtain⟨e,he,h2⟩:=h
   cases e with
   |dead=>exact R j hj he
   |box cs=>cases h2
   |obj cs=>cases h2
   |arr a b c=>obtain⟨U,L,M,_⟩:=gP K (zD ((k,xW.dead)::st.h)) a b c;rw[M]at h2;cases h2
  .intro h;cases h
variable {ops:Array Oper} {rest:List Oper} {Q:List FP->St->Prop} {tm:List (Nat×AV)} {h:List (Nat×xW)} {fs fs':List FP} {TT:List TI} {ty:Nat} {pos:String} {after:Array Edge} {t:Nat}
theorem V5 (K ts:List Nat) (hP:uV P TT) {k:Nat} {s:Operand} {vs:List AV} {fl:Fl} {xv:AV} (hs:yY (zK tm) s= .ref k 0 0) (hk:zD h k=some (.arr sz xs fl)) (hx:yY (zK tm) x=xv) (hT:TT[T]? =some ti) (hd:ti.d= .slice e) (he:TT[e]? =some te) (bs:CX (zD h) xv=some vs)
 (Y:Nat.beq sz te.size=true) (br:∀y,vs[0]? =some y->ln y.cells=sz) (hb:Nat.ble te.bytes 65536=true) (hz:Nat.beq (ln te.zero) te.size=true) (E:1<=ln vs) (bz:ln vs<=1073741824) (M:Nat.blt t m=true) (hK:K0.all (K.contains ·)=true) (ba:K.contains k=false)
 {st':St} (bl:restr K ts ⟨tm,(k,.dead)::h⟩=st') (hr:yP P F m ops false rest ⟨(t,.sl false vs)::st'.tm,st'.h⟩ fs Q):yP P F m ops false (⟨some t,.call ⟨.builtin .append, #[s,x], #[T,T]⟩,ty,pos,after,none⟩::rest) ⟨tm,h⟩ fs Q:=⟨λa w R=>wpListIn_plain Z λKC a4=>by
 obtain⟨⟨X,β,hX,I,Ht,KK,hJ,hD⟩,nd,gs,hl⟩:=R;dsimp only at I Ht KK hJ nd;have h1:=gT (op:= .call ⟨.builtin .append, #[s,x], #[T,T]⟩) (st:=⟨tm,h⟩) Ht (λ_ _=>rfl) (x:=s) kQ hs;have h2:=gT (op:= .call ⟨.builtin .append, #[s,x], #[T,T]⟩) (st:=⟨tm,h⟩) Ht (λ_ _=>rfl) (x:=x) kQ hx;have Y:=zBy Y;have hb:=zBm hb;have hz:=zBy hz;have M:=zBm M;obtain⟨i,z,hu,hi,a2,e1,e2,e3⟩:=vB hP hT hd he;obtain⟨g1,g2,g3,g4,g5,f,g6,g7,g8⟩:=I.ent k _ hk;obtain⟨ad,cap,av,_,b3,az⟩:=cT I h2 bs br;obtain⟨b2,q,L,rfl,hS⟩:=az (λh0=>by rw[h0]at E;simp at E);obtain⟨ap,a8⟩:=hS.flat g1
 have au:∀{c w'} (_:(Builtin.append_ #[T,T] ty #[a.eval s,a.eval x]).run P w= .ok c w') {β':uP} (_:xX X w (zD h) β w' (over [(k,.dead)] (zD h)) β') (_:xM w' (xV X β') (.sl false vs) c),Oper.wpIn (DY F.ro) 0 P ⟨some t,.call ⟨.builtin .append, #[s,x], #[T,T]⟩,ty,pos,after,none⟩ a w KC (λe a' w'=>e= .normal/\∃st',Q [] st'/\wM F m st' a' w'):=by
  intro c w' u β' G hc;refine aL.wp (N:=λc1 w1=>c1=c/\w1=w') ?_ ?_
  .have:(execOp a.eval ⟨some t,.call ⟨.builtin .append, #[s,x], #[T,T]⟩,ty,pos,after,none⟩).run P w= .ok (.value c) w':=by simp[execOp,resolve,invoke,builtin,u]
   rw[this];exact⟨rfl,rfl⟩
  .rintro _ _ ⟨rfl,rfl⟩;exact a4 _ _ (hr.run _ _ (WP.consume (st:=⟨tm,h⟩) hX I Ht KK hJ hD nd gs hl k K ts hK ba G hc (λi hh=>by cases hh) t M bl))
 have a3:∀{w'},jM X (zD h) β w'->xX X w' (zD h) β w' (over [(k,.dead)] (zD h)) (bC β k []):=λH=>xX.step H k .dead [] (zBa _) (λ_ _ _=>rfl) Z Z Z (λb n M=>by simp at M) (λ_ _ _=>rfl) (λe _=> .inl Z) λ_=>yK _ _ _
 have ag:∀bd A,a.eval s= .slice bd 0 A->A<ln vs->(bd=none->A=0)->Oper.wpIn (DY F.ro) 0 P ⟨some t,.call ⟨.builtin .append, #[s,x], #[T,T]⟩,ty,pos,after,none⟩ a w KC (λe a' w'=>e= .normal/\∃st',Q [] st'/\wM F m st' a' w'):=by
  intro bd A U b1 a5
  have ac:ln vs*i.bytes<=140737488355328:=by
   have:=zDw (show (ln vs)<=1073741824 by omega) (show i.bytes<=65536 by omega);omega
  have u:(Builtin.append_ #[T,T] ty #[.slice bd 0 A,.slice (some ⟨b2,q,none⟩) (ln vs) cap]).run P w= .ok (.slice (some ⟨w.heap.size,0,none⟩) (ln vs) (grownCap w (ln vs) A e)) (w.drew.alloc (.cells ((flat L (ln vs) sz).toArray++Builtin.zeroCells z.cells (grownCap w (ln vs) A e-vs.length)) e)):=by
   cases bd with
   |none=>
    obtain rfl:=a5 Z;exact run_append_nil (P:=P) w T ty e i z hu hi a2 ⟨b2,q,none⟩ (ln vs) cap (flat L (ln vs) sz) (by rw[yB,Y,e1]) ap zB zB zB
   |some b0=>
    have:=run_append_grow (P:=P) w T ty e i z hu hi a2 b0 0 A [] zW (λj v h=>by simp at h) ⟨b2,q,none⟩ (ln vs) cap (flat L (ln vs) sz) (by rw[yB,Y,e1]) ap zB zB (growslice_fits zB (by simpa using ac));simpa using this
  have HD:=I.drew (w.drawn+1);have b4:z.cells.size=ln te.zero:=by rw[<-e3];simp
  have a9:=grownCap_ge w (ln vs) A e;have G:=xX.newFz HD ((flat L (ln vs) sz).toArray++Builtin.zeroCells z.cells (grownCap w (ln vs) A e-vs.length)) e
  have hv:=xM.newArr HD ((flat L (ln vs) sz).toArray++Builtin.zeroCells z.cells (grownCap w (ln vs) A e-vs.length)) e sz vs (grownCap w (ln vs) A e) L g1 (by unfold cB;omega) a9 hS.wide
   (λi j hi hj=>by
    rw[zC8 (by simp[yB];have:=zBs sz (show i+1<=ln vs by omega);rw[zCg,zDg]at this;omega)]
    simpa using kR L hi hj) hS.one (λi y j v hy hv=>xM.evo (w:=w) (w':={w with drawn:=w.drawn+1}) (zBa _) (λ_ _ hd=>⟨rfl,hd⟩) (hS.rep.toF Z i y j v hy hv))
  have G2:=xX.trans I (xX.drew I (w.drawn+1)) G;have G3:=a3 G2.hok;exact au (by rw[U,av];exact u) (xX.trans I G2 G3) (hv.wkF.evo G3.evo.size G3.evo.fz)
 generalize U:a.eval s=cx at h1
 cases h1 with
 |fz _ _ hf=>cases hf
 |dref _ _ _ _ a7 _=>exact absurd a7 (nd k)
 |ref0 _ _ bu bx st' bd V hn=>exact ag bd 0 U zB (λ_=>rfl)
 | ref _ _ _ bu bx st' b n A V S hn hc bk=>
  rw[hk]at V;cases V;by_cases W:ln vs<=A
  case neg=>exact ag _ A U zB (λh=>by cases h)
  obtain⟨B,el,c1,c2,c3,c4⟩:=g8 b n S
  have a6:B.size=A*sz:=by
   have:wP w b=B.size:=by unfold wP World.shape?;rw[c1];rfl
   rw[<-this,<-bk,zCl]
  have ax:ln vs*sz<=B.size:=by rw[a6];exact zBs _ W
  have u:=bE hP hT hd he w ty b 0 0 A B el c1 ⟨b2,q,none⟩ (ln vs) cap (flat L (ln vs) sz) (by rw[yB,Y]) ap a8 zB (by
   rw[yB,zEo];simpa using ax)
  generalize C:(B.toList.take (0+0*te.size)++flat L (ln vs) sz++B.toList.drop (0+0*te.size+(flat L (ln vs) sz).length)).toArray=O at u;rw[zEo,zCl,zEl,zEf,zCl]at C
  have a1:O.size=B.size:=by
   rw[<-C];simp only[zD3,zA9,zB5,zD5,yB];omega
  have G:=xX.step (w':=w.setRow b O) I k .dead [] zW (λj hj hn=>setRow_other w b j O (λe=>hn n (by rw[e];exact S))) Z Z Z (λb n M=>by simp at M) (λb n _=>kJ c1 a1 b) (λe _=> .inl Z) λ_=>yK _ _ _
  have bb:¬xV X (bC β k []) b:=λhd=>by
   rcases hd with hx|⟨j,n',M⟩
   .exact I.free k b n S hx
   .by_cases ar:j=k
    .subst ar;rw[yK]at M;simp at M
    .rw[qT _ _ ar]at M;exact ar (I.disj _ _ _ _ _ M S)
  refine au (by rw[U,av,zEo];exact u) G ?_;rw[zCl];have bf:vs≠[]:=λh0=>by rw[h0]at E;simp at E
  refine .sl false vs b 0 sz A L bf ⟨zCc (I.lt b (.inr ⟨k,n,S⟩)) G.size,bb,g1,by unfold cB;omega,hS.wide,λi j hi hj=>?_,hS.one⟩ W λi y j v hy hv=>(hS.rep.toF Z i y j v hy hv).evo G.evo.size G.evo.fz
  rw[uU (setRow_heap w _ _ _ _ _ c1),<-C,zCl,zDu,zB8 (by
   rw[yB];have:=zBs sz (show i+1<=ln vs by omega);rw[zCg,zDg]at this
   omega)]
  exact kR L hi hj⟩
end
def dB (d:Dk):Nat->List Int×Dk
 |0=>([],d)
 |i+1=>((dB d i).1++[nx (dB d i).2 256],ad (dB d i).2)
theorem ue (d:Dk):∀i,(dB d i).1.length=i/\rem (dB d i).2<=rem d/\BY (dB d i).1
 |0=>⟨rfl,zBa _,λx u=>by cases u⟩
 |i+1=>by
  obtain⟨h1,h2,z⟩:=ue d i;have B:=vG (dB d i).2;have A:=yQ (dB d i).2 256 zB;refine⟨by simp only[dB,zA9,zBj,zCb];omega,by simp only[dB];omega,?_⟩;simp only[dB];intro x u
  rcases zBq.1 u with u|u
  .exact z x u
  .rw[zBz]at u;subst u;exact A
def gq (d:Dk) (n:Int) (L:0<=n) (h1:n<=1000):zM 163 [.ptr 1000 0 0,iA n] [(1000,fI d)] (zE yA (dB (ad d) (nx d (n+1)).toNat).1) [(1000,fI (dB (ad d) (nx d (n+1)).toNat).2)]:=by
 have A:=yS d (n+1) zB zB;have I:=yQ d (n+1) zB;generalize nx d (n+1)=k,ad d=u at *;obtain⟨N,hN⟩:∃N:Nat,k.toNat=N:=⟨_,rfl⟩;have z:k=(N:Int):=by omega
 rw[hN];subst z;refine eM call163 λF hF=>?_
 refine zU A ?_;refine zS 5 1001 1 Z Z Z ?_;refine zO (N) [1000,1001] [] [0] [5,6,0] Z (λi T U=>⟨(5,.ref 1001 0 ((dB u i).1.map yA).length)::(6,iA ((N:Int)-i))::T,(1000,fI (dB u i).2)::(1001,.arr 1 ((dB u i).1.map yA) true)::U⟩) ?_;(conv=>whnf);refine⟨by(rw[show(N:Int)-(0:Nat)=N by omega];rfl),?_,?_⟩
 .intro i hi;have hl:=(ue u i).1;have B:dB u (i+1)=((dB u i).1++[nx (dB u i).2 256],ad (dB u i).2):=rfl;rw[show((N:Int)-((i+1:Nat):Int))=(N:Int)-i-1 by omega];generalize (dB u i).1=p at *;generalize (dB u i).2=e at *;have C:1<=(N:Int)-i:=by omega
  have E:(N:Int)-i<=1001:=by omega
  have M:ln p<=1001:=by omega
  generalize (N:Int)-i=q at *;have G:=yS e 256 zB zB;have O:=yQ e 256 zB;rw[B];generalize nx e 256=y,ad e=e1 at *;refine zU G ?_
  show restr _ _ _=_
  rw[zBc];rfl
 .rw[show(N:Int)-(N:Int)=0 by omega];refine WW ?_;exact zI [1000] Z Z (zBp (AV.sl false) zA8) Z
theorem dq:∀(f:Nat) (n:Int),0<=n->n<128 ^ (f+1)->BY (Mc f n)
 |0,n,z,h1=>λx u=>by
  rw[Mc,zBz]at u;subst u;simp at h1;omega
 | f+1,n,z,h1=>λx u=>by
  rw[Mc]at u;split at u
  .rw[zBz]at u;subst u;omega
  .rcases zCt.1 u with rfl|u
   .omega
   .exact dq f (n/128) zB (Lc h1) x u
theorem EH {n:Int} (u:0<=n) (h1:n<=4294967295):BY (jS n):=dq 4 n u zB
theorem aq (A B:Nat) (c:Int) (hc:0<=c/\c<256):∀(l:List Int) (i:Nat),RW l->BY (ZC A B c i l)
 | [],_,_=>λx u=>by cases u
 | y::l,i,h=>λx u=>by
  rw[ZC]at u
  rcases zBq.1 u with u|u
  .split at u
   .rw[zBz]at u;subst u;exact hc
   .cases u
  .rcases zBq.1 u with u|u
   .have:=h y zW;exact EH this.1 this.2 x u
   .exact aq A B c hc l (i+1) (λz C=>h z (by simp[C])) x u
def U5 (m:Ms) (h:A4 m) (n:Nat) (R:n<=2) (M:wE m.kind≠0->1<=n) (B:ln m.args=vU m.kind+n*wE m.kind):∃p,BY p/\p.length<=200/\p=dO (vU m.kind) (wE m.kind) n m/\zM 21 [zX m] [] (.tup [zE yA p,iA 0]) []:=by
 have A:=LF m.kind h.k.1 h.k.2 m n Z h.l (by rw[h.d];simp) h.n B zB;have O:=EE m.kind;have C:=ED m.kind
 have E:n*wE m.kind<=8:=by rcases C with e|e|e<;>rw[e]<;>omega
 have L:=XA m.kind h.k.1 h.k.2 m n Z h.l (by rw[h.d];simp) h.n zB (λ_=>B) zB
 have hv:Dr (wE m.kind) n m.data=true:=by
  unfold Dr;rw[zBb,h.d];exact⟨rfl,by by_cases z:wE m.kind=0;exact .inl z;exact .inr (M z)⟩
 rw[hv]at A;have I:=EC (vU m.kind) (wE m.kind) n m.args 0;have G:=h.l;refine⟨dO (vU m.kind) (wE m.kind) n m,λx u=>?_,?_,rfl,?_⟩
 .unfold dO at u;rw[h.d]at u
  rcases zBq.1 u with u|u
  .rcases zBq.1 u with u|u
   .exact h.t x u
   .exact aq _ _ _ zB _ _ h.n x u
  .rw[zB1]at u;split at u
   .rw[zBz]at u;omega
   .cases u
 .unfold dO;rw[h.d,zB1,zA9,zA9]
  have:(if wE m.kind≠0/\m.args.length=vU m.kind then [(0:Int)]else []).length<=1:=by split<;>simp
  omega
 .generalize dO (vU m.kind) (wE m.kind) n m=p at *;refine eM call21 λF hF=>?_
  exact mt (xU A L)
def oq (m:Ms) (h:A4 m):∃p,BY p/\p.length<=200/\zM 21 [zX m] [] (.tup [zE yA p,iA 0]) []:=by
 obtain⟨n,z,A,B⟩:=h.c;obtain⟨p,h1,h2,_,u⟩:=U5 m h n z A B;exact⟨p,h1,h2,u⟩
def W8 (y:Int):0<=IntKind.u8.wrap y/\IntKind.u8.wrap y<256:=by
 unfold IntKind.wrap;simp[IntKind.signed,IntKind.bits];omega
section
variable {P:Program} {TT:List TI} {st:St}
def nq (hP:uV P TT) {k off len:Nat} {s:Operand} {fl:Fl} {S:AV} (hs:yY (zK st.tm) s= .ref k off len) (hk:zD st.h k=some (.arr sz xs fl)) (hx:yY (zK st.tm) x=S) (hT:TT[T]? =some ti) (hd:ti.d= .slice e) (he:TT[e]? =some te) (M:CX (zD st.h) S=some []):
  wY P st (.call ⟨.builtin .append, #[s,x], #[T,T]⟩) (.ref k off len) [] (k::PP S) []:=by
 refine⟨?_⟩;intro X tm h W hr _ o a w β Y U V;obtain⟨d0,o0,y0,p0,f0,g0⟩:=o;dsimp only at Y;subst Y;have hk':=(hr k zW).trans hk;have h1:=gT V W (x:=s) kQ hs;have h2:=gT V W (x:=x) kQ hx;obtain⟨ad,cap,z,_⟩:=cT U h2 ((fO λk' hk=>hr k' (by simp[hk])).trans M) (sz:=0) (λy hy=>by cases hy)
 have L:∃E u,a.eval s= .slice E len u/\len<=u:=by
  generalize a.eval s=cx at h1
  cases h1 with
  |fz _ _ hf=>cases hf
  |dref _ _ _ _ hd _=>rw[hk']at hd;cases hd
  |ref0 _ _ O R st' b B hn=>exact⟨_,0,rfl,zBa _⟩
  |ref _ _ _ O R st' b n u B ac hn hc ag=>exact⟨_,u,rfl,hc⟩
 obtain⟨E,u,A,G⟩:=L;have C:=gC hP hT hd he w y0 E ad len u cap G
 have I:(execOp a.eval ⟨d0,.call ⟨.builtin .append, #[s,x], #[T,T]⟩,y0,p0,f0,g0⟩).run P w= .ok (.value (.slice E len u)) w:=by
  rw[zCb]at z;simp[execOp,resolve,invoke,builtin,A,z,C]
 rw[I,cC];exact⟨β,xX.refl U,by rw[A]at h1;exact h1⟩
end
section
variable {P:Program} {TT:List TI} {K0:List Nat} {F:Fr K0} {m:Nat} {ops:Array Oper} {rest:List Oper} {Q:List FP->St->Prop} {tm:List (Nat×AV)} {h:List (Nat×xW)} {dr:Bool} {fs:List FP}
variable {ty:Nat} {pos:String} {after:Array Edge} {t:Nat}
def Wg (A:uV P TT) {u len:Nat} {l:Operand} {I:Fl} {k:IntKind} {i:Int} (G:yY (zK tm) x= .ref u 0 len) (hk:zD h u=some (.arr sz xs I)) (hl:yY (zK tm) l= .s (.int k i)) (hT:TT[T]? =some ti) (hd:ti.d= .slice e) (B:TT[e]? =some te)
 (z:Nat.beq sz te.size=true) (L:0<=i) (h1:i<=len) (C:Nat.blt t m=true) (E:yP P F m ops dr rest ⟨(t,.ref u 0 i.toNat)::tm,h⟩ (⟨true,[],[u]⟩::fs) Q):
  yP P F m ops dr (⟨some t,.slice T x none (some l) none,ty,pos,after,none⟩::rest) ⟨tm,h⟩ fs Q:=by
 have:=bD (P:=P) (st:=⟨tm,h⟩) (lo:=none) (hi:=some l) (l:=0) (r:=i.toNat) A G hk hT hd B Z ⟨k,i,hl,zB⟩ (zBn _) zB z;rw[zFx]at this;exact wJ this C E
end
theorem V8 {y:Int} (h: -9223372036854775808<=y/\y<=9223372036854775807):bI .i64 (y.tdiv 256):=by grind [bI]
def zAr (a y:Int) (u: -9223372036854775808<=y/\y<=9223372036854775807):zM 98 [zE yA [],iA a,iA y] [] (zE yA [IntKind.u8.wrap y]) []:=by
 refine eM call98 λF hF=>?_
 exact ng
section
variable (b:List Int) (a y k:Int) (hl:1<=ln b) (hn:ln b<=1000) (h0: -9223372036854775808<=y/\y<=9223372036854775807) (hk:a % (ln b:Int)=k)
include hl hn h0 hk
theorem IV (j:Int) (hj:y.tdiv 256 % 4=j):(b.map yA).length=ln b/\zM 11 [iA a,iA (((b.map yA).length:Nat):Int)] [] (iA k) []/\zM 11 [iA (y.tdiv 256),iA 4] [] (iA j) []/\bI .i64 (y.tdiv 256)/\0<=k/\k<(ln b:Int):=by
 have u:=zA yA b;have B:=JY a (ln b:Int) zB zB;have C:=JY (y.tdiv 256) 4 zB zB;have z:=zD6 a (show(ln b:Int)≠0 by omega);have A:=zDp a (show 0<(ln b:Int) by omega);rw[hk]at B z A;rw[hj]at C;exact⟨u,by rw[u];exact B,C,V8 h0,z,A⟩
def zAs (hj:y.tdiv 256 % 4=3):zM 98 [zE yA b,iA a,iA y] [] (zE yA (b.take k.toNat)) []:=by
 obtain⟨A,u,z,B,C,E⟩:=IV b a y k hl hn h0 hk 3 hj;clear hk hj;unfold zE;refine eM call98 λF hF=>?_
 exact nl (xU u z)
def zAt (hj:y.tdiv 256 % 4=2):zM 98 [zE yA b,iA a,iA y] [] (zE yA (b.take k.toNat++[IntKind.u8.wrap y]++b.drop k.toNat)) []:=by
 obtain⟨A,u,z,C,E,G⟩:=IV b a y k hl hn h0 hk 2 hj;clear hk hj;have e:zE yA (b.take k.toNat++[IntKind.u8.wrap y]++b.drop k.toNat)= .sl false ((b.take k.toNat).map yA++[yA (IntKind.u8.wrap y)]++(b.drop k.toNat).map yA):=by rw[zE,zBc,zBc];rfl
 rw[e];unfold zE;have B:(b.take k.toNat).length=k.toNat:=by rw[zBt];omega
 refine eM call98 λF hF=>?_
 (have ga:=u;have ge:=z;(repeat' (first|refine WYX ?_|apply yW|apply xG|intro hc|(apply zG;first|refine SL ?_)|refine SB ?_|fail))<;>clear ga ge)
 (repeat' (first|refine jX ?_|apply yW|apply xG|intro hc|(apply zG;first|(apply yI;refine vE tok Z Z ?_)|(apply yD;refine xH 1001 tok Z Z Z Z Z Z (yM _ _ (λ_=>rfl)) Z Z Z (by first|omega|(simp;omega)) Z Z Z ?_))|refine SB ?_|fail))
 exact zI [] Z Z (zBp (AV.sl false) zA8) Z
def U8 (hj:y.tdiv 256 % 4=0):zM 98 [zE yA b,iA a,iA y] [] (zE yA (b.set k.toNat (IntKind.u8.wrap y))) []:=by
 obtain⟨A,u,z,E,B,C⟩:=IV b a y k hl hn h0 hk 0 hj;clear hk hj;have e:zE yA (b.set k.toNat (IntKind.u8.wrap y))= .sl false ((b.map yA).set k.toNat (yA (IntKind.u8.wrap y))):=by rw[zE,zCs]
 rw[e];have G:=yF yA b k B C;unfold zE;refine eM call98 λF hF=>?_
 (have ga:=u;have ge:=z;(repeat' (first|refine uQ ?_|apply yW|apply xG|intro hc|(apply zG;first|(apply yD;refine xH 1001 tok Z Z Z Z Z Z (yM _ _ (λ_=>rfl)) Z Z Z zB Z Z Z ?_))|fail))<;>clear ga ge)
 exact zI [] Z Z (zBp (AV.sl false) (by rw[zBr];exact zBf zW)) Z
def T8 (hj:y.tdiv 256 % 4=1) (h1:1<=k) (h2:k+1<ln b):zM 98 [zE yA b,iA a,iA y] [] (zE yA (b.take k.toNat++b.drop (k.toNat+1))) []:=by
 obtain⟨E,A,B,G,I,L⟩:=IV b a y k hl hn h0 hk 1 hj;clear hk hj
 have C:∀y∈b.map yA,ln y.cells=1:=λy u=>by
  rw[zCo]at u;obtain⟨z,_,rfl⟩:=u;rfl
 have e:zE yA (b.take k.toNat++b.drop (k.toNat+1))= .sl false ((b.map yA).take k.toNat++(b.map yA).drop (k.toNat+1)):=by rw[zE,zBc,zEj,zD0]
 rw[e];unfold zE;refine eM call98 λF hF=>?_
 (have ga:=A;have ge:=B;(repeat' (first|refine O2 ?_|apply yW|apply xG|intro hc|(apply zG;first|(apply yD;refine xH 1001 tok Z Z Z Z Z Z (yM _ _ (λ_=>rfl)) Z Z Z zB Z Z Z ?_))|fail))<;>clear ga ge)
 apply xB
 (repeat' (first|refine uQ ?_|apply yW|apply xG|intro hc|(apply zG;first|(apply gX;first|refine dP tok Z Z Z Z Z Z Z zB zB Z ?_|refine Wg tok Z Z Z Z Z Z Z zB zB Z ?_)|(apply yD;refine Bf tok Z Z Z Z Z Z Z Z (λy u=>C y (zCd (zCz (zCq u)))) qB zB qB zB Z Z ?_))|fail))
 refine zI [] Z Z (zBp (AV.sl false) ?_) Z
 have hv:oj ((b.map yA).length-(k+1).toNat) (pb (k+1).toNat (b.map yA))=pb (k.toNat+1) (b.map yA):=by
  rw[show(k+1).toNat=k.toNat+1 by omega];exact zBf CM
 rw[hv,zBr];exact List.take_left' (by rw[zA9,zBt];omega)
def S8 (hj:y.tdiv 256 % 4=1) (h2:k+1=ln b):zM 98 [zE yA b,iA a,iA y] [] (zE yA (b.take k.toNat)) []:=by
 obtain⟨A,u,z,B,C,E⟩:=IV b a y k hl hn h0 hk 1 hj;clear hk hj;have e:zE yA (b.take k.toNat)= .sl false ((b.map yA).take k.toNat):=by rw[zE,zEj]
 rw[e]
 have hv:((b.map yA).drop (k+1).toNat).take ((b.map yA).length-(k+1).toNat)=[]:=by
  rw[show(b.map yA).length-(k+1).toNat=0 by omega,zEl]
 unfold zE;refine eM call98 λF hF=>?_
 (have ga:=u;have ge:=z;(repeat' (first|refine O2 ?_|apply yW|apply xG|intro hc|(apply zG;first|(apply yD;refine xH 1001 tok Z Z Z Z Z Z (yM _ _ (λ_=>rfl)) Z Z Z zB Z Z Z ?_))|fail))<;>clear ga ge)
 apply xB
 (repeat' (first|refine uQ ?_|apply yW|apply xG|intro hc|(apply zG;first|(apply gX;first|refine dP tok Z Z Z Z Z Z Z zB zB Z ?_|refine Wg tok Z Z Z Z Z Z Z zB zB Z ?_)|(apply yD;refine wJ (nq tok Z Z Z Z Z Z ((zBp some hv:some _=_))) Z ?_))|fail))
 exact zH
def R8 (hj:y.tdiv 256 % 4=1) (h2:k=0) (G:1<ln b):zM 98 [zE yA b,iA a,iA y] [] (zE yA (b.drop 1)) []:=by
 obtain⟨E,A,B,I,L,M⟩:=IV b a y k hl hn h0 hk 1 hj;subst h2;clear hk hj
 have C:∀y∈b.map yA,ln y.cells=1:=λy u=>by
  rw[zCo]at u;obtain⟨z,_,rfl⟩:=u;rfl
 have e:zE yA (b.drop 1)= .sl false ((b.map yA).drop 1):=by rw[zE,zD0]
 rw[e];unfold zE;refine eM call98 λF hF=>?_
 (have ga:=A;have ge:=B;(repeat' (first|refine O2 ?_|apply yW|apply xG|intro hc|(apply zG;first|(apply yD;refine xH 1001 tok Z Z Z Z Z Z (yM _ _ (λ_=>rfl)) Z Z Z zB Z Z Z ?_))|fail))<;>clear ga ge)
 apply xB
 (repeat' (first|refine WS ?_|refine SG (I2 (λhc=>?_) λhc=>?_)|refine SG λhc=>?_|(apply zG;first|(apply gX;first|refine dP tok Z Z Z Z Z Z Z zB zB Z ?_|refine Mf tok Z Z Z Z Z Z Z Z ?_))|(first|refine FR 7 9 Z Z ?_|first|refine SR ?_|refine SK (I2 (λhc=>?_) λhc=>?_)|refine SK λhc=>?_|fail)|fail))
 refine Vd gS ?_;refine V5 [] [] tok Z Z Z Z Z Z Z Z (λy u=>C y (zCd (zCz (zCq u)))) Z Z qB qB Z Z Z Z ?_;refine WW ?_;refine zI [] Z Z ?_ Z
 show AV.sl false (oj ((b.map yA).length-1) (pb 1 (b.map yA)))=_
 rw[zBf CM]
end
def Hi (b:List Int) (hb:BY b) (A:ln b<=1000) (a y:Int) (z: -9223372036854775808<=y/\y<=9223372036854775807):∃q,BY q/\q.length<=ln b+1/\zM 98 [zE yA b,iA a,iA y] [] (zE yA q) []:=by
 have C:=W8 y;by_cases hl:1<=ln b
 case neg=>
  have e:b=[]:=zB4 zB;subst e;exact⟨_,λx u=>by rw[zBz]at u;subst u;exact C,by simp,zAr a y z⟩
 have G:=zD6 a (show(ln b:Int)≠0 by omega);have I:=zDp a (show 0<(ln b:Int) by omega);have j0:=zD6 (y.tdiv 256) (show(4:Int)≠0 by omega);have j1:=zDp (y.tdiv 256) (show(0:Int)<4 by omega);have hT:BY (b.take (a % (ln b:Int)).toNat):=λx u=>hb x (zCz u)
 have B:∀n,BY (b.drop n):=λn x u=>hb x (zCd u)
 have E:(b.take (a % (ln b:Int)).toNat).length<=ln b:=by rw[zBt];omega
 obtain hj|hj|hj|hj:y.tdiv 256 % 4=0\/y.tdiv 256 % 4=1\/y.tdiv 256 % 4=2\/y.tdiv 256 % 4=3:=by omega
 .refine⟨_,λx u=>?_,by rw[zCj];omega,U8 b a y _ hl A z Z hj⟩
  rcases zD7 u with h|rfl
  .exact hb x h
  .exact C
 .by_cases h2:a % (ln b:Int)+1=ln b
  .exact⟨_,hT,zB,S8 b a y _ hl A z Z hj h2⟩
  .by_cases h1:1<=a % (ln b:Int)
   .refine⟨_,λx u=>?_,?_,T8 b a y _ hl A z Z hj h1 zB⟩
    .rcases zBq.1 u with h|h
     .exact hT x h
     .exact B _ x h
    .rw[zA9,zB5,zBt];omega
   .exact⟨_,B 1,by rw[zB5];omega,R8 b a y _ hl A z Z hj zB zB⟩
 .refine⟨_,λx u=>?_,?_,zAt b a y _ hl A z Z hj⟩
  .rcases zBq.1 u with h|h
   .rcases zBq.1 h with h|h
    .exact hT x h
    .rw[zBz]at h;subst h;exact C
   .exact B _ x h
  .rw[zA9,zA9,zB5,zBt,zDa];omega
 .exact⟨_,hT,zB,zAs b a y _ hl A z Z hj⟩
theorem IW (I:Nat->α->Prop) (R:Nat->α->α->Prop) (h:∀i a,I i a->∃b,R i a b/\I (i+1) b) (a0:α) (A:I 0 a0):∃f:Nat->α,f 0=a0/\∀i,I i (f i)/\R i (f i) (f (i+1)):=by
 have u:∀i a,∃b,I i a->R i a b/\I (i+1) b:=λi a=>by
  by_cases hi:I i a
  all_goals grind
 let f:Nat->α:=λn=>Nat.rec a0 (λi a=>(u i a).choose) n
 have z:∀i,I i (f i):=λi=>by
  induction i with
  |zero=>exact A
  |succ i B=>exact((u i (f i)).choose_spec B).2
 exact⟨f,rfl,λi=>⟨z i,((u i (f i)).choose_spec (z i)).1⟩⟩
def ZA [Inhabited α] (g:Nat->α->α) (l:List α) (i:Nat):List α:=(List.range (ln l)).map λj=>if j<i then g j (l.getD j dd)else l.getD j dd
theorem vC [Inhabited α] (g:Nat->α->α) (l:List α) (i:Nat):(ZA g l i).length=ln l:=by simp[ZA]
theorem vY [Inhabited α] (g:Nat->α->α) (l:List α) (i j:Nat):(ZA g l i)[j]? =if j<ln l then some (if j<i then g j (l.getD j dd)else l.getD j dd)else none:=by grind [ZA]
theorem qN [Inhabited α] (g:Nat->α->α) (l:List α):ZA g l 0=l:=by apply zCe<;>grind [ZA,vY,pi,List.getElem?_eq_none]
theorem aw [Inhabited α] (g:Nat->α->α) (l:List α) (i:Nat) (hi:i<ln l):ZA g l (i+1)=(ZA g l i).set i (g i (l.getD i dd)):=by
 apply zCe
 grind [ZA]
def vP [Inhabited α] (f:α->AV) (g:Nat->α->α) (l:List α) (i:Nat) (hi:i<ln l):(ZA g l (i+1)).map f=((ZA g l i).map f).set i (f (g i (l.getD i dd))):=by
 rw[aw g l i hi,zCs]
structure In where
 opn:Bool
 its:List It
instance:Inhabited In:=⟨⟨false,[]⟩⟩
instance:Inhabited It:=⟨⟨0,0,[]⟩⟩
def uT (i:In):AV:= .agg [bA i.opn,zE vQ i.its]
structure En where
 ag:Int
 ki:Int
 co:Int
def kF (e:En):AV:=OM e.ag e.ki e.co
structure TS where
 d:wD
 rs:List Ms
 en:List En
 ks:List Int
structure SS where
 d:wD
 R:List (List Ms)
 en:List En
 ks:List Int
def jC (l:List Ms):AV:=zE zX l
def Fy (i:In):Prop:=ln i.its<=1000/\∀x∈i.its,BY x.pay/\x.pay.length<=100000
def Q8 (c:Cf) (s f3:Int) (i:It) (a b:TS):Prop:=∃h:Hd,RX c a.d s i f3 h/\wz c a.d s i f3 h/\b=⟨h.d,a.rs++[h.p],a.en++[⟨a.d.rg.num,i.kind,h.e⟩],if 0<=h.k then a.ks++[h.k]else a.ks⟩
structure EZ (c:Cf) (d0 d:wD):Prop where
 i:qC c d
 n:d.rg.num=d0.rg.num
 a:d.rg.ag=d0.rg.ag
 t:Oa d0 d
theorem EZ.refl (h:qC c d):EZ c d d:=⟨h,rfl,rfl,Oa.refl d⟩
theorem EZ.trans {a b:wD} (h1:EZ c a b) (h2:EZ c b d):EZ c a d:=⟨h2.i,h2.n.trans h1.n,h2.a.trans h1.a,h1.t.trans h2.t⟩
theorem T5 (c:Cf) (s f3:Int) (S:0<=f3) (U:f3<=1073741824) (u:List It) (O:∀x∈u,BY x.pay/\x.pay.length<=100000) (st:TS) (M:qC c st.d):
  ∃f:Nat->TS,f 0=st/\∀k,EZ c st.d (f k).d/\((f k).rs.length=ln st.rs+k/\(f k).en.length=ln st.en+k/\(f k).ks.length<=ln st.ks+k/\((∀x∈st.ks,0<=x/\x<(ln c.js:Int))->∀x∈(f k).ks,0<=x/\x<(ln c.js:Int)))/\(k<ln u->Q8 c s f3 (u.getD k dd) (f k) (f (k+1))):=by
 have z:∀k,BY (u.getD k dd).pay/\(u.getD k dd).pay.length<=100000:=λk=>by
  by_cases hk:k<ln u
  .grind
  .rw[zBk,zCi zB]
   show BY ([]:List Int)/\([]:List Int).length<=100000
   grind [BY,Q8]
 obtain⟨f,I,E⟩:=IW (λk (a:TS)=>EZ c st.d a.d/\(ln a.rs=ln st.rs+k/\a.en.length=ln st.en+k/\a.ks.length<=ln st.ks+k/\((∀x∈st.ks,0<=x/\x<(ln c.js:Int))->∀x∈a.ks,0<=x/\x<(ln c.js:Int)))) (λk a b=>Q8 c s f3 (u.getD k dd) a b)
  (λk a C=>by
   obtain⟨C,h1,h2,V,G⟩:=C;obtain⟨h,L,A⟩:=Ci c a.d C.i s f3 S U _ (z k).1 (z k).2;refine⟨_,⟨h,L,A,rfl⟩,C.trans ⟨A.inv,A.num,A.ag,A.t0⟩,?_,?_,?_,λB x z=>?_⟩
   .dsimp only;rw[zA9,zDa];omega
   .dsimp only;rw[zA9,zDa];omega
   .dsimp only;split
    .rw[zA9,zDa];omega
    .omega
   .dsimp only at z;split at z
    .rename_i R
     rcases zBq.1 z with z|z
     .exact G B x z
     .rw[zBz]at z;subst z
      rcases A.rst with h9|⟨_,h8,h9⟩
      .omega
      .exact⟨h8,h9⟩
    .exact G B x z)
  st ⟨EZ.refl M,zB,zB,zB,id⟩
 exact⟨f,I,λk=>⟨(E k).1.1,(E k).1.2,λ_=>(E k).2⟩⟩
def dJ (u:List In) (s:Nat):List It:=if s<ln u/\(u.getD s dd).opn=true then(u.getD s dd).its else []
def pw (c:Cf) (f3:Int) (u:List In) (s:Nat) (a b:SS):Prop:=∃f:Nat->TS,f 0=⟨a.d,[],a.en,a.ks⟩/\(∀k,k<(dJ u s).length->Q8 c (s:Int) f3 ((dJ u s).getD k dd) (f k) (f (k+1)))/\(∀k,EZ c a.d (f k).d/\(f k).rs.length=k/\(f k).en.length=ln a.en+k/\(f k).ks.length<=ln a.ks+k)/\
 b=⟨(f (dJ u s).length).d,a.R++[(f (dJ u s).length).rs],(f (dJ u s).length).en,(f (dJ u s).length).ks⟩
theorem IX {u:List In} (h:∀i∈u,Fy i) (s:Nat):(dJ u s).length<=1000/\∀x∈dJ u s,BY x.pay/\x.pay.length<=100000:=by
 unfold dJ;split
 .grind [Fy,dJ,BY,List.getElem?_eq_getElem,List.getElem_mem]
 all_goals grind
def mw (c:Cf) (f3:Int) (M:0<=f3) (O:f3<=1073741824) (u:List In) (B:∀i∈u,Fy i) (d:wD) (I:qC c d):
  ∃F:Nat->SS,F 0=⟨d,[],[],[]⟩/\∀s,EZ c d (F s).d/\((F s).R.length=s/\(F s).en.length<=1000*s/\(F s).ks.length<=1000*s/\∀x∈(F s).ks,0<=x/\x<(ln c.js:Int))/\pw c f3 u s (F s) (F (s+1)):=by
 obtain⟨F,E,hF⟩:=IW (λs (a:SS)=>EZ c d a.d/\(ln a.R=s/\a.en.length<=1000*s/\a.ks.length<=1000*s/\∀x∈a.ks,0<=x/\x<(ln c.js:Int))) (λs a b=>pw c f3 u s a b)
  (λs a A=>by
   obtain⟨A,h1,h2,S,G⟩:=A;obtain⟨hl,hb⟩:=IX B s;obtain⟨f,C,z⟩:=T5 c (s:Int) f3 M O (dJ u s) hb ⟨a.d,[],a.en,a.ks⟩ A.i;have hL:=z (dJ u s).length;refine⟨_,⟨f,C,λk hk=>(z k).2.2 hk,λk=>⟨(z k).1,by have:=(z k).2.1.1;simpa using this,(z k).2.1.2.1,(z k).2.1.2.2.1⟩,rfl⟩,A.trans hL.1,?_,?_,?_,hL.2.1.2.2.2 G⟩
   .dsimp only;rw[zA9,zDa];omega
   .have:=hL.2.1.2.1;dsimp only at *;omega
   .have:=hL.2.1.2.2.1;dsimp only at *;omega)
  ⟨d,[],[],[]⟩ ⟨EZ.refl I,rfl,zBn _,zBn _,λx L=>by cases L⟩
 exact⟨F,E,λs=>⟨(hF s).1.1,(hF s).1.2,(hF s).2⟩⟩
def QK (u:List In) (s:Nat) (b:Bool):Bool:=if s<ln u/\(u.getD s dd).opn=true then b else false
def Gi (u:List In) (l:List Bool):List Bool:=ZA (QK u) l (ln l)
def mq (d:wD) (u:List In):wD:=⟨d.rg,d.rq,d.dr,Gi u d.au⟩
def P8 (h:qC c d) (u:List In):qC c (mq d u):=
 ⟨h.b,h.v,h.q,h.lg,h.a,h.n,h.t8,h.br,h.bb,h.bl,by show((Gi u d.au).length:Int)=_;unfold Gi;rw[vC];exact h.au,h.dn,h.dr,h.vh⟩
def lw (d:wD) (f3:Int):wD:=⟨d.rg,EW d.rq f3,d.dr,d.au⟩
theorem O8 (h:qC c d) (f3:Int) (u:0<=f3) (z:f3<=1073741824):qC c (lw d f3):=by
 refine⟨h.b,D7 h.v f3 u z,?_,λr B g A=>?_,h.a,h.n,h.t8,h.br,h.bb,h.bl,h.au,h.dn,h.dr,h.vh⟩
 .show((EW d.rq f3).length:Int)<=_
  unfold EW;rw[zA5];exact h.q
 .obtain⟨x,C,rfl⟩:=zCo.1 B;obtain⟨y,E,rfl⟩:=zCo.1 A;obtain⟨e1,G,_⟩:=Ko y f3 u z;have:=h.lg x C y E
  grind
def YJ (x:wD):List AV:=[iA x.rg.num,zE yA x.rg.ag.sec,iA x.rg.ag.rights,iA x.rg.ag.cls,zE iA x.rg.ag.lim,iA x.rg.ag.req,iA x.rg.ag.ses,iA x.rg.ag.rate,iA x.rg.ag.burst,zE yN x.rg.tk,zE vA x.rg.vh,iA x.rg.bk.level,iA x.rg.bk.rate,iA x.rg.bk.burst,zE zY x.rq,zE qM x.dr,zE bA x.au]
def sw (d:wD) (R:List (List Ms)) (E:List En) (K:List Int):AV:= .tup [zN d,zE jC R,zE kF E,zE iA K]
def YL {i:Nat} {y:AV} (h:xs[i]? =some y):xs.set i y=xs:=by
 apply zCe;intro j;rw[zEe];by_cases u:i=j
 .subst u;have hi:=(zBw.1 h).1;rw[zA4 Z,zA4 hi,h]
 .rw[Os u]
def N8 (g:Nat->Bool->Bool) (l:List Bool) (k:Nat):oj (l.map bA).length (pb 0 ((ZA g l k).map bA))=(ZA g l k).map bA:=by
 rw[zBr];exact zBf (by rw[zA5,zA5,vC];exact zBa _)
def tq {g:Nat->Bool->Bool} {l:List Bool} {n:Nat} (h:ln l=n):List.take n (List.drop 0 ((ZA g l k).map bA))=(ZA g l k).map bA:=by
 rw[zBr];exact zBf (by rw[zA5,vC,h];exact zBa _)
theorem iw (hI:qC c d) (u:List In) (bs:ln u<=1000) (a4:∀i∈u,Fy i) (f3:Int) (n0:0<=f3) (n1:f3<=1073741824) (z:Nat->SS) (ap:z 0=⟨mq d u,[],[],[]⟩)
 (hz:∀s,EZ c (mq d u) (z s).d/\((z s).R.length=s/\(z s).en.length<=1000*s/\(z s).ks.length<=1000*s/\∀x∈(z s).ks,0<=x/\x<(ln c.js:Int))/\pw c f3 u s (z s) (z (s+1))):
  zM 56 [wH c,zN d,zE uT u,iA f3] [] (sw (lw (z (ln d.au)).d f3) (z (ln d.au)).R (z (ln d.au)).en (z (ln d.au)).ks) []:=by
 have br:1<=ln d.au/\d.au.length<=2:=by have:=hI.au;have:=hI.a.e;omega
 have kc:=LK d hI.bd;have bl:=zA bA d.au;have a9:=zA uT u;have km:=dv (z (ln d.au)).d.rq f3 (hz (ln d.au)).1.i.v;have Y:wH c= .agg [.sl false (c.js.map wK),.sl false (c.ags.map uK),iA c.per,iA c.cap,iA c.hold,iA c.lock]:=rfl;have bf:∀d:wD,zN d= .agg (YJ d):=λ_=>rfl
 rw[Y];unfold XW zN xD at kc;have e0:=qN (QK u) d.au;refine eM call56 λF hF=>?_
 refine zU kc ?_;refine zO (ln d.au) [1004,4,5,8,12] [4,5,8,12] [2,3,4,5,8,12,13,14,15,29] [30,2,3,4,5,8,12,13,14,15,29] Z (λi T U=>⟨(30,iA i)::T,(1004,.arr 1 ((ZA (QK u) d.au i).map bA) false)::U⟩) ?_;(conv=>whnf);refine⟨by(rw[e0];rfl),?_,?_⟩
 .intro i hi;have a7:((ZA (QK u) d.au i).map bA)[i]? =some (bA (d.au.getD i dd)):=by rw[zBd,vY,zA4 hi,Os (zD1 i)];rfl
  have cc:((ZA (QK u) d.au i).map bA).length=ln d.au:=by rw[zA5,vC]
  rw[vP bA (QK u) d.au i hi];have V:=YL a7;generalize (ZA (QK u) d.au i).map bA=xs,d.au.getD i dd=b9 at *;unfold QK;by_cases h1:i<ln u
  .have hy:=zJ uT u i h1;generalize u.getD i dd=x at *;obtain⟨op,A⟩:=x;rw[show uT ⟨op,A⟩= .agg [bA op,zE vQ A]from Z]at hy;cases op
   .rw[Os (λh=>by cases h.2)];refine WW ?_;rfl
   .rw[zA4 ⟨h1,rfl⟩,V];refine WW ?_;rfl
  .rw[Os (λh=>h1 h.1)];refine WW ?_;rfl
 ·(refine WW ?_)
  refine wL [4,8,12] [2,3,4,8,12,13,14,15,52,53] Z ?_
  (conv=>whnf)
  rw[N8];refine zS 13 1001 1 Z Z Z ?_;refine zS 14 1002 3 Z Z Z ?_;refine zS 15 1003 1 Z Z Z ?_;refine zO (ln d.au) [12,1001,1002,1003,4,8] [4,8] [2,3,4,8,12,52] [13,14,15,53,2,3,4,8,12,52] Z (λi T U=>⟨(13,.ref 1001 0 ((z i).R.map jC).length)::(14,.ref 1002 0 ((z i).en.map kF).length)::(15,.ref 1003 0 ((z i).ks.map iA).length)::(53,iA i)::T,(12,.box (YJ (z i).d))::(1001,.arr 1 ((z i).R.map jC) true)::(1002,.arr 3 ((z i).en.map kF) true)::(1003,.arr 1 ((z i).ks.map iA) true)::U⟩) ?_;(conv=>whnf);refine⟨by(rw[ap];rfl),?_,?_⟩
  .intro s hs;obtain⟨hT,⟨az,a1,a2,_⟩,B,L,G,E,C⟩:=hz s;have b6:(z s).R.length<=2:=by omega
   have ba:(z s).en.length<=2000:=by omega
   have bb:(z s).ks.length<=2000:=by omega
   rw[C];dsimp only;clear ap hz km kc az a1 a2;have b2:=zA jC (z s).R;have b3:=zA kF (z s).en;have b4:=zA iA (z s).ks;by_cases O:s<ln u/\(u.getD s dd).opn=true
   .have I:dJ u s=(u.getD s dd).its:=by unfold dJ;rw[zA4 O]
    have a3:=(IX a4 s).1;rw[I]at G a3⊢;have hy:=zJ uT u s O.1;obtain⟨cb,a5⟩:=O;generalize u.getD s dd=x at *;obtain⟨op,A⟩:=x;dsimp only at *;subst a5;rw[show uT ⟨true,A⟩= .agg [bA true,zE vQ A]from Z]at hy;have a8:=zA vQ A;have M:∀y:List Ms,((z s).R++[y]).map jC=(z s).R.map jC++[jC y]:=λy=>by simp
    rw[M];clear M C I
    (repeat' (first|refine O9 ?_|apply yW|apply xG|intro hc|(apply zG;first|refine SM ?_)|fail))
    apply xB
    (repeat' (first|refine AF ?_|apply yW|apply xG|intro hc|(apply zG;first|refine SM ?_)|fail))
    refine zS 18 1006 4 Z Z Z ?_;refine WW ?_;refine zQ (A) [12,1002,1003,1006,4,8,1001] [4,8,1001] [2,3,4,8,12,13,17,52,53,71,72] [14,15,18,73,2,3,4,8,12,13,17,52,53,71,72] Z (λi f4 T U=>⟨(14,.ref 1002 0 ((B i).en.map kF).length)::(15,.ref 1003 0 ((B i).ks.map iA).length)::(18,.ref 1006 0 ((B i).rs.map zX).length)::(73,iA i)::T,(12,.box (YJ (B i).d))::(1002,.arr 3 ((B i).en.map kF) true)::(1003,.arr 1 ((B i).ks.map iA) true)::(1006,.arr 4 ((B i).rs.map zX) true)::U⟩) ?_;(conv=>whnf);refine⟨by(rw[L];rfl),?_,?_⟩
    .intro k f4 it post hx hk;have a6:=zZ vQ hx hk;have ag:=zV hx hk;have S:A.getD k dd=it:=by rw[hx,<-hk];simp[pi]
     obtain⟨h,hB,hP,C⟩:=G k ag;rw[S]at hB;obtain⟨bu,bx,bz,b0⟩:=E k;have b7:=zA kF (B k).en;have b8:=zA iA (B k).ks;have ca:=zA zX (B k).rs;have W:=hB.2.1;rw[C];dsimp only;rw[show((B k).rs++[h.p]).map zX=(B k).rs.map zX++[zX h.p] by simp,show∀e:En,((B k).en++[e]).map kF=(B k).en.map kF++[kF e]from λe=>by simp,S];rw[Y]at W;unfold DA zN xD vQ at W;unfold vQ at a6;clear hx S C G E hB hP hT;generalize (B k).rs.map zX=cd,(B k).en.map kF=ax,h.p=p9,h.e=e9,h.d=d9 at *;generalize b1:h.k=k9 at *;generalize (B k).d=av at *;obtain⟨pk,pt,pa,pd⟩:=p9;unfold zX OM at W;dsimp only at W;unfold YJ kF OM zX;by_cases h0:0<=k9
     .rw[zA4 h0,show((B k).ks++[k9]).map iA=(B k).ks.map iA++[iA k9] by simp];generalize (B k).ks.map iA=ar at *;refine zU W ?_;rfl
     .rw[Os h0];generalize (B k).ks.map iA=ar at *;refine zU W ?_;rfl
    ·(repeat' (first|refine AF ?_|apply yW|apply xG|intro hc|(apply zG;first|refine SM ?_)|fail))
     refine wL [4,8,12,1001,1002,1003] [2,3,4,8,12,13,14,15,18,52,53,74] Z ?_
     (conv=>whnf)
     simp only[zBr,zA8];have b5:((B (ln A)).rs.map zX).length<=2000:=by rw[zA5];have:=(E (ln A)).2.1;omega
     rw[show jC (B (ln A)).rs= .sl false ((B (ln A)).rs.map zX)from Z];clear G E hT L;generalize B (ln A)=zl at *;refine WW ?_;rfl
   .have I:dJ u s=[]:=by unfold dJ;rw[Os O]
    rw[I,zCb,L];dsimp only;have ac:((z s).R++[([]:List Ms)]).map jC=(z s).R.map jC++[jC []]:=by rw[zBc];rfl
    rw[ac];clear I G E L C hT ac;generalize (z s).R.map jC=r9,(z s).en.map kF=ax,(z s).ks.map iA=ar,(z s).d=av at *;unfold YJ;by_cases h1:s<ln u
    .have hy:=zJ uT u s h1
     have O:(u.getD s dd).opn=false:=by
      cases h:(u.getD s dd).opn with
      |false=>rfl
      |true=>exact absurd ⟨h1,h⟩ O
     generalize u.getD s dd=x at *;obtain⟨op,A⟩:=x;dsimp only at O;subst O;rw[show uT ⟨false,A⟩= .agg [bA false,zE vQ A]from Z]at hy
     (repeat' (first|refine O9 ?_|apply yW|apply xG|intro hc|(apply zG;first|refine SM ?_)|fail))
     apply xB
     (repeat' (first|refine AF ?_|apply yW|apply xG|intro hc|(apply zG;first|refine SM ?_)|fail))
     refine mn 18 Z Z Z ?_;refine WW ?_;rfl
    ·(repeat' (first|refine O9 ?_|apply yW|apply xG|intro hc|(apply zG;first|refine SM ?_)|fail))
     apply xB
     (repeat' (first|refine AF ?_|apply yW|apply xG|intro hc|(apply zG;first|refine SM ?_)|fail))
     refine mn 18 Z Z Z ?_;refine WW ?_;rfl
  .generalize bk:z (ln d.au)=Fn at *;unfold YJ;refine zU km ?_;refine zI [] Z Z ?_ Z
   show AV.tup [zN (lw Fn.d f3),.sl false (oj _ (pb 0 (Fn.R.map jC))),.sl false (oj _ (pb 0 (Fn.en.map kF))),.sl false (oj _ (pb 0 (Fn.ks.map iA)))]=_
   simp only[zBr,zA8];rfl
section
variable {P:Program} {K0:List Nat} {F:Fr K0} {m:Nat} {tm:List (Nat×AV)} {h:List (Nat×xW)}
theorem wM.recell {a:Act} {w:World} (R:wM F m ⟨tm,h⟩ a w) (k i K:Nat) {ys:List AV} {M:Bool} {Y:Nat} {S:Fl} (hk:zD h k=some (.arr 1 xs ⟨M,true⟩)) (hv:xs[i]? =some (.s (.slice none 0 0))) (hK:zD h K=some (.arr Y ys S)) (ar:K≠k):
  wM F m ⟨tm,(k,.arr 1 (xs.set i (.ref K 0 0)) ⟨M,true⟩)::h⟩ a w:=by
 obtain⟨⟨X,β,hX,H,Ht,G,hJ,hD⟩,nd,gs,hl⟩:=R;have u:∀j,j≠k->zD ((k,.arr 1 (xs.set i (.ref K 0 0)) ⟨M,true⟩)::h) j=zD h j:=λj hj=>by rw[xK,Os hj]
 have L:zD ((k,.arr 1 (xs.set i (.ref K 0 0)) ⟨M,true⟩)::h) k=some (.arr 1 (xs.set i (.ref K 0 0)) ⟨M,true⟩):=by rw[xK,zA4 Z]
 have A:(xs.set i (.ref K 0 0)).length=ln xs:=zCj
 have E:ER w (xV X β) (zD h) β w (xV X β) (zD ((k,.arr 1 (xs.set i (.ref K 0 0)) ⟨M,true⟩)::h)) β:=⟨zBa _,λb _ hd=>⟨rfl,hd⟩,λ_ _ _ _=>rfl,λj e C=>by
  by_cases hj:j=k
  .subst hj;rw[hk]at C;cases C;exact .inr ⟨⟨xs.set i (.ref K 0 0),⟨M,true⟩,L,by rw[A];exact zBa _⟩,λb n hm=>⟨n,zBa _,hm⟩⟩
  .have:=kZ (zD h) β j e C
   rcases this with h1|h1
   .exact .inl (by rw[u j hj];exact h1)
   .refine .inr ?_
    cases e with
    |dead=>exact h1
    |box cs=>obtain⟨⟨z,h2⟩,I⟩:=h1;exact⟨⟨z,by rw[u j hj];exact h2⟩,I⟩
    |obj cs=>obtain⟨⟨z,h2⟩,I⟩:=h1;exact⟨⟨z,by rw[u j hj];exact h2⟩,I⟩
    |arr W ac st'=>obtain⟨⟨x2,s2,h2,I⟩,h4⟩:=h1;exact⟨⟨x2,s2,by rw[u j hj];exact h2,I⟩,h4⟩⟩
 have H':jM X (zD ((k,.arr 1 (xs.set i (.ref K 0 0)) ⟨M,true⟩)::h)) β w:=by
  refine⟨λj e C=>?_,λj hj=>?_,H.disj,H.free,H.lt⟩
  .by_cases hj:j=k
   .subst hj;rw[L]at C;cases C;obtain⟨e1,e2,e3,e4,e5,f,e6,e7,e8⟩:=H.ent j _ hk;refine⟨e1,by rw[A];exact e2,λB=>e3 λh0=>B (by rw[h0];rfl),λU x B=>?_,λb n r hr=>by rw[A];exact e5 b n r hr,f,λU x l v B O=>⟨?_,λh=>by cases h⟩,λU j' h1 h2=>e7 U j' (by rw[<-A];exact h1) h2,e8⟩
    .rw[zEe]at B;split at B
     .split at B
      .cases B;rfl
      .cases B
     .exact e4 U x B
    .rw [zEe]at B;split at B
     .rename_i ap;subst ap;split at B
      .cases B
       cases l with
       |zero=>
        have au:v= .ref K 0 0:=by simpa [AV.cells]using O.symm
        subst au;have h6:=e6.toV i _ 0 _ hv Z;rw[h6.s_inv];exact .ref0 K 0 Y ys S none (by rw[u K ar];exact hK) (zBn _)
       |succ l=>simp[AV.cells]at O
      .cases B
     .exact(e6.toV U x l v B O).evo E
   .rw[u j hj]at C;exact(H.ent j e C).evo E Z λ_ _ _=>rfl
  .rw[xK]at hj;split at hj
   .cases hj
   .exact H.off j hj
 refine⟨⟨X,β,hX,H',λt=>(Ht t).evo E,⟨λj e C=>?_,G.size,G.keep,G.own,G.pas,G.bs,G.os,G.tape,G.output⟩,hJ,hD⟩,λj=>?_,gs,hl⟩
 .have:=G.knd j e C;by_cases hj:j=k
  .subst hj
   cases e with
   |dead=>exact this
   |box cs=>obtain⟨z,h2⟩:=this;(try dsimp only at h2);rw[hk]at h2;cases h2
   |obj cs=>obtain⟨z,h2⟩:=this;(try dsimp only at h2);rw[hk]at h2;cases h2
   |arr W ac av=>obtain⟨ag,V,h2,I⟩:=this;(try dsimp only at h2);rw[hk]at h2;cases h2;exact⟨_,_,L,by rw[A];exact I⟩
  .cases e with
   |dead=>exact this
   |box cs=>obtain⟨z,h2⟩:=this;exact⟨z,by dsimp only;rw[u j hj];exact h2⟩
   |obj cs=>obtain⟨z,h2⟩:=this;exact⟨z,by dsimp only;rw[u j hj];exact h2⟩
   |arr W ac av=>obtain⟨ag,V,h2,I⟩:=this;exact⟨ag,V,by dsimp only;rw[u j hj];exact h2,I⟩
 .dsimp only;by_cases hj:j=k
  .subst hj;rw[L];intro hd;cases hd
  .rw[u j hj];exact nd j
def VU {c:Code} {Q:Exit->St->Prop} (k i K:Nat) {z ys:List AV} {C:Bool} {B:Nat} {A:Fl} (hk:zD h k=some (.arr 1 xs ⟨C,true⟩)) (hv:xs[i]? =some (.s (.slice none 0 0))) (E:zD h K=some (.arr B ys A)) (u:Nat.beq K k=false) (G:xs.set i (.ref K 0 0)=z)
 (I:uG P F m c ⟨tm,(k,.arr 1 z ⟨C,true⟩)::h⟩ Q):uG P F m c ⟨tm,h⟩ Q:=
 ⟨λa w R=>I.run a w (G▸R.recell k i K hk hv E (λe=>by rw[e,Nat.beq_refl]at u;cases u))⟩
end
