/- Part 30. -/
import Derived.Test.YtaglbcjljlkjcaaGreatX29
namespace Go.Proofs.YtaglbcjljlkjcaaGreat.Av
open Tryz
set_option linter.all false
set_option maxRecDepth 4000
set_option maxHeartbeats 16000000
open List renaming length->ln,replicate->pb,take->pi
open Inhabited renaming default->dd
variable {nn:Bool}{e:Ev}{c:Int}{xs:List AV}{b:List Int}
theorem Ia {p:It×Nat} (h:mj b=some p) (hc:p.1.code=0):p=(⟨0,b.getD 3 0,(b.drop 6).take (SO b)⟩,SO b+10)/\SO b+10<=ln b:=by grind [mj,SO]
theorem gx {q:It×Nat} (h:mj b=some q) (hc:q.1.code=0):b.getD 0 0=90/\b.getD 1 0=165/\SO b<=200/\QS ((b.drop 2).take (SO b+4))=xh ((b.drop (SO b+6)).take 4)/\b.getD 2 0=1/\1<=b.getD 3 0/\b.getD 3 0<=22:=by
 have A:=Ia h hc;unfold mj at h;by_cases u:ln b=0
 .grind
 rw[Os u]at h;by_cases z:b.getD 0 0≠90\/(1<ln b/\b.getD 1 0≠165)
 all_goals grind
def zA3 {a b d:Int} (u:0<=a/\a<256) (hb:0<=b/\b<256) (hc:0<=c/\c<256) (hd:0<=d/\d<256):xh [a,b,c,d]=((a*256+b)*256+c)*256+d:=by
 unfold xh;simp only[List.foldl_cons,List.foldl_nil];rw[UB (n:=0) (x:=a) ⟨zB,zB⟩ u,UB (n:=0*256+a) (x:=b) ⟨zB,zB⟩ hb,UB (n:=(0*256+a)*256+b) (x:=c) ⟨zB,zB⟩ hc,UB (n:=((0*256+a)*256+b)*256+c) (x:=d) ⟨zB,zB⟩ hd];omega
def v6 (a c k:Nat) (hc:c<2 ^ k) (h:a*2 ^ k+c<4294967296):Qr ((a*2 ^ k:Nat):Int) (c:Int)=((a*2 ^ k+c:Nat):Int):=by
 have u:=zEq hc a;rw[zGp]at u;rw[Ye (a*2 ^ k) c zB zB,<-u]
def or4 {a b d:Int} (u:0<=a/\a<256) (hb:0<=b/\b<256) (hc:0<=c/\c<256) (hd:0<=d/\d<256):Qr (Qr (Qr (IntKind.u32.wrap (a*2 ^ (min (24:Int).toNat IntKind.u32.bits))) (IntKind.u32.wrap (b*2 ^ (min (16:Int).toNat IntKind.u32.bits)))) (IntKind.u32.wrap (c*2 ^ (min (8:Int).toNat IntKind.u32.bits)))) d=xh [a,b,c,d]:=by
 have w:∀(x y:Int) (k:Nat),0<=x/\x<256->(2:Int) ^ k=y->0<=x*y/\x*y<4294967296->IntKind.u32.wrap (x*2 ^ k)=x*y:=λx y k _ h1 h2=>by rw[h1];exact u32_in h2
 rw[zA3 u hb hc hd,w a 16777216 _ u xA zB,w b 65536 _ hb xA zB,w c 256 _ hc xA zB];obtain⟨a,rfl⟩:=zCz u.1;obtain⟨b,rfl⟩:=zCz hb.1;obtain⟨c,rfl⟩:=zCz hc.1;obtain⟨d,rfl⟩:=zCz hd.1;have s:∀(x y z:Int) (m n k:Nat),x=((m*2 ^ k:Nat):Int)->y=(n:Int)->n<2 ^ k->m*2 ^ k+n<4294967296->z=((m*2 ^ k+n:Nat):Int)->Qr x y=z:=λx y z m n k e1 A h1 h2 e3=>by rw[e1,A,e3];exact v6 m n k h1 h2
 rw[s ((a:Int)*16777216) ((b:Int)*65536) ((a:Int)*16777216+b*65536) a (b*65536) 24 zB zB zB zB zB,
  s ((a:Int)*16777216+b*65536) ((c:Int)*256) ((a:Int)*16777216+b*65536+c*256) (a*256+b) (c*256) 16 zB zB zB zB zB,
  s ((a:Int)*16777216+b*65536+c*256) (d:Int) ((a:Int)*16777216+b*65536+c*256+d) ((a*256+b)*256+c) d 8 zB zB zB zB zB]
 omega
theorem gz (l:List Int) (i:Nat) (h:i+4<=ln l):(l.drop i).take 4=[l.getD i 0,l.getD (i+1) 0,l.getD (i+2) 0,l.getD (i+3) 0]:=by apply zCf<;>grind [List.getElem?_eq_getElem]
def Aq (b:List Int) (hb:BY b) (hl:ln b<=1000000) {q:It×Nat} (C:mj b=some q) (hc:q.1.code=0):zO 216 [zE yA b] [] (.tup [vE q.1,iA q.2,bA true]) []:=by
 have M:=zA yA b;obtain⟨W,Y,iN,E,i2,i3,i4⟩:=gx C hc;obtain⟨I,hn⟩:=Ia C hc;rw[I];clear I C hc;obtain⟨y0,_⟩:=JF b hb 0 zB;obtain⟨y1,_⟩:=JF b hb 1 zB;obtain⟨y2,_⟩:=JF b hb 2 zB;obtain⟨y3,z3⟩:=JF b hb 3 zB;obtain⟨y4,z4⟩:=JF b hb 4 zB;obtain⟨y5,z5⟩:=JF b hb 5 zB;obtain⟨y6,z6⟩:=JF b hb (SO b+6) zB;obtain⟨y7,z7⟩:=JF b hb (SO b+7) zB;obtain⟨y8,z8⟩:=JF b hb (SO b+8) zB;obtain⟨y9,z9⟩:=JF b hb (SO b+9) zB;rw[W]at y0;rw[Y]at y1;rw[i2]at y2;have u:=or8 z4 z5;have B:b.getD 4 0*256+b.getD 5 0=(SO b:Int):=by unfold SO;omega
 rw[B]at u;rw[gz b (SO b+6) zB]at E;have S:=or4 z6 z7 z8 z9;have U:=nk ((b.drop 2).take (SO b+4));have G:∀i k,BY ((b.drop i).take k):=λi k x V=>hb x (zCc (zC2 V))
 generalize b.getD 4 0=x4,b.getD 5 0=x5 at *;generalize hN:SO b=N at *;have A:=Nb ((b.drop 2).take (N+4)) Xy (G _ _);rw[E]at A
 have e1:((b.map yA).drop (2:Int).toNat).take (((N:Int)+6).toNat-(2:Int).toNat)=((b.drop 2).take (N+4)).map yA:=by
  rw[zEk,zD2,show((N:Int)+6).toNat-(2:Int).toNat=N+4 by omega];rfl
 have e3:((b.map yA).drop (6:Int).toNat).take (((N:Int)+6).toNat-(6:Int).toNat)=((b.drop 6).take N).map yA:=by
  rw[zEk,zD2,show((N:Int)+6).toNat-(6:Int).toNat=N by omega];rfl
 have R:(((b.drop 6).take N).map yA).length=N:=by rw[zA6,zBv,zB6];omega
 have O:∀y,(((b.drop 6).take N).map yA)[0]? =some y->ln y.cells=1:=yM _ _ (λ_=>rfl);clear E;generalize (b.drop 2).take (N+4)=B1,(b.drop 6).take N=L at *;clear G U;generalize b.getD 3 0=x3,b.getD (N+6) 0=x6,b.getD (N+7) 0=x7,b.getD (N+8) 0=x8,b.getD (N+9) 0=x9 at *;refine eM call216 λF hF=>?_
 (repeat' (first|(apply zG;first|((apply wT;first|refine wJ (aL Z Z) Z ?_|refine wJ (PO Z Z) Z ?_);(try rw[u]);(try rw[S]))|refine PT ?_|(apply xQ;(first|(refine vJ 261 ?_;first|refine wJ (zL (A) Z Z Z Z Z) Z ?_|refine qA (zL (A) Z Z Z Z Z) Z Z Z ?_|refine aO (zL (A) Z Z Z Z Z) Z Z Z ?_)))|refine SL ?_|refine SB ?_)|refine SG (I2 (λhc=>?_) λhc=>?_)|refine SG λhc=>?_|first|refine SR ?_|refine SK (I2 (λhc=>?_) λhc=>?_)|refine SK λhc=>?_|fail))
 exact zI [] Z Z (zBq (λz=>AV.tup [.agg [iA 0,iA x3,zE yA L],iA z,bA true]) (show(N:Int)+10=((N+10:Nat):Int) by omega)) Z
theorem zr (b:List Int) (hb:BY b) (hl:ln b<=1000000):zO 216 [zE yA b] [] (Kz (mj b)) []:=by
 by_cases u:∃q,mj b=some q/\q.1.code=0
 .obtain⟨q,Y,hc⟩:=u;rw[Y];exact Aq b hb hl Y hc
 have ac:=zA yA b;unfold mj at u⊢;by_cases R:ln b=0
 .rw[zA5 R];refine eM call216 λF hF=>?_
  exact ly
 rw[Os R]at u⊢;obtain⟨M,z0⟩:=JF b hb 0 zB;by_cases h1:b.getD 0 0=90
 case neg=>
  rw[zA5 (.inl h1)];generalize b.getD 0 0=x0 at *;refine eM call216 λF hF=>?_
  exact ly
 by_cases h2:1<ln b
 case neg=>
  rw[Os (λh=>h.elim (λh=>h h1) (λh=>h2 h.1)),zA5 zB];rw[h1]at M;refine eM call216 λF hF=>?_
  exact ly
 obtain⟨y1,z1⟩:=JF b hb 1 h2;by_cases E:b.getD 1 0=165
 case neg=>
  rw[zA5 (.inr ⟨h2,E⟩)];rw[h1]at M;generalize b.getD 1 0=x1 at *;refine eM call216 λF hF=>?_
  exact ly
 rw[Os (λh=>h.elim (λh=>h h1) (λh=>h.2 E))]at u⊢;rw[h1]at M;rw[E]at y1;clear z0 z1 h1 E;by_cases S:ln b<6
 .rw[zA5 S];refine eM call216 λF hF=>?_
  exact ly
 rw[Os S]at u⊢;obtain⟨y4,z4⟩:=JF b hb 4 zB;obtain⟨y5,z5⟩:=JF b hb 5 zB;have A:=or8 z4 z5;have I:b.getD 4 0*256+b.getD 5 0=(SO b:Int):=by unfold SO;omega
 rw[I]at A;generalize b.getD 4 0=x4,b.getD 5 0=x5 at *;generalize hN:SO b=N at *;by_cases U:200<N
 .rw[zA5 U];refine eM call216 λF hF=>?_
  (repeat' (first|(apply zG;first|((apply wT;refine wJ (aL Z Z) Z ?_);rw[A])|refine PT ?_|(apply xQ;fail)|refine SM ?_|refine SB ?_)|refine SG (I2 (λhc=>?_) λhc=>?_)|refine SG λhc=>?_|first|refine SR ?_|refine SK (I2 (λhc=>?_) λhc=>?_)|refine SK λhc=>?_|fail))
  exact zH
 rw[Os U]at u⊢;by_cases V:ln b<N+10
 .rw[zA5 V];refine eM call216 λF hF=>?_
  (repeat' (first|(apply zG;first|((apply wT;refine wJ (aL Z Z) Z ?_);rw[A])|refine PT ?_|(apply xQ;fail)|refine SM ?_|refine SB ?_)|refine SG (I2 (λhc=>?_) λhc=>?_)|refine SG λhc=>?_|first|refine SR ?_|refine SK (I2 (λhc=>?_) λhc=>?_)|refine SK λhc=>?_|fail))
  exact zH
 rw[Os V]at u⊢;have O:∀i k,BY ((b.drop i).take k):=λi k x hx=>hb x (zCc (zC2 hx))
 have C:=Nb ((b.drop 2).take (N+4)) Xy (O _ _)
 have e1:((b.map yA).drop (2:Int).toNat).take (((N:Int)+6).toNat-(2:Int).toNat)=((b.drop 2).take (N+4)).map yA:=by
  rw[zEk,zD2,show((N:Int)+6).toNat-(2:Int).toNat=N+4 by omega];rfl
 obtain⟨y6,z6⟩:=JF b hb (N+6) zB;obtain⟨y7,z7⟩:=JF b hb (N+7) zB;obtain⟨y8,z8⟩:=JF b hb (N+8) zB;obtain⟨y9,z9⟩:=JF b hb (N+9) zB;obtain⟨y2,z2⟩:=JF b hb 2 zB;obtain⟨y3,z3⟩:=JF b hb 3 zB;have L:=or4 z6 z7 z8 z9;rw[gz b (N+6) zB]at u⊢;generalize (b.drop 2).take (N+4)=B1 at *;clear O;generalize b.getD 2 0=x2,b.getD 3 0=x3,b.getD (N+6) 0=x6,b.getD (N+7) 0=x7,b.getD (N+8) 0=x8,b.getD (N+9) 0=x9,QS B1=u1 at *;generalize xh [x6,x7,x8,x9]=u2 at *;by_cases G:u1=u2
 case neg=>
  rw[zA5 G];have G:u2≠u1:=λh=>G h.symm
  clear u;refine eM call216 λF hF=>?_
  (repeat' (first|(apply zG;first|((apply wT;first|refine wJ (aL Z Z) Z ?_|refine wJ (PO Z Z) Z ?_);(try rw[A]);(try rw[L]))|refine PT ?_|(apply xQ;(first|(refine vJ 261 ?_;first|refine wJ (zL (C) Z Z Z Z Z) Z ?_|refine qA (zL (C) Z Z Z Z Z) Z Z Z ?_|refine aO (zL (C) Z Z Z Z Z) Z Z Z ?_)))|refine SM ?_|refine SB ?_)|refine SG (I2 (λhc=>?_) λhc=>?_)|refine SG λhc=>?_|first|refine SR ?_|refine SK (I2 (λhc=>?_) λhc=>?_)|refine SK λhc=>?_|fail))
  exact zH
 subst G;rw[Os (λh=>h Z)]at u⊢;by_cases W:x2=1
 case neg=>
  rw[zA5 W];clear u;refine eM call216 λF hF=>?_
  (repeat' (first|(apply zG;first|((apply wT;first|refine wJ (aL Z Z) Z ?_|refine wJ (PO Z Z) Z ?_);(try rw[A]);(try rw[L]))|refine PT ?_|(apply xQ;(first|(refine vJ 261 ?_;first|refine wJ (zL (C) Z Z Z Z Z) Z ?_|refine qA (zL (C) Z Z Z Z Z) Z Z Z ?_|refine aO (zL (C) Z Z Z Z Z) Z Z Z ?_)))|refine SM ?_|refine SB ?_)|refine SG (I2 (λhc=>?_) λhc=>?_)|refine SG λhc=>?_|first|refine SR ?_|refine SK (I2 (λhc=>?_) λhc=>?_)|refine SK λhc=>?_|fail))
  exact zI [] Z Z (zBq (λz=>AV.tup [.agg [iA 3,iA 0,.sl false []],iA z,bA true]) (show(N:Int)+10=((N+10:Nat):Int) by omega)) Z
 rw[Os (λh=>h W)]at u⊢;by_cases B:x3<1\/22<x3
 .rw[zA5 B];clear u
  rcases B with B|B
  all_goals
   refine eM call216 λF hF=>?_
   (repeat' (first|(apply zG;first|((apply wT;first|refine wJ (aL Z Z) Z ?_|refine wJ (PO Z Z) Z ?_);(try rw[A]);(try rw[L]))|refine PT ?_|(apply xQ;(first|(refine vJ 261 ?_;first|refine wJ (zL (C) Z Z Z Z Z) Z ?_|refine qA (zL (C) Z Z Z Z Z) Z Z Z ?_|refine aO (zL (C) Z Z Z Z Z) Z Z Z ?_)))|refine SM ?_|refine SB ?_)|refine SG (I2 (λhc=>?_) λhc=>?_)|refine SG λhc=>?_|first|refine SR ?_|refine SK (I2 (λhc=>?_) λhc=>?_)|refine SK λhc=>?_|fail))
   exact zI [] Z Z (zBq (λz=>AV.tup [.agg [iA 5,iA 0,.sl false []],iA z,bA true]) (show(N:Int)+10=((N+10:Nat):Int) by omega)) Z
 .rw[Os B]at u;exact absurd ⟨_,rfl,rfl⟩ u
def u6 (b:List Int) (hl:ln b<=256) (g:Bool) (x:List Int) (E:ln x<=1000000):zO 165 [nz b g,zE yA x] [] (.tup [nz (b++x.take (UG (ln b) (ln x))) g,bA (decide (UG (ln b) (ln x)=ln x))]) []:=by
 have z:=zA yA b;have u:=zA yA x;have C:UG (ln b) (ln x)<=ln x/\b.length+UG (ln b) (ln x)<=256:=by unfold UG;omega
 have e1:min ((ln x:Nat):Int) (256-((ln b:Nat):Int))=((UG (ln b) (ln x):Nat):Int):=by unfold UG;omega
 have B:zE yA (b++x.take (UG (ln b) (ln x)))= .sl false (b.map yA++(x.take (UG (ln b) (ln x))).map yA):=by unfold zE;rw[zBd]
 unfold nz;rw[B];generalize UG (ln b) (ln x)=f at *;refine eM call165 λF hF=>?_
 (repeat' (first|refine Tc ?_|apply yW|apply xH|intro hc|(apply zG;first|refine SM ?_)|fail))
 rw[z,u,e1]
 (repeat' (first|refine uT ?_|apply yW|apply xH|intro hc|(apply zG;first|(apply yE;refine xE 1001 tok Z Z Z Z Z Z (yM _ _ (λ_=>rfl)) Z Z Z zB Z Z Z ?_))|fail))
 refine zI [] Z Z ?_ Z
 show AV.tup [AV.agg [AV.sl false (pi (b.map yA++(x.take f).map yA).length (b.map yA++(x.take f).map yA)),bA g],bA (uS .eql (f:Int) ((x.map yA).length:Int))]=_
 rw[zA8,u,show uS .eql (f:Int) (ln x:Int)=decide (f=ln x) by
  by_cases A:f=ln x
  .rw[A];simp[uS]
  .have:(f:Int)≠(ln x:Int):=by omega
   simp[uS,A,this]]
def OS (s:Ss) (h:ln s.bf<=1000):zO 164 [dD s] [] (dD s) []:=by
 have hl:=zA yA s.bf;unfold dD;refine eM call164 λF hF=>?_
 refine WL ?_;refine zI [] Z Z ?_ Z;rfl
def yr (s:Ss) (hl:ln s.bf<=1000):zO 100 [dD s] [] (dD (if s.op=true then s else⟨true,false,[],false⟩)) []:=by
 obtain⟨op,A,z,B⟩:=s;dsimp only at hl⊢;have u:=OS ⟨op,A,z,B⟩ hl;cases op
 .rw[Os zBm];unfold dD at *;refine eM call100 λF hF=>?_
  exact ng u
 .rw[zA5 Z];unfold dD at *;refine eM call100 λF hF=>?_
  exact ng u
def xr (s:Ss):zO 101 [dD s] [] (dD ⟨false,false,[],false⟩) []:=by
 unfold dD;refine eM call101 λF hF=>?_
 exact ly
def dx (s:Ss) (hl:ln s.bf<=256) (x:List Int) (G:ln x<=1000000):zO 102 [dD s,zE yA x] [] (dD (Eb s x)) []:=by
 obtain⟨op,B,A,E⟩:=s;dsimp only at hl;have C:=OS ⟨op,B,A,E⟩ MK;have u:=u6 A hl E x G;unfold Eb;dsimp only;unfold nz at u;cases op
 .rw[Os zBm];unfold dD at *;refine eM call102 λF hF=>?_
  exact ng C
 .rw[zA5 Z];unfold dD at *;cases z:decide (UG (ln A) (ln x)=ln x)
  .rw[z]at u;rw[zA9 (zFl z),zEt];cases B
   all_goals
    refine eM call102 λF hF=>?_
    exact mx (xW C u)
  .rw[z]at u;rw[zA7 (λh=>h (zEy z)),zGg];cases B
   all_goals
    refine eM call102 λF hF=>?_
    exact mx (xW C u)
def Z9 (b:List Int) (N:Nat) (R s:Ur) (m:Nat):Prop:=s.t<=ln b/\b.length<=m+s.t/\((ln s.its<N/\DG N (HE m (b.drop s.t)) s=R)\/(ln s.its=N/\s=R))
theorem Z9.next {N:Nat} {R s:Ur} {m:Nat} {p:It×Nat} (C:1<=p.2/\p.2<=ln b-s.t) (E:s.t<=ln b) (B:ln b<=m+1+s.t) (A:ln s.its<N) (z:DG N (p::HE m (b.drop (s.t+p.2))) s=R):Z9 b N R (HF s p) m:=by
 have e:(HF s p).t=s.t+p.2:=by unfold HF;split<;>rfl
 refine⟨zB,zB,?_⟩;unfold DG at z;rw[e];by_cases u:O9 N s p=true
 .rw[zA5 u]at z;refine .inr ⟨?_,z⟩;unfold O9 at u;simp only[zBg,zDo,zBc]at u;unfold HF;rw[Os (by rw[u.1];exact zBm)]
  show(s.its++[p.1]).length=N
  rw[zBa,zDb];omega
 .rw[Os u]at z;refine .inl ⟨?_,z⟩;unfold O9 at u;unfold HF;cases hc:oz s p
  .rw[hc]at u;rw[Os zBm];simp only[zE4,zBh,zBc]at u
   show(s.its++[p.1]).length<N
   rw[zBa,zDb];omega
  .rw[zA5 Z];exact A
theorem wr (b:List Int) (hb:BY b) (hl:ln b<=1000) (g:Bool) (N:Nat) (hN:1<=N/\N<=1000):zO 166 [nz b g,iA N] []
  (.tup [nz (b.drop (DG N (HE (ln b) b) ⟨0,g,[]⟩).t) (DG N (HE (ln b) b) ⟨0,g,[]⟩).g,zE vE (DG N (HE (ln b) b) ⟨0,g,[]⟩).its]) []:=by
 have ac:=zA yA b;have h0:Z9 b N (DG N (HE (ln b) b) ⟨0,g,[]⟩) ⟨0,g,[]⟩ (ln b):=⟨zBn _,zBb _,.inl ⟨by show 0<N;omega,rfl⟩⟩;generalize DG N (HE (ln b) b) ⟨0,g,[]⟩=R at *;unfold nz;refine eM call166 λF hF=>?_
 refine WW ?_;refine zQ 6 1001 3 Z Z Z ?_;refine gE (ln b) [1001,2,4] [2,4] [1,2,4] [6,7,8,1,2,4] Z (λM T U zs=>∃(s:Ur) (m:Nat),(Z9 b N R s m/\M=m)/\zs=⟨(6,.ref 1001 0 (s.its.map vE).length)::(7,iA s.t)::(8,bA s.g)::T,(1001,.arr 3 (s.its.map vE) true)::U⟩) ?_;(conv=>whnf);refine⟨?_,?_⟩
 .exact⟨⟨0,g,[]⟩,ln b,⟨h0,rfl⟩,rfl⟩
 rintro M st ⟨s,m,⟨⟨ht,hm,hI⟩,rfl⟩,rfl⟩;have ag:=zA vE s.its
 rcases hI with⟨L,G⟩|⟨L,rfl⟩
 case inr=>
  refine WL ?_;refine zI [] Z Z ?_ Z
  show AV.tup [AV.agg [.sl false ((b.drop s.t).map yA),bA s.g],.sl false (pi (s.its.map vE).length (s.its.map vE))]=_
  rw[zA8];rfl
 have A:=zr (b.drop s.t) (λx V=>hb x (zCc V)) BT
 cases I:mj (b.drop s.t)with
 | none=>
  rw[I]at A
  have S:s=R:=by
   rw[<-G]
   cases M with
   |zero=>rfl
   |succ m=>unfold HE;rw[I];rfl
  subst S;unfold Kz at A;dsimp only at A;refine VZ A ?_;refine zI [] Z Z ?_ Z
  show AV.tup [AV.agg [.sl false ((b.drop s.t).map yA),bA s.g],.sl false (pi (s.its.map vE).length (s.its.map vE))]=_
  rw[zA8];rfl
 | some q=>
  rw[I]at A;obtain⟨⟨q1,q2⟩,_⟩:=Vr (λx V=>hb x (zCc V)) I;rw[zB6]at q2;obtain⟨m,rfl⟩:∃m,M=m+1:=⟨M-1,zB⟩;unfold HE at G;rw[I]at G;dsimp only at G;rw[List.drop_drop]at G;unfold Kz at A;dsimp only at A;have E:=Z9.next ⟨q1,q2⟩ ht zB L G;obtain⟨⟨u,z,B⟩,n⟩:=q;dsimp only at *;have W:s.t+n<=1000:=by omega
  have O:(s.its++[(⟨u,z,B⟩:It)]).map vE=s.its.map vE++[vE ⟨u,z,B⟩]:=by simp
  clear G I;by_cases h2:u=2
  .cases hg:s.g
   .have e:HF s (⟨u,z,B⟩,n)=⟨s.t+n,true,s.its++[⟨u,z,B⟩]⟩:=by simp[HF,oz,hg,h2]
    rw[e]at E;generalize s.its.map vE=Y at *;unfold vE at *;dsimp only at *;refine VZ A ?_;exact⟨m,zB,⟨s.t+n,true,s.its++[⟨u,z,B⟩]⟩,m,⟨E,rfl⟩,by dsimp only;rw[O];rfl⟩
   .have e:HF s (⟨u,z,B⟩,n)=⟨s.t+n,true,s.its⟩:=by simp[HF,oz,hg,h2]
    rw[e]at E;unfold vE at A;dsimp only at *;refine VZ A ?_;exact⟨m,zB,⟨s.t+n,true,s.its⟩,m,⟨E,rfl⟩,rfl⟩
  .by_cases C:u=7\/u=4
   .have e:HF s (⟨u,z,B⟩,n)=⟨s.t+n,true,s.its++[⟨u,z,B⟩]⟩:=by
     rcases C with C|C<;>simp[HF,oz,C]
    rw[e]at E;generalize s.its.map vE=Y at *;unfold vE at *;dsimp only at*
    rcases C with C|C
    all_goals
     refine VZ A ?_;exact⟨m,zB,⟨s.t+n,true,s.its++[⟨u,z,B⟩]⟩,m,⟨E,rfl⟩,by dsimp only;rw[O];rfl⟩
   .have h7:¬u=7:=λh=>C (.inl h)
    have h4:¬u=4:=λh=>C (.inr h)
    have e:HF s (⟨u,z,B⟩,n)=⟨s.t+n,false,s.its++[⟨u,z,B⟩]⟩:=by simp[HF,oz,h2,h7,h4]
    rw[e]at E;generalize s.its.map vE=Y at *;unfold vE at *;dsimp only at *;refine VZ A ?_;exact⟨m,zB,⟨s.t+n,false,s.its++[⟨u,z,B⟩]⟩,m,⟨E,rfl⟩,by dsimp only;rw[O];rfl⟩
def vr (s:Ss) (hb:BY s.bf) (hl:ln s.bf<=1000):zO 103 [dD s] [] (.tup [dD (aE s).1,uI (aE s).2]) []:=by
 obtain⟨op,B,u,z⟩:=s;dsimp only at hb hl;have G:=OS ⟨op,B,u,z⟩ hl;have A:=wr u hb hl z 4 zB;have C:=EU (N:=4) (HE (ln u) u) ⟨0,z,[]⟩ (by show 0<4;omega);unfold aE;dsimp only;generalize DG 4 (HE (ln u) u) ⟨0,z,[]⟩=r at *;have E:=zA vE r.its;unfold nz at A;cases op
 .rw[Os zBm];unfold dD at *;unfold uI;refine eM call103 λF hF=>?_
  exact ng G
 .rw[zA5 Z];unfold dD at *;unfold uI;cases B
  .rw[Os zBm,zEf];refine eM call103 λF hF=>?_
   refine zS A ?_;refine Qb 27 1055 3 Z Z Z ?_;refine WW ?_;refine zI [] Z Z ?_ Z
   show AV.tup [_,AV.agg [_,AV.sl false (pi (r.its.map vE).length (r.its.map vE))]]=_
   rw[zA8];rfl
  .rw[zA5 Z,show zE vE ([⟨15,0,[]⟩]++r.its)= .sl false ([.agg [iA 15,iA 0,zE yA []]]++r.its.map vE) by unfold zE;rw[zBd];rfl];refine eM call103 λF hF=>?_
   (have ga:=A;(repeat' (first|refine jX ?_|apply yW|apply xH|intro hc|(apply zG;first|(apply yI;refine ZR 18 Z Z Z ?_;refine vD tok Z Z ?_))|refine SB ?_|fail))<;>clear ga)
   refine Qb 17 1055 3 Z Z Z ?_
   (have ga:=A;(repeat' (first|refine uT ?_|apply yW|apply xH|intro hc|(apply zG;first|refine SM ?_)|fail))<;>clear ga)
   refine zI [] Z Z ?_ Z
   show AV.tup [_,AV.agg [_,AV.sl false (pi ([AV.agg [iA 15,iA 0,zE yA []]]++r.its.map vE).length ([AV.agg [iA 15,iA 0,zE yA []]]++r.its.map vE))]]=_
   rw[zA8];rfl
section
open Classical in
noncomputable def Og (m:Ms):List Int:=if h:ZH m then Mb m.kind (ZL h.2).choose else []
def dz (m:Ms) (h:ZH m):((Og m).length<=300/\(m.args≠[]->∃q:List Int,Og m=90::165::1::m.kind::q/\7<=ln q))/\JT [zX m] [] (.tup [zE yA (Og m),iA 0]) []:=by
 have B:=(ZL h.2).choose_spec;have e:Og m=Mb m.kind (ZL h.2).choose:=by unfold Og;rw[zGk h]
 rw[e];generalize (ZL h.2).choose=p at *;obtain⟨h1,h2,u⟩:=B;obtain⟨k,L,C,E⟩:=m;obtain⟨z,G⟩:=h;dsimp only at *;subst z;refine⟨⟨?_,λA=>?_⟩,u⟩
 .simp only[Mb,Jx,zBl,zBa,zA6,zCr];have:(HN k (ln p)).length<=10:=by unfold HN;simp
  have:=h2.1;omega
 .refine⟨0::(ln p:Int)::(p++Jx (QS (HN k (ln p)++p))),by simp[Mb,HN],?_⟩;have I:=h2.2 A;simp only[Jx,zBl,zBa,zA6,zCr];omega
noncomputable def PL (l:List Ms):List Int:=(l.map Og).flatten
def ur (l:List Ms) (m:Ms):PL (l++[m])=PL l++Og m:=by simp[PL]
theorem Ng:∀{l:List Ms},(∀m∈l,ZH m)->(PL l).length<=300*ln l
 | [],_=>zBn _
 |m::l,h=>by
  have h1:=(dz m (h m zV)).1.1;have h2:=Ng (l:=l) λx u=>h x (by simp[u])
  have e:PL (m::l)=Og m++PL l:=rfl;rw[e,zBa,zBl];omega
structure QO where
 y:Cy
 ss:List Ss
def Ha (y:Cy) (s:AV):AV:= .agg [zE wK y.c.js,zE vP y.c.ags,iA y.c.per,iA y.c.cap,iA y.c.hold,iA y.c.lock,bA false,iA y.f3,zE zM y.ds,zE vG y.sg,zE wW y.sv,zE iA y.st,zE vV y.vw,s]
def VV (b:QO):AV:=Ha b.y (zE dD b.ss)
structure Mg (b:QO):Prop where
 y:LX b.y
 l:(b.ss.length:Int)=uF b.y.c.ags b.y.c.ags.length
 s:∀s∈b.ss,i6 s
def C9 (S:List (List Int)) (f:List Int):AV:= .agg [zE (zE yA) S,zE yA f]
def ZF (u:List Ss):List In:=u.map λs=>(aE s).2
def VW (u:List Ss) (i:Nat):List Ss:=ZA (λ_ s=>(aE s).1) u i
end
section
open Classical in
noncomputable def j6 (m:Ms):List Int:=if h:ZH m then(ZL h.2).choose else []
def d6 {m:Ms} (h:ZH m):Og m=Mb m.kind (j6 m)/\(BY (j6 m)/\PyF m.kind m.args m.data (j6 m))/\(j6 m).length<=200:=by
 have u:=(ZL h.2).choose_spec;have e1:Og m=Mb m.kind (ZL h.2).choose:=by unfold Og;rw[zGk h]
 have z:j6 m=(ZL h.2).choose:=by unfold j6;rw[zGk h]
 rw[e1,z];exact⟨rfl,u.1,u.2.1.1⟩
def px (k:Int) (p:List Int):(Mb k p).length=ln p+10:=by
 simp only[Mb,Jx,HN,zBl,zBa,zA6,zCr,zCd];omega
end
def ox (h:0<=c):Jx c=[c/16777216 % 256,c/65536 % 256,c/256 % 256,c % 256]:=by
 unfold Jx;simp only[show List.range 4=[0,1,2,3]from Z,zCo,zCy,Gj];rw[show c.fdiv (2 ^ (min (8*(3-((0:Nat):Int))).toNat IntKind.u32.bits))=c.fdiv 16777216 from Z,show c.fdiv (2 ^ (min (8*(3-((1:Nat):Int))).toNat IntKind.u32.bits))=c.fdiv 65536 from Z,show c.fdiv (2 ^ (min (8*(3-((2:Nat):Int))).toNat IntKind.u32.bits))=c.fdiv 256 from Z,show c.fdiv (2 ^ (min (8*(3-((3:Nat):Int))).toNat IntKind.u32.bits))=c.fdiv 1 from Z];rw[zDd _ zB,zDd _ zB,zDd _ zB,zDd _ zB,Int.ediv_one]
def p6 {s:Int} (h:0<=s):Ix s=Jx s:=by
 rw[ox h];unfold Ix;simp only[Gj];rw[show s.fdiv (2 ^ (min (24:Int).toNat IntKind.u32.bits))=s.fdiv 16777216 from Z,show s.fdiv (2 ^ (min (16:Int).toNat IntKind.u32.bits))=s.fdiv 65536 from Z,show s.fdiv (2 ^ (min (8:Int).toNat IntKind.u32.bits))=s.fdiv 256 from Z];rw[zDd _ zB,zDd _ zB,zDd _ zB]
def rx (k:Int) (p:List Int) (z:0<=k) (A:k<=255) (hb:BY p) (u:ln p<=200):zO 215 [iA k,zE yA p] [] (.tup [.ref 1031 0 ((Mb k p).map yA).length,iA 0]) [(1031,.arr 1 ((Mb k p).map yA) true)]:=by
 obtain⟨q,e,_,_,c⟩:=Xe k p z A hb u;rw[p6 (nk _).1]at e;rw[show Mb k p=q from e.symm];exact c
theorem qr (u z:Nat) (c:Int):∀(l:List Int) (i:Nat),i+ln l<=u->ZC u z c i l=(l.map jQ).flatten
 | [],i,_=>rfl
 |x::l,i,h=>by
  rw[zBl]at h;rw[ZC,qr u z c l (i+1) zB,Os (λh2=>by omega)];rfl
def Zx (k:Int) (z A c:Nat) (u E:List Int) (hl:ln u=z+A*c) (hc:c<128):dL z A (c:Int) ⟨k,[],u,E⟩=NC z A c u (ln u)++E:=by
 have I:z<=ln u:=by rw[hl];exact Nat.le_add_right _ _
 have G:jQ (c:Int)=[(c:Int)]:=by unfold jQ;rw[VA zB]
 rw[rz _ _ _ _ zB zB,zBx,G];unfold dL;dsimp only;rw[zEf];by_cases C:A=0
 .subst C;have h1:ln u=z:=by rw[hl];simp
  rw[Ep,Os (λh=>h.1 Z),Os zB,zBf zB,zEh zB];simp
 .rw[zA5 (by omega:(0:Int)<(A:Int))];by_cases B:c=0
  .subst B;have h1:ln u=z:=by rw[hl];simp
   rw[qr _ _ _ _ _ zB,zA5 ⟨C,h1⟩,zBf zB,zEh zB];simp
  .have h1:z<ln u:=by
    rw[hl];have:0<A*c:=Nat.mul_pos zB zB;omega
   have e:=EO z A c C (u.drop z) (λh=>by have:=zBq List.length h;rw[zB6,zCd]at this;omega) (u.take z) 0 IC;rw[zEw]at e;rw[e,Os (λh=>by omega)];simp
def Y9 (m:Ms) (h:ZH m):zO 162 [zX m] [] (.tup [zE yA (Og m),iA 0]) []:=by
 obtain⟨e0,⟨W,gr,ap,L,M⟩,av⟩:=d6 h;obtain⟨ht,S⟩:=h;rw[e0];clear e0;generalize j6 m=G at *;obtain⟨k,ax,B,I⟩:=m;dsimp only at *;subst ht;have kv:=oe S;have E:=S.kk;have hz:=S.z;have au:=S.l
 have v2:zO 70 [zX ⟨k,[],B,I⟩] [] (zE yA G) []:=by
  have V:(0<=(jP k).1/\(jP k).1<=4)/\(0<=(jP k).2.1/\(jP k).2.1<=4)/\(jP k).2.2.2.1<=16:=by
   have:k=13\/k=14\/k=15\/k=16\/k=17\/k=18\/k=19\/k=20\/k=21:=by omega
   clear E kv L M S
   rcases this with rfl|rfl|rfl|rfl|rfl|rfl|rfl|rfl|rfl<;>decide
  obtain⟨⟨f0,f1⟩,⟨r0,r1⟩,ac⟩:=V;have Y:=A6 k E;obtain⟨O,R⟩:∃n:Nat,(jP k).1=(n:Int):=⟨(jP k).1.toNat,zB⟩;obtain⟨A,U⟩:∃n:Nat,(jP k).2.1=(n:Int):=⟨(jP k).2.1.toNat,zB⟩;obtain⟨C,rfl⟩:∃n:Nat,gr=(n:Int):=⟨gr.toNat,zB⟩;rw[R,U]at Y M L;generalize (jP k).2.2.1=lo,(jP k).2.2.2.1=hi,(jP k).2.2.2.2=sd at *
  have u:ln B=O+A*C:=by
   rcases L with⟨q1,q2,q3⟩|⟨q1,q2,_⟩
   .rw[show A=0 by omega,zEp];omega
   .have:((A*C:Nat):Int)=(A:Int)*(C:Int):=by push_cast;rfl
    omega
  have v:=HJ k O A lo hi sd Y zB ⟨k,[],B,I⟩ C Z zV MK S.n MK (λ_=>by dsimp only;rw[u,zE7]) zB;rw[Zx k O A C B I u zB,<-M]at v;exact v
 have c2:=rx k G zB zB W zB;have ag:=px k G;clear M L S hz;unfold zX at *;dsimp only at*
 have k1:zO 21 [.agg [iA k,zE yA [],zE iA B,zE yA I]] [] (.tup [zE yA G,iA 0]) []:=by
  refine eM call21 λF hF=>?_
  exact mx (xW kv v2)
 generalize Mb k G=f at *;refine eM call162 λF hF=>?_
 refine yJ (xW k1 c2) ?_;exact zI [] Z Z (zBq (λz=>AV.tup [AV.sl false z,iA 0]) zA8) Z
def HB (l:List Ms) (hl:ln l<=1002) (h:∀m∈l,ZH m):zO 104 [zE zX l] [] (zE yA (PL l)) []:=by
 have E:=zA zX l;refine eM call104 λF hF=>?_
 refine WW ?_;refine zQ 3 1001 1 Z Z Z ?_;refine zU (l) [1001] [] [8,9] [3,10,8,9] Z (λi f4 T U=>⟨(3,.ref 1001 0 ((PL f4).map yA).length)::(10,iA i)::T,(1001,.arr 1 ((PL f4).map yA) true)::U⟩) (Lq ?_ ?_)
 .intro i f4 x post u hi;have M:=yG zX u hi;have B:=zW u hi;obtain⟨⟨L,_⟩,_⟩:=dz x (h x (yY u));have z:=Y9 x (h x (yY u));have G:=Ng (l:=f4) λm C=>h m (by rw[u];simp[C])
  have I:=zA yA (PL f4);have A:=zA yA (Og x);rw[ur,zBd];clear u;generalize PL f4=X,Og x=Y at *;unfold zX at *;refine zS z ?_;rfl
 ·(refine WW ?_)
  exact zI [] Z Z (zBq (AV.sl false) zA8) Z
theorem uj (v:AV):(ZG v).cells=v.cells.map ZG:=by
 cases v with
 |agg cs=>show wkL cs=cs.map ZG;exact Xf cs
 |s v=>
  show(ZG (.s v)).cells=[ZG (.s v)]
  unfold ZG
  split<;>rfl
 |_=>rfl
theorem xM.wkl {w:World} {D:Nat->Prop} {c:Value} (hv:xM w D (.sl nn xs) c):xM w D (.sl nn (xs.map ZG)) c:=by
 cases hv with
 |nil a cap=>exact .nil a cap
 |nil1 a cap=>exact .nil1 a cap
 | sl _ _ b o sz cap f z hL hc h=>
  have hl:(xs.map ZG).length=ln xs:=zA6 ..
  have hk:∀(i:Nat) (x:AV),(xs.map ZG)[i]? =some x->∃y,xs[i]? =some y/\x.cells=y.cells.map ZG:=λi x z=>by
   grind [ZG,Option.map_eq_some_iff,uj]
  have A:B2 w D (xs.map ZG) b o sz f:=by
   refine⟨hL.lt,hL.nd,hL.pos,by rw[hl];exact hL.max,λi x z=>?_,λi j hi hj=>hL.cell i j (by rw[hl]at hi;exact hi) hj,λi j hi hj=>hL.one i j (by rw[hl]at hi;exact hi) hj⟩;obtain⟨y,C,B⟩:=hk i x z;rw[B,zA6];exact hL.wide i y C
  have:=xM.sl nn (xs.map ZG) b o sz cap f (by simpa using z) A (by rw[hl];exact hc) (λi x j v hi hj=>by
   obtain⟨y,C,B⟩:=hk i x hi;rw[B,zBe,zBp]at hj;obtain⟨u,E,rfl⟩:=hj
   exact(h i y j u C E).wk)
  grind
section
variable {P:Program} {K0:List Nat} {F:Fr K0} {m:Nat} {ops:Array Oper} {rest:List Oper} {fs:List FP} {tm:List (Nat×AV)} {h:List (Nat×xV)}
theorem wL.wkL {a:Act} {w:World} (R:wL F m ⟨tm,h⟩ a w) (t:Nat) {ys:List AV} (hv:zK tm t= .sl nn xs) (C:xs.map ZG=ys):wL F m ⟨(t,.sl nn ys)::tm,h⟩ a w:=by
 obtain⟨⟨X,β,B,H,u,z,I,A⟩,G,gs,hl⟩:=R;refine⟨⟨X,β,B,H,λj=>?_,z,λi hi=>?_,A⟩,G,gs,hl⟩
 .rw[xF];split
  .rename_i hj;subst hj;have:=u j;dsimp only at this;rw[hv]at this
   cases this with
   |fz _ _ E=>exact .fz _ _ (C▸E.wkl)
  .exact u j
 all_goals grind [wL,zK,ZG]
def X9 {Q:List FP->St->Prop} (t:Nat) {ys:List AV} (hv:zK tm t= .sl nn xs) (u:xs.map ZG=ys) (hk:yP P F m ops false rest ⟨(t,.sl nn ys)::tm,h⟩ fs Q):yP P F m ops false rest ⟨tm,h⟩ fs Q:=
 ⟨λa w R=>hk.run a w (R.wkL t hv u)⟩
end
def zSe:AV:= .agg [bA false,bA false,.s (.slice none 0 0),bA false]
def K6 (c:Cf):QO:=⟨WJ c,pb (uF c.ags (ln c.ags)).toNat ⟨false,false,[],false⟩⟩
theorem W9 {α β:Type} [Inhabited α] [Inhabited β] (f:α->β) (l:List α) (k:Nat) (hk:k<ln l):(l.map f).getD k dd=f (l.getD k dd):=by grind
theorem cz (c:Cf) (h:qb c):LX (WJ c):=by
 have B:=h.a;have z:(OZ c (ln c.ags)).length=ln c.ags:=by simp[OZ]
 have u:∀d∈OZ c (ln c.ags),∃k:Nat,k<ln c.ags/\d=PJ (k:Int) (c.ags.getD k dd) (c.ags.getD k dd).ses.toNat:=λd hd=>by
  grind [WJ,OZ]
 refine⟨h,rfl,zDg _,z,λd hd=>?_,λa B=>?_,λd hd=>?_,by simp[WJ],by simp[WJ],by simp[WJ],by simp[WJ],λw C=>?_,λk hk=>?_⟩
 .obtain⟨k,hk,rfl⟩:=u d hd;exact Y5 (h.av _ (yB c.ags k hk)) k zB
 .have A:a<ln c.ags:=by rw[<-z];exact B
  show((OZ c (ln c.ags)).getD a dd).rg.ag=_
  unfold OZ;rw[zBj,zBe,zC1 A];rfl
 .obtain⟨k,hk,rfl⟩:=u d hd;exact λr G=>by cases G
 .unfold WJ at C;obtain⟨j,hj,rfl⟩:=zCl.1 C;exact Kx j (h.jv j hj) _ _
 .have hk':k<ln c.js:=hk;have J:=h.jv _ (yB c.js k hk')
  show JI (c.js.getD k dd) ((c.js.map fM).getD k dd) ((c.js.map HP).getD k dd) 0
  rw[W9 fM c.js k hk',W9 HP c.js k hk'];refine⟨Ck J,by simp[HP,bh],λe E=>?_,zDg _,(by decide:(0:Int)<=60)⟩;rw[(zE2.1 E).2]
  decide
def V9 (c:Cf) (h:qb c):Mg (K6 c):=by
 have hb:=vT h.ag (ln c.ags) (zBb _);refine⟨cz c h,?_,λs u=>?_⟩
 .show((pb _ _).length:Int)=_
  rw[zC4]
  show((uF c.ags (ln c.ags)).toNat:Int)=uF c.ags (ln c.ags)
  omega
 .rw[(zE2.1 u).2];exact⟨jT,zBn _⟩
def o6 (b:QO) (k:Int):Bool:=decide (0<=k/\k<(ln b.ss:Int))
def U9 (e:Ev) (s:Ss):Ss:=if e.k=1 then(if s.op=true then s else⟨true,false,[],false⟩)else if e.k=2 then⟨false,false,[],false⟩else Eb s e.y
def Ga (b:QO) (e:Ev):QO:=if o6 b e.s=true then⟨b.y,b.ss.set e.s.toNat (U9 e (b.ss.getD e.s.toNat dd))⟩else b
def B9:AV:= .agg [.sl false [],.sl false []]
def ae (y:Cy) (e:Ev):Cy:=if e.k=4 then WI y e.a e.y else UA y e.a e.b
def Yx (d:wE):Int×List Rq:=(d.rg.num,d.rq)
def qj {α:Type} {l:List α} {i:Nat} {x:α} (h:l[i]? =some x):l.set i x=l:=by
 apply zCf;intro j;rw[zD5];split
 .rename_i e;subst e;have:=(zBw.1 h).1;rw[zA5 this,h]
 .rfl
def pe {y:Cy} (u:y.rf=false) (e:Ev):(ae y e).c=y.c/\(ae y e).f3=y.f3/\(ae y e).sg=y.sg/\(ae y e).sv=y.sv/\(ae y e).vw=y.vw/\(ae y e).ds.map Yx=y.ds.map Yx:=by
 unfold ae;split
 .unfold WI;split
  .rename_i hc;refine⟨rfl,rfl,rfl,rfl,rfl,?_⟩
   show(y.ds.set _ _).map Yx=_
   rw[zCs];refine qj (zBe.trans ?_);rw[zBj,zB2 zB];rfl
  .exact⟨rfl,rfl,rfl,rfl,rfl,rfl⟩
 .unfold UA
  split<;>exact⟨rfl,rfl,rfl,rfl,rfl,rfl⟩
structure pz where
 b:QO
 S:List (List Int)
 f:List Int
 fl:Bool
structure DvP (b:QO) (e:Ev) (r:pz):Prop where
 s:e.k=1\/e.k=2\/e.k=3->r=⟨Ga b e,[],[],false⟩
 y:e.k=4\/e.k=5->r=⟨⟨ae b.y e,b.ss⟩,[],[],false⟩
 o:¬(1<=e.k/\e.k<=6)->r=⟨b,[],[],false⟩
 t6:e.k=6->∃(y':Cy) (Td:List (List Ms)),MtP b.y y' (ZF b.ss) Td/\r=⟨⟨y',VW b.ss b.ss.length⟩,Td.map PL,PL [QC (b.y.f3+1) y'.vw],true⟩/\zO 12 [qX b.y,zE uI (ZF b.ss)] [] (.tup [qX y',Y6 Td (QC (b.y.f3+1) y'.vw)]) (X6 Td)
def OT (n:Nat) (u:Cy) (X:List AV) (S:AV) (f:Bool) (z:ln X=n):AV.tup [Ha u (.sl false (pi n X)),S,bA f]=AV.tup [Ha u (.sl false X),S,bA f]:=by rw[zBf (zDc z)]
section
variable (b:QO) (h:Mg b)
include h
def jr:∃N:Nat,ln b.ss=N/\N<=8:=by
 have u:=h.y.v.ag;have h1:=h.l;have h2:=vT u (ln b.y.c.ags) (zBb _);have z:=u.1;exact⟨_,rfl,zB⟩
theorem T9 (e:Ev) (z:BY e.y) (u:ln e.y<=1000000) (r:pz) (D:DvP b e r) (A:r.b.y.rf=false):JT [VV b,hH e] [] (.tup [VV r.b,C9 r.S r.f,bA r.fl]) []:=Sm
theorem Fa (u:List Ss):VW u (ln u)=u.map λs=>(aE s).1:=by
 unfold VW;apply zCf;intro j;rw[vY,zBe];by_cases hj:j<ln u
 .rw[zA5 hj,zA5 hj,zB2 hj];simp only[zC0,zBj,zB2 hj,zDr]
 .rw[Os hj,zCh zB];rfl
def zA4 (B:b.y.f3<1000000000):∃(A:Cy) (z:List (List Ms)),MtP b.y A (ZF b.ss) z/\zO 12 [qX b.y,zE uI (ZF b.ss)] [] (.tup [qX A,Y6 z (QC (b.y.f3+1) A.vw)]) (X6 z):=by
 have u:(ZF b.ss).length=ln b.ss:=by unfold ZF;rw[zA6]
 exact Qj b.y h.y B (ZF b.ss) (by rw[u];exact h.l) (λi hi=>by
  unfold ZF at hi;obtain⟨s,C,rfl⟩:=zCl.1 hi
  exact(Sr (h.s s C)).2)
end
section
structure KT (b:QO) (e:Ev) (r:pz):Prop extends DvP b e r where
 i:Mg r.b
 c:r.b.y.c=b.y.c
 n:b.y.f3<=r.b.y.f3/\r.b.y.f3<=b.y.f3+1
 t:r.fl=true->r.S.length=b.ss.length
 f6:r.fl=true->e.k=6
 k:JT [VV b,hH e] [] (.tup [VV r.b,C9 r.S r.f,bA r.fl]) []
structure A9 (e:Ev):Prop where
 y:BY e.y
 n:e.y.length<=1000000
theorem ub.g (h:ub e):A9 e:=⟨h.y,zCa h.n xA⟩
def S9 (u:BY e.y) {s:Ss} (h:i6 s):i6 (U9 e s):=by
 unfold U9;split
 .split
  .exact h
  .exact⟨jT,zBn _⟩
 .split
  .exact⟨jT,zBn _⟩
  .exact Z6 h u
def R9 {b:QO} (h:Mg b) (A:BY e.y):Mg (Ga b e):=by
 unfold Ga;split
 .refine⟨h.y,by dsimp only;rw[zCk];exact h.l,λs u=>?_⟩;rename_i z;unfold o6 at z;rw[zBc]at z
  rcases zDm u with u|rfl
  .exact h.s s u
  .exact S9 A (h.s _ (yB b.ss _ zB))
 .exact h
theorem Q9 (b:QO) (h:Mg b) (O:b.y.f3<1000000000) (e:Ev) (A:A9 e):∃r,KT b e r:=by
 have u:∀r,DvP b e r->Mg r.b->r.b.y.c=b.y.c->(b.y.f3<=r.b.y.f3/\r.b.y.f3<=b.y.f3+1)->(r.fl=true->ln r.S=ln b.ss)->(r.fl=true->e.k=6)->∃r,KT b e r:=λr D i c n t f=>⟨r,⟨D,i,c,n,t,f,T9 b h e A.y A.n r D i.y.rf⟩⟩
 by_cases h1:e.k=1\/e.k=2\/e.k=3
 .have e1:(Ga b e).y=b.y:=by unfold Ga;split<;>rfl
  exact u ⟨Ga b e,[],[],false⟩ ⟨λ_=>rfl,λh=>zB,λh=>zB,λh=>zB⟩ (R9 h A.y) (by dsimp only;rw[e1]) (by dsimp only;rw[e1];omega) (λh=>(by cases h)) (λh=>(by cases h))
 by_cases h2:e.k=4\/e.k=5
 .have R:LX (ae b.y e):=by
   unfold ae;split
   .exact B6 h.y A.y
   .exact C6 h.y ..
  obtain⟨L,W,_⟩:=pe h.y.rf e;exact u ⟨⟨ae b.y e,b.ss⟩,[],[],false⟩ ⟨λh=>zB,λ_=>rfl,λh=>zB,λh=>zB⟩ ⟨R,by dsimp only;rw[L];exact h.l,h.s⟩ L MK (λh=>(by cases h)) (λh=>(by cases h))
 by_cases M:e.k=6
 .obtain⟨G,I,z,U⟩:=zA4 b h O;have B:(ZF b.ss).length=ln b.ss:=by unfold ZF;rw[zA6]
  refine u ⟨⟨G,VW b.ss (ln b.ss)⟩,I.map PL,PL [QC (b.y.f3+1) G.vw],true⟩ ⟨λh=>zB,λh=>zB,λh=>zB,λ_=>⟨G,I,z,rfl,U⟩⟩ ⟨z.i,?_,λs C=>?_⟩ z.c (by have:=z.n;dsimp only;omega) (λ_=>by dsimp only;rw[zA6,z.l,B]) λ_=>M
  .dsimp only;rw[z.c,Fa b h,zA6];exact h.l
  .dsimp only at C;rw[Fa b h]at C;obtain⟨V,E,rfl⟩:=zCl.1 C;exact(Sr (h.s V E)).1
 .exact u ⟨b,[],[],false⟩ ⟨λh=>zB,λh=>zB,λ_=>rfl,λh=>zB⟩ h Z MK (λh=>(by cases h)) (λh=>(by cases h))
open Classical in
noncomputable def J6 (b:QO) (e:Ev):pz:=if h:∃r,KT b e r then h.choose else⟨b,[],[],false⟩
theorem Xx {b:QO} (h:Mg b) (z:b.y.f3<1000000000) (u:A9 e):KT b e (J6 b e):=by grind [J6,Q9]
def nr {b:QO} (h:Mg b) (z:b.y.f3<1000000000) (u:ub e):KT b e (J6 b e):=Xx h z u.g
theorem KT.st {b:QO} (h:Mg b) {r:pz} (u:ub e) (D:KT b e r) (A:r.fl=false):r.b.y.f3=b.y.f3/\r.b.y.sg=b.y.sg/\r.b.y.sv=b.y.sv/\r.b.y.vw=b.y.vw/\r.b.y.ds.map Yx=b.y.ds.map Yx:=by
 have hk:=u.k;have hc:(e.k=1\/e.k=2\/e.k=3)\/(e.k=4\/e.k=5)\/e.k=6:=by omega
 rcases hc with hc|hc|hc
 .have e1:(Ga b e).y=b.y:=by unfold Ga;split<;>rfl
  rw[D.s hc]
  grind
 .rw[D.y hc];exact(pe h.y.rf e).2
 .obtain⟨_,_,_,z,_⟩:=D.t6 hc
  grind
end
def mr (b:QO) (h:Mg b):zO 99 [VV b] [] (Ha b.y (.ref 1021 0 (b.ss.map dD).length)) [(1021,.arr 4 (b.ss.map dD) false)]:=by
 obtain⟨N,hN,C⟩:=jr b h;have A:=bL b.y h.y.b;have I:=h.s;have z:=h.y.rf;obtain⟨y,B⟩:=b;dsimp only at *;rw[dY z]at A;have L:=zA dD B;unfold VV Ha;dsimp only;refine eM call99 λF hF=>?_
 refine zS A ?_;refine zQ 4 1021 4 Z Z Z ?_;refine zU (B) [1021,2,3] [2,3] [2,3,12,13] [4,14,2,3,12,13] Z (λi f4 T U=>⟨(4,.ref 1021 0 (f4.map dD).length)::(14,iA i)::T,(1021,.arr 4 (f4.map dD) true)::U⟩) (Lq ?_ ?_)
 .intro i f4 x post u hi;have O:=yG dD u hi;have E:=zW u hi;have G:(f4.map dD).length=i:=by rw[zA6,hi]
  have M:=OS x (by have:=(I x (yY u)).n;omega);have e:(f4++[x]).map dD=f4.map dD++[dD x]:=by simp
  clear u;rw[e];generalize f4.map dD=xs at *;unfold dD at*
  (have ga:=M;(repeat' (first|refine jX ?_|apply yW|apply xH|intro hc|(apply zG;first|(apply yI;refine vD tok Z Z ?_))|refine SB ?_|fail))<;>clear ga)
  rfl
 .refine kF 1021 [4] Z Z Z Z Z ?_;refine WW ?_;exact zP [1021] Z Z Z Z
def Wx (c:Cf) (h:qb c):zO 41 [wD c] [] (VV (K6 c)) []:=by
 have S:=Rs c h;have B:=cz c h;have E:=B.rf;have G:=h.ag;have hb:=vT G (ln c.ags) (zBb _);have A:=vT G;have W:=G.1;have I:(WJ c).ds.length=ln c.ags:=B.dl
 have u:∀i,i<ln c.ags->(((WJ c).ds.getD i dd).au.length:Int)=(c.ags.getD i dd).ses:=λi hi=>by
  have:=(B.di _ (yB (WJ c).ds i zB)).au
  rwa [B.dg i zB]at this
 rw[dY E]at S;obtain⟨N,hN⟩:∃N:Nat,uF c.ags (ln c.ags)=(N:Int):=⟨(uF c.ags (ln c.ags)).toNat,zB⟩
 have M:VV (K6 c)= .agg [zE wK (WJ c).c.js,zE vP (WJ c).c.ags,iA (WJ c).c.per,iA (WJ c).c.cap,iA (WJ c).c.hold,iA (WJ c).c.lock,bA false,iA (WJ c).f3,zE zM (WJ c).ds,zE vG (WJ c).sg,zE wW (WJ c).sv,zE iA (WJ c).st,zE vV (WJ c).vw,.sl false (pb N (.agg [bA false,bA false,zE yA [],bA false]))]:=by
  unfold VV Ha K6;dsimp only;rw[hN];unfold zE;rw[zEu];rfl
 rw[M];clear M E B;generalize WJ c=z at *;have L:=zA zM z.ds;refine eM call41 λF hF=>?_
 refine zS S ?_;refine zN ((z.ds.map zM).length) [2,3] [2,3] [2,3,12,13] [4,14,2,3,12,13] Z (λi T U=>⟨(4,iA (uF c.ags i))::(14,iA i)::T,U⟩) (Lq ?_ ?_)
 .intro i hi;have V:=zJ zM z.ds i zB;have O:=u i zB;have h2:=A i zB;have R:=G.at (i:=i) zB;have C:=zA bA (z.ds.getD i dd).au;rw[show uF c.ags (i+1)=uF c.ags i+(c.ags.getD i dd).ses from Z,<-O,<-C];rw[<-C]at O;clear u A;generalize uF c.ags i=s,c.ags.getD i dd=a,z.ds.getD i dd=d at *;unfold zM xD zE at V;refine WW ?_;rfl
 .rw[L,I,hN];rw[hN]at hb;clear u A
  (repeat' (first|refine uT ?_|apply yW|apply xH|intro hc|(apply zG;first|(apply fN;refine bG 1021 tok Z Z Z Z Z Z Z Z Z Z Z Z Z zB zB Z Z Z ?_;refine vU [1,2,3] [1,2,3,25] Z ?_;(conv=>whnf);(try simp only[zBr]);refine X9 25 Z Z ?_))|fail))
  refine zI [] Z Z ?_ Z
  show AV.agg [zE wK z.c.js,zE vP z.c.ags,iA z.c.per,iA z.c.cap,iA z.c.hold,iA z.c.lock,bA false,iA z.f3,zE zM z.ds,zE vG z.sg,zE wW z.sv,zE iA z.st,zE vV z.vw,.sl false (List.map ZG (pi N (pb N zSe)))]=_
  rw[zBf (by rw[zC4];exact zBb _),zEu];rfl
def Sj (b:QO) (e:Ev):List Ss:=if e.k=1\/e.k=2\/e.k=3 then(Ga b e).ss else b.ss
def Vx (b:QO) (e:Ev):(Sj b e).length=ln b.ss:=by
 unfold Sj Ga;split
 .split
  .exact zCk ..
  .rfl
 .rfl
theorem P9 (b:QO) (h:Mg b) (az:KU b.y.ds) (hn:b.y.f3<1000000000) (e:Ev) (he:A9 e) (r:pz) (D:KT b e r):zO 43 [VV b,hH e] [] (.tup [VV r.b,C9 r.S r.f,bA r.fl]) []:=by
 obtain⟨N,hN,bl⟩:=jr b h;have k1:=mr b h;have hs:=h.s;have E:=h.y;have bz:=he.y;have bu:=he.n;have O:=zA dD b.ss;have a9:=Vx b e;have ba:((Sj b e).map dD).length=ln b.ss:=by rw[zA6];exact a9
 have z:o6 b e.s=decide (0<=e.s/\e.s<(ln b.ss:Int)):=rfl
 have hd:o6 b e.s=true->(Sj b e).map dD=(b.ss.map dD).set e.s.toNat (dD (if e.k=1\/e.k=2\/e.k=3 then U9 e (b.ss.getD e.s.toNat dd)else b.ss.getD e.s.toNat dd)):=λG=>by
  have ap:=G;rw[z,zBc]at ap;have hy:=yF dD b.ss e.s ap.1 ap.2;unfold Sj Ga;split
  .show List.map dD (b.ss.set e.s.toNat _)=_
   rw[zCs]
  .exact(YL hy).symm
 have L:o6 b e.s=false->Sj b e=b.ss:=λG=>by
  unfold Sj Ga;rw[G]
  split<;>rfl
 have a2:e.k=1\/e.k=2\/e.k=3->(Ga b e).ss=Sj b e/\(Ga b e).y=b.y:=λhk=>by
  unfold Sj;rw[zA5 hk];refine⟨rfl,?_⟩;unfold Ga
  split<;>rfl
 have a3:¬(e.k=1\/e.k=2\/e.k=3)->Sj b e=b.ss:=λhk=>by
  unfold Sj;rw[Os hk]
 have R:=D.i.y.rf;have Ds:=D.s;have Dy:=D.y;have Dt:=D.t6;have Dn:=D.o;clear D;unfold VV Ha at *;unfold hH;refine eM call43 λF hF=>?_
 apply xY;apply xR
 (repeat' (first|refine WS ?_|refine SG (I2 (λhc=>?_) λhc=>?_)|refine SG λhc=>?_|(apply zG;first|refine SM ?_)|(first|apply xY|apply xJ)|fail))
 apply xR
 (have ga:=k1;(repeat' (first|refine WS ?_|refine SG (I2 (λhc=>?_) λhc=>?_)|refine SG λhc=>?_|(apply zG;first|refine SM ?_)|(first|apply xY|apply xJ)|fail))<;>clear ga)
 rw[O];generalize b0:e=e0 at *;obtain⟨u,B,C,V,I⟩:=e0;dsimp only at *;generalize bs:Sj b ⟨u,B,C,V,I⟩=ds at *;refine eQ [3,4,5,7,1021] [3,4,5,6,7,32] ⟨[(3,.ptr 3 0 0),(4,.ptr 4 0 0),(5,.ptr 5 0 0),(6,bA false),(7,.ptr 7 0 0),(32,bA (o6 b B))],[(3,.box [iA u,iA B,iA C,iA V,zE yA I]),(4,.box [.s (.slice none 0 0),.s (.slice none 0 0),iA 0,iA 0,iA 0,iA 0,bA false,iA 0,.s (.slice none 0 0),.s (.slice none 0 0),.s (.slice none 0 0),.s (.slice none 0 0),.s (.slice none 0 0),.s (.slice none 0 0)]),(5,.box [.s (.slice none 0 0),.s (.slice none 0 0)]),(7,.box [zE wK b.y.c.js,zE vP b.y.c.ags,iA b.y.c.per,iA b.y.c.cap,iA b.y.c.hold,iA b.y.c.lock,bA false,iA b.y.f3,zE zM b.y.ds,zE vG b.y.sg,zE wW b.y.sv,zE iA b.y.st,zE vV b.y.vw,.ref 1021 0 (ln b.ss)]),(1021,.arr 4 (b.ss.map dD) false)]⟩ rfl ?_ ?_
 .clear k1 hd L;by_cases h0:0<=B
  .by_cases h1:B<(ln b.ss:Int)
   .rw[z,zA9 ⟨h0,h1⟩];refine WW ?_;exact⟨rfl,rfl⟩
   .rw[z,zA7 (λh=>h1 h.2)];refine WW ?_;exact⟨rfl,rfl⟩
  .rw[z,zA7 (λh=>h0 h.1)];refine WW ?_;exact⟨rfl,rfl⟩
 refine eQ [3,4,5,7,1021] [3,4,5,6,7] ⟨[(3,.ptr 3 0 0),(4,.ptr 4 0 0),(5,.ptr 5 0 0),(6,bA false),(7,.ptr 7 0 0)],[(3,.box [iA u,iA B,iA C,iA V,zE yA I]),(4,.box [.s (.slice none 0 0),.s (.slice none 0 0),iA 0,iA 0,iA 0,iA 0,bA false,iA 0,.s (.slice none 0 0),.s (.slice none 0 0),.s (.slice none 0 0),.s (.slice none 0 0),.s (.slice none 0 0),.s (.slice none 0 0)]),(5,.box [.s (.slice none 0 0),.s (.slice none 0 0)]),(7,.box [zE wK b.y.c.js,zE vP b.y.c.ags,iA b.y.c.per,iA b.y.c.cap,iA b.y.c.hold,iA b.y.c.lock,bA false,iA b.y.f3,zE zM b.y.ds,zE vG b.y.sg,zE wW b.y.sv,zE iA b.y.st,zE vV b.y.vw,.ref 1021 0 (ln b.ss)]),(1021,.arr 4 (ds.map dD) false)]⟩ rfl ?_ ?_
 .cases G:o6 b B
  .rw[L G];refine WW ?_;exact⟨rfl,rfl⟩
  .rw[hd G];rw[z,zBc]at G;obtain⟨h0,h1⟩:=G;have hy:=yF dD b.ss B h0 h1;have hI:=hs _ (yB b.ss B.toNat zB);have a6:=hI.n;have ko:=yr (b.ss.getD B.toNat dd) zB;have kd:=xr (b.ss.getD B.toNat dd);have kr:=dx (b.ss.getD B.toNat dd) a6 I zB;clear hd L z hI k1;unfold U9;dsimp only;generalize b.ss.getD B.toNat dd=s at *;have hk:u=1\/u=2\/u=3\/(¬u=1/\¬u=2/\¬u=3):=by omega
   rcases hk with rfl|rfl|rfl|⟨n1,n2,n3⟩
   .rw[zA5 (.inl Z),zA5 Z];generalize (if s.op=true then s else⟨true,false,[],false⟩:Ss)=s1 at *;refine zS ko ?_;exact⟨rfl,rfl⟩
   .rw[zA5 (.inr (.inl Z)),Os xA,zA5 Z];refine zS kd ?_;exact⟨rfl,rfl⟩
   .rw[zA5 (.inr (.inr Z)),Os xA,Os xA];refine zS kr ?_;exact⟨rfl,rfl⟩
   .rw[Os zB];refine WW ?_;exact⟨rfl,rfl⟩
 clear hd L z k1;by_cases M:u=1\/u=2\/u=3
 .rw[Ds M];obtain⟨e1,e2⟩:=a2 M;dsimp only;rw[e1,e2]
  rcases M with rfl|rfl|rfl
  all_goals
   refine WW ?_;exact zI [] Z Z (OT _ b.y _ B9 false ba) Z
 have e4:=a3 M;subst e4;by_cases bb:1<=u/\u<=6
 case neg=>
  rw[Dn bb];have n4:¬u=4:=by omega
  have n5:¬u=5:=by omega
  have n6:¬u=6:=by omega
  refine WW ?_;exact zI [] Z Z (OT _ b.y _ B9 false O) Z
 by_cases a4:u=6
 case neg=>
  have W:u=4\/u=5:=by omega
  have bf:=Dy W;have av:=Qs b.y E C I zB;have ax:=Ij b.y E C V;rw[bf]at R⊢;dsimp only at R⊢;rw[dY E.rf]at av ax
  rcases W with rfl|rfl
  .rw[show ae b.y ⟨4,B,C,V,I⟩=WI b.y C I from Z]at R⊢;rw[dY R]at av;generalize WI b.y C I=A at *;refine zS av ?_;exact zI [] Z Z (OT _ A _ B9 false O) Z
  .rw[show ae b.y ⟨5,B,C,V,I⟩=UA b.y C V from Z]at R⊢;rw[dY R]at ax;generalize UA b.y C V=A at *;refine zS ax ?_;exact zI [] Z Z (OT _ A _ B9 false O) Z
 obtain⟨A,Td,hM,G,_⟩:=Dt a4;subst a4;subst G;dsimp only at R⊢;obtain⟨hT,a5,a1⟩:=hM.tk;have bd:(ZF b.ss).length=ln b.ss:=by unfold ZF;rw[zA6]
 have kt:=Wr b.y E az hn (ZF b.ss) (by have:=h.l;omega) (gK b.y (ZF b.ss)) hT (λi=>(eO ..).1) (λi=>(eO ..).2);rw[<-a5,<-a1]at kt;rw[dY E.rf,dY R,show∀f,f7 Td f= .agg [.sl false (Td.map kW),zE zX [f]]from λ_=>rfl]at kt;have ac:=hM.v;have a7:=hM.l;rw[bd]at a7;have kf:=HB [QC (b.y.f3+1) A.vw] zV (λm hm=>by rw[zB1.1 hm];exact hM.f);generalize QC (b.y.f3+1) A.vw=fm at *;clear hT a5 a1 hM a2 a3 Ds Dy Dt;have z:∀i∈ZF b.ss,i=i:=λ_ _=>rfl
 have ag:∀i,(((b.ss.take i).map λs=>(aE s).2).map uI).length<=ln b.ss:=λi=>by rw[zA6,zA6,zBv];omega
 have au:∀i,((VW b.ss i).map dD).length=ln b.ss:=λi=>by unfold VW;rw[zA6,wP]
 have ar:VW b.ss 0=b.ss:=qQ _ _;clear z;refine WW ?_;refine zQ 9 1022 2 Z Z Z ?_;refine zN (ln b.ss) [1021,1022,4,5,7] [4,5,7] [4,5,7,86,87] [9,88,4,5,7,86,87] Z (λi T U=>⟨(9,.ref 1022 0 (((b.ss.take i).map λs=>(aE s).2).map uI).length)::(88,iA i)::T,(1021,.arr 4 ((VW b.ss i).map dD) false)::(1022,.arr 2 (((b.ss.take i).map λs=>(aE s).2).map uI) true)::U⟩) ?_;(conv=>whnf);refine⟨by(rw[ar];rfl),?_,?_⟩
 .intro i hi;have b3:((VW b.ss i).map dD)[i]? =some (dD (b.ss.getD i dd)):=by rw[zBe];unfold VW;rw[vY,zA5 hi,Os (zD3 i)];rfl
  have e1:(VW b.ss (i+1)).map dD=((VW b.ss i).map dD).set i (dD (aE (b.ss.getD i dd)).1):=by unfold VW;rw[vO _ _ _ _ hi]
  have e2:((b.ss.take (i+1)).map λs=>(aE s).2).map uI=((b.ss.take i).map λs=>(aE s).2).map uI++[uI (aE (b.ss.getD i dd)).2]:=by
   rw[zDz hi,zBd,zBd,zBj,zB2 hi];rfl
  have hI:=hs _ (yB b.ss i hi);have kk:=vr (b.ss.getD i dd) hI.y (by have:=hI.n;omega);have h1:=au i;have h2:=ag i;rw[e1,e2];clear e1 e2 ag ar hI hs ac kt kf au;generalize (VW b.ss i).map dD=X,((b.ss.take i).map λs=>(aE s).2).map uI=Y,(aE (b.ss.getD i dd)).1=s1,(aE (b.ss.getD i dd)).2=n1 at *;generalize b.ss.getD i dd=s0 at *;unfold uI at kk⊢
  (have ga:=kk;(repeat' (first|refine jX ?_|apply yW|apply xH|intro hc|(apply zG;first|(apply yI;refine vD tok Z Z ?_))|refine SB ?_|fail))<;>clear ga)
  rfl
 .have a8:((b.ss.take (ln b.ss)).map λs=>(aE s).2)=ZF b.ss:=by rw[zA8];rfl
  have br:=zA kW Td;rw[a8];refine wB [3,4,5,7,1021] [3,4,5,6,7,9,86,87,88] Z ?_
  (conv=>whnf)
  simp only[zBr,zA8];clear ag ar;refine yJ (xW kt kf) ?_;refine zQ 17 1023 1 Z Z Z ?_;refine zU (Td) [1023,4,5,7,16,1021] [4,5,7,16,1021] [4,5,7,16,122,123] [17,124,4,5,7,16,122,123] Z (λi f4 T U=>⟨(17,.ref 1023 0 ((f4.map PL).map (zE yA)).length)::(124,iA i)::T,(1023,.arr 1 ((f4.map PL).map (zE yA)) true)::U⟩) (Lq ?_ ?_)
  .intro i f4 x post hx hi;have bk:=yG kW hx hi;have b1:=zW hx hi;obtain⟨v1,v2⟩:=ac x (yY hx);have kg:=HB x v1 v2;have b2:((f4.map PL).map (zE yA)).length=i:=by rw[zA6,zA6,hi]
   rw[show((f4++[x]).map PL).map (zE yA)=(f4.map PL).map (zE yA)++[zE yA (PL x)] by simp];unfold kW at bk;clear hx ac kt kf v2;generalize (f4.map PL).map (zE yA)=Y,PL x=bx at *
   (have ga:=kg;(repeat' (first|refine jX ?_|apply yW|apply xH|intro hc|(apply zG;first|(apply yI;refine vD tok Z Z ?_))|refine SB ?_|fail))<;>clear ga)
   rfl
  ·(refine WW ?_)
   refine zI [] Z Z ?_ Z
   show AV.tup [AV.agg [zE wK A.c.js,zE vP A.c.ags,iA A.c.per,iA A.c.cap,iA A.c.hold,iA A.c.lock,bA false,iA A.f3,zE zM A.ds,zE vG A.sg,zE wW A.sv,zE iA A.st,zE vV A.vw,.sl false (pi (ln b.ss) ((VW b.ss (ln b.ss)).map dD))],AV.agg [.sl false (pi ((Td.map PL).map (zE yA)).length ((Td.map PL).map (zE yA))),_],bA true]=_
   rw[zA8,zBf (zDc (au _))];rfl
