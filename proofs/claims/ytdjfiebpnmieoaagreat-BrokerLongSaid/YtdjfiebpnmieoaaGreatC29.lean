/- Part 29. -/
import Derived.Test.YtdjfiebpnmieoaaGreatC28
namespace Go.Proofs.YtdjfiebpnmieoaaGreat.Av
open Tryz
set_option linter.all false
set_option maxRecDepth 4000
set_option maxHeartbeats 8000000
open List renaming length->ln,replicate->nm,range->ny,take->oj
open Inhabited renaming default->dd
variable {b:List Int}
def Eb {p:It×Nat} (h:Ab b=some p) (hc:p.1.code=0):p=(⟨0,b.getD 3 0,(b.drop 6).take (SZ b)⟩,SZ b+10)/\SZ b+10<=ln b:=by grind [Ab,SZ]
def Hw {q:It×Nat} (h:Ab b=some q) (hc:q.1.code=0):b.getD 0 0=90/\b.getD 1 0=165/\SZ b<=200/\bE ((b.drop 2).take (SZ b+4))=PK ((b.drop (SZ b+6)).take 4)/\b.getD 2 0=1/\1<=b.getD 3 0/\b.getD 3 0<=22:=by
 have A:=Eb h hc;unfold Ab at h;by_cases u:ln b=0
 .grind
 rw[Of u]at h;by_cases z:b.getD 0 0≠90\/(1<ln b/\b.getD 1 0≠165)
 all_goals grind
def W9 {a b c d:Int} (u:0<=a/\a<256) (hb:0<=b/\b<256) (hc:0<=c/\c<256) (hd:0<=d/\d<256):PK [a,b,c,d]=((a*256+b)*256+c)*256+d:=by
 unfold PK;simp only[List.foldl_cons,List.foldl_nil];rw[RF (n:=0) (x:=a) ⟨zB,zB⟩ u,RF (n:=0*256+a) (x:=b) ⟨zB,zB⟩ hb,RF (n:=(0*256+a)*256+b) (x:=c) ⟨zB,zB⟩ hc,RF (n:=((0*256+a)*256+b)*256+c) (x:=d) ⟨zB,zB⟩ hd];omega
def M4 (a c k:Nat) (hc:c<2 ^ k) (h:a*2 ^ k+c<4294967296):nl ((a*2 ^ k:Nat):Int) (c:Int)=((a*2 ^ k+c:Nat):Int):=by
 have u:=zD1 hc a;rw[zFs]at u;rw[gf (a*2 ^ k) c zB zB,<-u]
def D9 {a b c d:Int} (u:0<=a/\a<256) (hb:0<=b/\b<256) (hc:0<=c/\c<256) (hd:0<=d/\d<256):nl (nl (nl (IntKind.u32.wrap (a*2 ^ (min (24:Int).toNat IntKind.u32.bits))) (IntKind.u32.wrap (b*2 ^ (min (16:Int).toNat IntKind.u32.bits)))) (IntKind.u32.wrap (c*2 ^ (min (8:Int).toNat IntKind.u32.bits)))) d=PK [a,b,c,d]:=by
 have w:∀(x y:Int) (k:Nat),0<=x/\x<256->(2:Int) ^ k=y->0<=x*y/\x*y<4294967296->IntKind.u32.wrap (x*2 ^ k)=x*y:=λx y k _ h1 h2=>by rw[h1];exact u32_in h2
 rw[W9 u hb hc hd,w a 16777216 _ u yX zB,w b 65536 _ hb yX zB,w c 256 _ hc yX zB];obtain⟨a,rfl⟩:=zB4 u.1;obtain⟨b,rfl⟩:=zB4 hb.1;obtain⟨c,rfl⟩:=zB4 hc.1;obtain⟨d,rfl⟩:=zB4 hd.1;have s:∀(x y z:Int) (m n k:Nat),x=((m*2 ^ k:Nat):Int)->y=(n:Int)->n<2 ^ k->m*2 ^ k+n<4294967296->z=((m*2 ^ k+n:Nat):Int)->nl x y=z:=λx y z m n k e1 A h1 h2 e3=>by rw[e1,A,e3];exact M4 m n k h1 h2
 rw[s ((a:Int)*16777216) ((b:Int)*65536) ((a:Int)*16777216+b*65536) a (b*65536) 24 zB zB zB zB zB,
  s ((a:Int)*16777216+b*65536) ((c:Int)*256) ((a:Int)*16777216+b*65536+c*256) (a*256+b) (c*256) 16 zB zB zB zB zB,
  s ((a:Int)*16777216+b*65536+c*256) (d:Int) ((a:Int)*16777216+b*65536+c*256+d) ((a*256+b)*256+c) d 8 zB zB zB zB zB]
 omega
def Ky (l:List Int) (i:Nat) (h:i+4<=ln l):(l.drop i).take 4=[l.getD i 0,l.getD (i+1) 0,l.getD (i+2) 0,l.getD (i+3) 0]:=by apply zBb<;>grind [List.getElem?_eq_getElem]
theorem ur (b:List Int) (hb:BY b) (hl:ln b<=1000000) {q:It×Nat} (E:Ab b=some q) (hc:q.1.code=0):zO 195 [zD yA b] [] (.tup [wK q.1,iA q.2,bA true]) []:=by
 have O:=zA yA b;obtain⟨V,W,iN,G,Y,i3,i4⟩:=Hw E hc;obtain⟨L,hn⟩:=Eb E hc;rw[L];clear L E hc;obtain⟨y0,_⟩:=OO b hb 0 zB;obtain⟨y1,_⟩:=OO b hb 1 zB;obtain⟨y2,_⟩:=OO b hb 2 zB;obtain⟨y3,z3⟩:=OO b hb 3 zB;obtain⟨y4,z4⟩:=OO b hb 4 zB;obtain⟨y5,z5⟩:=OO b hb 5 zB;obtain⟨y6,z6⟩:=OO b hb (SZ b+6) zB;obtain⟨y7,z7⟩:=OO b hb (SZ b+7) zB;obtain⟨y8,z8⟩:=OO b hb (SZ b+8) zB;obtain⟨y9,z9⟩:=OO b hb (SZ b+9) zB;rw[V]at y0;rw[W]at y1;rw[Y]at y2;have A:=b8 z4 z5;have C:b.getD 4 0*256+b.getD 5 0=(SZ b:Int):=by unfold SZ;omega
 rw[C]at A;rw[Ky b (SZ b+6) zB]at G;have hs:=D9 z6 z7 z8 z9;have U:=ml ((b.drop 2).take (SZ b+4));have I:∀i k,BY ((b.drop i).take k):=λi k x hx=>hb x (zBj (zB5 hx))
 generalize b.getD 4 0=x4,b.getD 5 0=x5 at *;generalize hN:SZ b=N at *;have B:=Pc ((b.drop 2).take (N+4)) Wg (I _ _);rw[G]at B
 have e1:((b.map yA).drop (2:Int).toNat).take (((N:Int)+6).toNat-(2:Int).toNat)=((b.drop 2).take (N+4)).map yA:=by
  rw[zDg,zC4,show((N:Int)+6).toNat-(2:Int).toNat=N+4 by omega];rfl
 have e3:((b.map yA).drop (6:Int).toNat).take (((N:Int)+6).toNat-(6:Int).toNat)=((b.drop 6).take N).map yA:=by
  rw[zDg,zC4,show((N:Int)+6).toNat-(6:Int).toNat=N by omega];rfl
 have S:(((b.drop 6).take N).map yA).length=N:=by rw[zAa,zAw,zA8];omega
 have R:∀y,(((b.drop 6).take N).map yA)[0]? =some y->ln y.cells=1:=zZ _ _ (λ_=>rfl);clear G;generalize (b.drop 2).take (N+4)=B1,(b.drop 6).take N=M at *;clear I U;generalize b.getD 3 0=x3,b.getD (N+6) 0=x6,b.getD (N+7) 0=x7,b.getD (N+8) 0=x8,b.getD (N+9) 0=x9 at *;refine eM call195 λF hF=>?_
 (repeat' (first|(apply zG;first|((apply xZ;first|refine yE (gF Z Z) Z ?_|refine yE (RM Z Z) Z ?_);(try rw[A]);(try rw[hs]))|refine wX tok Z Z ?_|(apply xO;(first|(refine vG 233 ?_;first|refine yE (zL (B) Z Z Z Z Z) Z ?_|refine qB (zL (B) Z Z Z Z Z) Z Z Z ?_|refine ZR (zL (B) Z Z Z Z Z) Z Z Z ?_)))|(apply bT;first|refine xe Z Z ?_|refine JD Z Z Z Z ?_|(refine gY Z Z (λhc=>?_) λhc=>?_<;>(try simp only[uE,zAe,zAk,zBl,zB9,zC2,zCq,zAy,zBd,zDy,zDx,zCs]at hc)))|(apply xZ;first|refine yE (dE Z Z Z (by unfold XW;omega)) Z ?_|refine yE (dF Z Z Z (by unfold XW;omega)) Z ?_|refine yE (ZZ Z Z Z) Z ?_|refine yE (dS Z Z ⟨zB,zB⟩) Z ?_|refine yE (YI Z Z ⟨zB,zB⟩) Z ?_|refine yE (dT Z Z ⟨zB,zB⟩) Z ?_|refine yE (YJ Z Z aO zB) Z ?_|refine yE (YL Z Z zB) Z ?_|refine yE (YM Z Z) Z ?_|refine yE (bN Z Z zB) Z ?_|refine yE (bO Z Z zB) Z ?_|refine yE (vT (.inl ⟨rfl,rfl⟩) Z Z zB) Z ?_|refine yE (vT (.inr ⟨rfl,rfl⟩) Z Z zB) Z ?_|refine yE (uV tok Z Z Z Z (.inl ⟨rfl,rfl⟩)) Z ?_|refine yE (uV tok Z Z Z Z (.inr ⟨rfl,rfl⟩)) Z ?_|refine yE (fJ tok (.inl ⟨rfl,rfl⟩) Z Z Z) Z ?_|refine yE (yU tok (.inl ⟨rfl,rfl⟩) Z Z Z Z) Z ?_|refine yE (bL Z Z) Z ?_|refine yE (gF Z Z) Z ?_|refine yE (bM Z Z) Z ?_|refine yE (fG Z Z aO) Z ?_|refine yE (fO Z Z) Z ?_|refine yE (fH Z Z aO) Z ?_|refine yE (fP Z Z) Z ?_)|(apply SD;first|refine yE (uJ tok Z Z Z Z Z zB vF Z Z) Z ?_|refine yE (uF tok Z Z Z Z Z Z zB zB Z) Z ?_|refine yE (vS tok Z Z Z Z Z Z zB zB) Z ?_)|(apply YH;first|refine yE (jA tok Z Z Z vF Z) Z ?_|refine yE (kZ tok Z Z Z vF Z) Z ?_|refine yE (kH tok Z Z Z Z vF Z) Z ?_|refine yE (kG tok Z Z Z Z vF Z) Z ?_)|(apply SE;first|refine yE (vR tok Z Z Z Z Z Z Z Z) Z ?_|refine yE (uI tok Z vF Z Z Z Z Z Z) Z ?_)|(apply yG;first|refine xW tok Z Z Z Z Z Z Z (by first|(intro y u;cases u;rfl)|exact zZ _ _ (λ_=>rfl)) Z Z Z (by first|omega|(simp;done)|(simp;omega)) Z ?_|refine jX tok Z Z Z Z Z Z Z Z Z Z Z (by first|(intro y u;cases u;rfl)|exact zZ _ _ (λ_=>rfl)) (by first|omega|(simp;done)|(simp;omega)) Z ?_)|(apply XX;first|refine yE (YN Z ⟨zB,zB⟩) Z ?_)|(apply YA;first|refine yE (jY tok Z Z Z Z ⟨zB,zB⟩) Z ?_|refine yE (cD tok Z Z Z Z) Z ?_|refine yE (hG tok Z Z Z Z Z Z Z vF) Z ?_)|(apply jN;first|refine aN tok Z Z Z Z Z (by first|(intro y u;cases u;rfl)|exact zZ _ _ (λ_=>rfl)|assumption|(simp;done)) zB uH JE Z ?_|refine TW tok Z Z Z Z Z (by first|(intro y u;cases u;rfl)|exact zZ _ _ (λ_=>rfl)|assumption|(simp;done)) zB uH JF Z ?_|refine YD tok Z Z Z Z Z Z (by first|(intro y u;cases u;rfl)|exact zZ _ _ (λ_=>rfl)|assumption|(simp;done)) zB zB (by first|omega|(simp;omega)) JG Z ?_)|refine SL ?_|(apply aM;refine yE (wM Z Z Z) Z ?_)|refine gD tok Z Z Z Z ?_|(apply gA;first|refine SI tok Z Z Z Z Z Z ?_|refine jR tok Z Z Z ?_|refine XY tok Z Z Z vF Z Z Z Z Z Z ?_|refine YB tok Z Z Z vF Z Z Z Z Z Z Z Z ?_)|apply uT|refine dH UH ?_)|first|refine SR ?_|refine SK (I2 (λhc=>?_) λhc=>?_)|refine SK λhc=>?_|fail))
 exact zH [] Z Z (zAv (λz=>AV.tup [.agg [iA 0,iA x3,zD yA M],iA z,bA true]) (show(N:Int)+10=((N+10:Nat):Int) by omega)) Z
theorem qr (b:List Int) (hb:BY b) (hl:ln b<=1000000):zO 195 [zD yA b] [] (Lh (Ab b)) []:=by
 by_cases A:∃q,Ab b=some q/\q.1.code=0
 .obtain⟨q,Y,hc⟩:=A;rw[Y];exact ur b hb hl Y hc
 have ac:=zA yA b;unfold Ab at A⊢;by_cases R:ln b=0
 .rw[Os R];refine eM call195 λF hF=>?_
  exact lc
 rw[Of R]at A⊢;obtain⟨M,z0⟩:=OO b hb 0 zB;by_cases h1:b.getD 0 0=90
 case neg=>
  rw[Os (.inl h1)];generalize b.getD 0 0=x0 at *;refine eM call195 λF hF=>?_
  exact lc
 by_cases h2:1<ln b
 case neg=>
  rw[Of (λh=>h.elim (λh=>h h1) (λh=>h2 h.1)),Os zB];rw[h1]at M;refine eM call195 λF hF=>?_
  exact lc
 obtain⟨y1,z1⟩:=OO b hb 1 h2;by_cases G:b.getD 1 0=165
 case neg=>
  rw[Os (.inr ⟨h2,G⟩)];rw[h1]at M;generalize b.getD 1 0=x1 at *;refine eM call195 λF hF=>?_
  exact lc
 rw[Of (λh=>h.elim (λh=>h h1) (λh=>h.2 G))]at A⊢;rw[h1]at M;rw[G]at y1;clear z0 z1 h1 G;by_cases S:ln b<6
 .rw[Os S];refine eM call195 λF hF=>?_
  exact lc
 rw[Of S]at A⊢;obtain⟨y4,z4⟩:=OO b hb 4 zB;obtain⟨y5,z5⟩:=OO b hb 5 zB;have B:=b8 z4 z5;have L:b.getD 4 0*256+b.getD 5 0=(SZ b:Int):=by unfold SZ;omega
 rw[L]at B;generalize b.getD 4 0=x4,b.getD 5 0=x5 at *;generalize hN:SZ b=N at *;by_cases U:200<N
 .rw[Os U];refine eM call195 λF hF=>?_
  (repeat' (first|(apply zG;first|((apply xZ;refine yE (gF Z Z) Z ?_);rw[B])|refine wX tok Z Z ?_|(apply xO;fail)|(apply bT;first|refine xe Z Z ?_|refine JD Z Z Z Z ?_|(refine gY Z Z (λhc=>?_) λhc=>?_<;>(try simp only[uE,zAe,zAk,zBl,zB9,zC2,zCq,zAy,zBd,zDy,zDx,zCs]at hc)))|(apply xZ;first|refine yE (dE Z Z Z (by unfold XW;omega)) Z ?_|refine yE (dF Z Z Z (by unfold XW;omega)) Z ?_|refine yE (ZZ Z Z Z) Z ?_|refine yE (dS Z Z ⟨zB,zB⟩) Z ?_|refine yE (YI Z Z ⟨zB,zB⟩) Z ?_|refine yE (dT Z Z ⟨zB,zB⟩) Z ?_|refine yE (YJ Z Z aO zB) Z ?_|refine yE (YL Z Z zB) Z ?_|refine yE (YM Z Z) Z ?_|refine yE (bN Z Z zB) Z ?_|refine yE (bO Z Z zB) Z ?_|refine yE (vT (.inl ⟨rfl,rfl⟩) Z Z zB) Z ?_|refine yE (vT (.inr ⟨rfl,rfl⟩) Z Z zB) Z ?_|refine yE (uV tok Z Z Z Z (.inl ⟨rfl,rfl⟩)) Z ?_|refine yE (uV tok Z Z Z Z (.inr ⟨rfl,rfl⟩)) Z ?_|refine yE (fJ tok (.inl ⟨rfl,rfl⟩) Z Z Z) Z ?_|refine yE (yU tok (.inl ⟨rfl,rfl⟩) Z Z Z Z) Z ?_|refine yE (bL Z Z) Z ?_|refine yE (gF Z Z) Z ?_|refine yE (bM Z Z) Z ?_|refine yE (fG Z Z aO) Z ?_|refine yE (fO Z Z) Z ?_|refine yE (fH Z Z aO) Z ?_|refine yE (fP Z Z) Z ?_)|(apply SD;first|refine yE (uJ tok Z Z Z Z Z zB vF Z Z) Z ?_|refine yE (uF tok Z Z Z Z Z Z zB zB Z) Z ?_|refine yE (vS tok Z Z Z Z Z Z zB zB) Z ?_)|(apply YH;first|refine yE (jA tok Z Z Z vF Z) Z ?_|refine yE (kZ tok Z Z Z vF Z) Z ?_|refine yE (kH tok Z Z Z Z vF Z) Z ?_|refine yE (kG tok Z Z Z Z vF Z) Z ?_)|(apply SE;first|refine yE (vR tok Z Z Z Z Z Z Z Z) Z ?_|refine yE (uI tok Z vF Z Z Z Z Z Z) Z ?_)|(apply yG;first|refine xW tok Z Z Z Z Z Z Z (by first|(intro y u;cases u;rfl)|exact zZ _ _ (λ_=>rfl)) Z Z Z (by first|omega|(simp;done)|(simp;omega)) Z ?_|refine jX tok Z Z Z Z Z Z Z Z Z Z Z (by first|(intro y u;cases u;rfl)|exact zZ _ _ (λ_=>rfl)) (by first|omega|(simp;done)|(simp;omega)) Z ?_)|(apply XX;first|refine yE (YN Z ⟨zB,zB⟩) Z ?_)|(apply YA;first|refine yE (jY tok Z Z Z Z ⟨zB,zB⟩) Z ?_|refine yE (cD tok Z Z Z Z) Z ?_|refine yE (hG tok Z Z Z Z Z Z Z vF) Z ?_)|(apply jN;first|refine aN tok Z Z Z Z Z (by first|(intro y u;cases u;rfl)|exact zZ _ _ (λ_=>rfl)|assumption|(simp;done)) zB uH JE Z ?_|refine TW tok Z Z Z Z Z (by first|(intro y u;cases u;rfl)|exact zZ _ _ (λ_=>rfl)|assumption|(simp;done)) zB uH JF Z ?_|refine YD tok Z Z Z Z Z Z (by first|(intro y u;cases u;rfl)|exact zZ _ _ (λ_=>rfl)|assumption|(simp;done)) zB zB (by first|omega|(simp;omega)) JG Z ?_)|refine SM ?_|(apply aM;refine yE (wM Z Z Z) Z ?_)|refine gD tok Z Z Z Z ?_|(apply gA;first|refine SI tok Z Z Z Z Z Z ?_|refine jR tok Z Z Z ?_|refine XY tok Z Z Z vF Z Z Z Z Z Z ?_|refine YB tok Z Z Z vF Z Z Z Z Z Z Z Z ?_)|apply uT|refine dH UH ?_)|first|refine SR ?_|refine SK (I2 (λhc=>?_) λhc=>?_)|refine SK λhc=>?_|fail))
  exact zI
 rw[Of U]at A⊢;by_cases V:ln b<N+10
 .rw[Os V];refine eM call195 λF hF=>?_
  (repeat' (first|(apply zG;first|((apply xZ;refine yE (gF Z Z) Z ?_);rw[B])|refine wX tok Z Z ?_|(apply xO;fail)|(apply bT;first|refine xe Z Z ?_|refine JD Z Z Z Z ?_|(refine gY Z Z (λhc=>?_) λhc=>?_<;>(try simp only[uE,zAe,zAk,zBl,zB9,zC2,zCq,zAy,zBd,zDy,zDx,zCs]at hc)))|(apply xZ;first|refine yE (dE Z Z Z (by unfold XW;omega)) Z ?_|refine yE (dF Z Z Z (by unfold XW;omega)) Z ?_|refine yE (ZZ Z Z Z) Z ?_|refine yE (dS Z Z ⟨zB,zB⟩) Z ?_|refine yE (YI Z Z ⟨zB,zB⟩) Z ?_|refine yE (dT Z Z ⟨zB,zB⟩) Z ?_|refine yE (YJ Z Z aO zB) Z ?_|refine yE (YL Z Z zB) Z ?_|refine yE (YM Z Z) Z ?_|refine yE (bN Z Z zB) Z ?_|refine yE (bO Z Z zB) Z ?_|refine yE (vT (.inl ⟨rfl,rfl⟩) Z Z zB) Z ?_|refine yE (vT (.inr ⟨rfl,rfl⟩) Z Z zB) Z ?_|refine yE (uV tok Z Z Z Z (.inl ⟨rfl,rfl⟩)) Z ?_|refine yE (uV tok Z Z Z Z (.inr ⟨rfl,rfl⟩)) Z ?_|refine yE (fJ tok (.inl ⟨rfl,rfl⟩) Z Z Z) Z ?_|refine yE (yU tok (.inl ⟨rfl,rfl⟩) Z Z Z Z) Z ?_|refine yE (bL Z Z) Z ?_|refine yE (gF Z Z) Z ?_|refine yE (bM Z Z) Z ?_|refine yE (fG Z Z aO) Z ?_|refine yE (fO Z Z) Z ?_|refine yE (fH Z Z aO) Z ?_|refine yE (fP Z Z) Z ?_)|(apply SD;first|refine yE (uJ tok Z Z Z Z Z zB vF Z Z) Z ?_|refine yE (uF tok Z Z Z Z Z Z zB zB Z) Z ?_|refine yE (vS tok Z Z Z Z Z Z zB zB) Z ?_)|(apply YH;first|refine yE (jA tok Z Z Z vF Z) Z ?_|refine yE (kZ tok Z Z Z vF Z) Z ?_|refine yE (kH tok Z Z Z Z vF Z) Z ?_|refine yE (kG tok Z Z Z Z vF Z) Z ?_)|(apply SE;first|refine yE (vR tok Z Z Z Z Z Z Z Z) Z ?_|refine yE (uI tok Z vF Z Z Z Z Z Z) Z ?_)|(apply yG;first|refine xW tok Z Z Z Z Z Z Z (by first|(intro y u;cases u;rfl)|exact zZ _ _ (λ_=>rfl)) Z Z Z (by first|omega|(simp;done)|(simp;omega)) Z ?_|refine jX tok Z Z Z Z Z Z Z Z Z Z Z (by first|(intro y u;cases u;rfl)|exact zZ _ _ (λ_=>rfl)) (by first|omega|(simp;done)|(simp;omega)) Z ?_)|(apply XX;first|refine yE (YN Z ⟨zB,zB⟩) Z ?_)|(apply YA;first|refine yE (jY tok Z Z Z Z ⟨zB,zB⟩) Z ?_|refine yE (cD tok Z Z Z Z) Z ?_|refine yE (hG tok Z Z Z Z Z Z Z vF) Z ?_)|(apply jN;first|refine aN tok Z Z Z Z Z (by first|(intro y u;cases u;rfl)|exact zZ _ _ (λ_=>rfl)|assumption|(simp;done)) zB uH JE Z ?_|refine TW tok Z Z Z Z Z (by first|(intro y u;cases u;rfl)|exact zZ _ _ (λ_=>rfl)|assumption|(simp;done)) zB uH JF Z ?_|refine YD tok Z Z Z Z Z Z (by first|(intro y u;cases u;rfl)|exact zZ _ _ (λ_=>rfl)|assumption|(simp;done)) zB zB (by first|omega|(simp;omega)) JG Z ?_)|refine SM ?_|(apply aM;refine yE (wM Z Z Z) Z ?_)|refine gD tok Z Z Z Z ?_|(apply gA;first|refine SI tok Z Z Z Z Z Z ?_|refine jR tok Z Z Z ?_|refine XY tok Z Z Z vF Z Z Z Z Z Z ?_|refine YB tok Z Z Z vF Z Z Z Z Z Z Z Z ?_)|apply uT|refine dH UH ?_)|first|refine SR ?_|refine SK (I2 (λhc=>?_) λhc=>?_)|refine SK λhc=>?_|fail))
  exact zI
 rw[Of V]at A⊢;have O:∀i k,BY ((b.drop i).take k):=λi k x hx=>hb x (zBj (zB5 hx))
 have E:=Pc ((b.drop 2).take (N+4)) Wg (O _ _)
 have e1:((b.map yA).drop (2:Int).toNat).take (((N:Int)+6).toNat-(2:Int).toNat)=((b.drop 2).take (N+4)).map yA:=by
  rw[zDg,zC4,show((N:Int)+6).toNat-(2:Int).toNat=N+4 by omega];rfl
 obtain⟨y6,z6⟩:=OO b hb (N+6) zB;obtain⟨y7,z7⟩:=OO b hb (N+7) zB;obtain⟨y8,z8⟩:=OO b hb (N+8) zB;obtain⟨y9,z9⟩:=OO b hb (N+9) zB;obtain⟨y2,z2⟩:=OO b hb 2 zB;obtain⟨y3,z3⟩:=OO b hb 3 zB;have hs:=D9 z6 z7 z8 z9;rw[Ky b (N+6) zB]at A⊢;generalize (b.drop 2).take (N+4)=B1 at *;clear O;generalize b.getD 2 0=x2,b.getD 3 0=x3,b.getD (N+6) 0=x6,b.getD (N+7) 0=x7,b.getD (N+8) 0=x8,b.getD (N+9) 0=x9,bE B1=u1 at *;generalize PK [x6,x7,x8,x9]=u2 at *;by_cases I:u1=u2
 case neg=>
  rw[Os I];have I:u2≠u1:=λh=>I h.symm
  clear A;refine eM call195 λF hF=>?_
  (repeat' (first|(apply zG;first|((apply xZ;first|refine yE (gF Z Z) Z ?_|refine yE (RM Z Z) Z ?_);(try rw[B]);(try rw[hs]))|refine wX tok Z Z ?_|(apply xO;(first|(refine vG 233 ?_;first|refine yE (zL (E) Z Z Z Z Z) Z ?_|refine qB (zL (E) Z Z Z Z Z) Z Z Z ?_|refine ZR (zL (E) Z Z Z Z Z) Z Z Z ?_)))|(apply bT;first|refine xe Z Z ?_|refine JD Z Z Z Z ?_|(refine gY Z Z (λhc=>?_) λhc=>?_<;>(try simp only[uE,zAe,zAk,zBl,zB9,zC2,zCq,zAy,zBd,zDy,zDx,zCs]at hc)))|(apply xZ;first|refine yE (dE Z Z Z (by unfold XW;omega)) Z ?_|refine yE (dF Z Z Z (by unfold XW;omega)) Z ?_|refine yE (ZZ Z Z Z) Z ?_|refine yE (dS Z Z ⟨zB,zB⟩) Z ?_|refine yE (YI Z Z ⟨zB,zB⟩) Z ?_|refine yE (dT Z Z ⟨zB,zB⟩) Z ?_|refine yE (YJ Z Z aO zB) Z ?_|refine yE (YL Z Z zB) Z ?_|refine yE (YM Z Z) Z ?_|refine yE (bN Z Z zB) Z ?_|refine yE (bO Z Z zB) Z ?_|refine yE (vT (.inl ⟨rfl,rfl⟩) Z Z zB) Z ?_|refine yE (vT (.inr ⟨rfl,rfl⟩) Z Z zB) Z ?_|refine yE (uV tok Z Z Z Z (.inl ⟨rfl,rfl⟩)) Z ?_|refine yE (uV tok Z Z Z Z (.inr ⟨rfl,rfl⟩)) Z ?_|refine yE (fJ tok (.inl ⟨rfl,rfl⟩) Z Z Z) Z ?_|refine yE (yU tok (.inl ⟨rfl,rfl⟩) Z Z Z Z) Z ?_|refine yE (bL Z Z) Z ?_|refine yE (gF Z Z) Z ?_|refine yE (bM Z Z) Z ?_|refine yE (fG Z Z aO) Z ?_|refine yE (fO Z Z) Z ?_|refine yE (fH Z Z aO) Z ?_|refine yE (fP Z Z) Z ?_)|(apply SD;first|refine yE (uJ tok Z Z Z Z Z zB vF Z Z) Z ?_|refine yE (uF tok Z Z Z Z Z Z zB zB Z) Z ?_|refine yE (vS tok Z Z Z Z Z Z zB zB) Z ?_)|(apply YH;first|refine yE (jA tok Z Z Z vF Z) Z ?_|refine yE (kZ tok Z Z Z vF Z) Z ?_|refine yE (kH tok Z Z Z Z vF Z) Z ?_|refine yE (kG tok Z Z Z Z vF Z) Z ?_)|(apply SE;first|refine yE (vR tok Z Z Z Z Z Z Z Z) Z ?_|refine yE (uI tok Z vF Z Z Z Z Z Z) Z ?_)|(apply yG;first|refine xW tok Z Z Z Z Z Z Z (by first|(intro y u;cases u;rfl)|exact zZ _ _ (λ_=>rfl)) Z Z Z (by first|omega|(simp;done)|(simp;omega)) Z ?_|refine jX tok Z Z Z Z Z Z Z Z Z Z Z (by first|(intro y u;cases u;rfl)|exact zZ _ _ (λ_=>rfl)) (by first|omega|(simp;done)|(simp;omega)) Z ?_)|(apply XX;first|refine yE (YN Z ⟨zB,zB⟩) Z ?_)|(apply YA;first|refine yE (jY tok Z Z Z Z ⟨zB,zB⟩) Z ?_|refine yE (cD tok Z Z Z Z) Z ?_|refine yE (hG tok Z Z Z Z Z Z Z vF) Z ?_)|(apply jN;first|refine aN tok Z Z Z Z Z (by first|(intro y u;cases u;rfl)|exact zZ _ _ (λ_=>rfl)|assumption|(simp;done)) zB uH JE Z ?_|refine TW tok Z Z Z Z Z (by first|(intro y u;cases u;rfl)|exact zZ _ _ (λ_=>rfl)|assumption|(simp;done)) zB uH JF Z ?_|refine YD tok Z Z Z Z Z Z (by first|(intro y u;cases u;rfl)|exact zZ _ _ (λ_=>rfl)|assumption|(simp;done)) zB zB (by first|omega|(simp;omega)) JG Z ?_)|refine SM ?_|(apply aM;refine yE (wM Z Z Z) Z ?_)|refine gD tok Z Z Z Z ?_|(apply gA;first|refine SI tok Z Z Z Z Z Z ?_|refine jR tok Z Z Z ?_|refine XY tok Z Z Z vF Z Z Z Z Z Z ?_|refine YB tok Z Z Z vF Z Z Z Z Z Z Z Z ?_)|apply uT|refine dH UH ?_)|first|refine SR ?_|refine SK (I2 (λhc=>?_) λhc=>?_)|refine SK λhc=>?_|fail))
  exact zI
 subst I;rw[Of (λh=>h Z)]at A⊢;by_cases W:x2=1
 case neg=>
  rw[Os W];clear A;refine eM call195 λF hF=>?_
  (repeat' (first|(apply zG;first|((apply xZ;first|refine yE (gF Z Z) Z ?_|refine yE (RM Z Z) Z ?_);(try rw[B]);(try rw[hs]))|refine wX tok Z Z ?_|(apply xO;(first|(refine vG 233 ?_;first|refine yE (zL (E) Z Z Z Z Z) Z ?_|refine qB (zL (E) Z Z Z Z Z) Z Z Z ?_|refine ZR (zL (E) Z Z Z Z Z) Z Z Z ?_)))|(apply bT;first|refine xe Z Z ?_|refine JD Z Z Z Z ?_|(refine gY Z Z (λhc=>?_) λhc=>?_<;>(try simp only[uE,zAe,zAk,zBl,zB9,zC2,zCq,zAy,zBd,zDy,zDx,zCs]at hc)))|(apply xZ;first|refine yE (dE Z Z Z (by unfold XW;omega)) Z ?_|refine yE (dF Z Z Z (by unfold XW;omega)) Z ?_|refine yE (ZZ Z Z Z) Z ?_|refine yE (dS Z Z ⟨zB,zB⟩) Z ?_|refine yE (YI Z Z ⟨zB,zB⟩) Z ?_|refine yE (dT Z Z ⟨zB,zB⟩) Z ?_|refine yE (YJ Z Z aO zB) Z ?_|refine yE (YL Z Z zB) Z ?_|refine yE (YM Z Z) Z ?_|refine yE (bN Z Z zB) Z ?_|refine yE (bO Z Z zB) Z ?_|refine yE (vT (.inl ⟨rfl,rfl⟩) Z Z zB) Z ?_|refine yE (vT (.inr ⟨rfl,rfl⟩) Z Z zB) Z ?_|refine yE (uV tok Z Z Z Z (.inl ⟨rfl,rfl⟩)) Z ?_|refine yE (uV tok Z Z Z Z (.inr ⟨rfl,rfl⟩)) Z ?_|refine yE (fJ tok (.inl ⟨rfl,rfl⟩) Z Z Z) Z ?_|refine yE (yU tok (.inl ⟨rfl,rfl⟩) Z Z Z Z) Z ?_|refine yE (bL Z Z) Z ?_|refine yE (gF Z Z) Z ?_|refine yE (bM Z Z) Z ?_|refine yE (fG Z Z aO) Z ?_|refine yE (fO Z Z) Z ?_|refine yE (fH Z Z aO) Z ?_|refine yE (fP Z Z) Z ?_)|(apply SD;first|refine yE (uJ tok Z Z Z Z Z zB vF Z Z) Z ?_|refine yE (uF tok Z Z Z Z Z Z zB zB Z) Z ?_|refine yE (vS tok Z Z Z Z Z Z zB zB) Z ?_)|(apply YH;first|refine yE (jA tok Z Z Z vF Z) Z ?_|refine yE (kZ tok Z Z Z vF Z) Z ?_|refine yE (kH tok Z Z Z Z vF Z) Z ?_|refine yE (kG tok Z Z Z Z vF Z) Z ?_)|(apply SE;first|refine yE (vR tok Z Z Z Z Z Z Z Z) Z ?_|refine yE (uI tok Z vF Z Z Z Z Z Z) Z ?_)|(apply yG;first|refine xW tok Z Z Z Z Z Z Z (by first|(intro y u;cases u;rfl)|exact zZ _ _ (λ_=>rfl)) Z Z Z (by first|omega|(simp;done)|(simp;omega)) Z ?_|refine jX tok Z Z Z Z Z Z Z Z Z Z Z (by first|(intro y u;cases u;rfl)|exact zZ _ _ (λ_=>rfl)) (by first|omega|(simp;done)|(simp;omega)) Z ?_)|(apply XX;first|refine yE (YN Z ⟨zB,zB⟩) Z ?_)|(apply YA;first|refine yE (jY tok Z Z Z Z ⟨zB,zB⟩) Z ?_|refine yE (cD tok Z Z Z Z) Z ?_|refine yE (hG tok Z Z Z Z Z Z Z vF) Z ?_)|(apply jN;first|refine aN tok Z Z Z Z Z (by first|(intro y u;cases u;rfl)|exact zZ _ _ (λ_=>rfl)|assumption|(simp;done)) zB uH JE Z ?_|refine TW tok Z Z Z Z Z (by first|(intro y u;cases u;rfl)|exact zZ _ _ (λ_=>rfl)|assumption|(simp;done)) zB uH JF Z ?_|refine YD tok Z Z Z Z Z Z (by first|(intro y u;cases u;rfl)|exact zZ _ _ (λ_=>rfl)|assumption|(simp;done)) zB zB (by first|omega|(simp;omega)) JG Z ?_)|refine SM ?_|(apply aM;refine yE (wM Z Z Z) Z ?_)|refine gD tok Z Z Z Z ?_|(apply gA;first|refine SI tok Z Z Z Z Z Z ?_|refine jR tok Z Z Z ?_|refine XY tok Z Z Z vF Z Z Z Z Z Z ?_|refine YB tok Z Z Z vF Z Z Z Z Z Z Z Z ?_)|apply uT|refine dH UH ?_)|first|refine SR ?_|refine SK (I2 (λhc=>?_) λhc=>?_)|refine SK λhc=>?_|fail))
  exact zH [] Z Z (zAv (λz=>AV.tup [.agg [iA 3,iA 0,.sl false []],iA z,bA true]) (show(N:Int)+10=((N+10:Nat):Int) by omega)) Z
 rw[Of (λh=>h W)]at A⊢;by_cases C:x3<1\/22<x3
 .rw[Os C];clear A
  rcases C with C|C
  all_goals
   refine eM call195 λF hF=>?_
   (repeat' (first|(apply zG;first|((apply xZ;first|refine yE (gF Z Z) Z ?_|refine yE (RM Z Z) Z ?_);(try rw[B]);(try rw[hs]))|refine wX tok Z Z ?_|(apply xO;(first|(refine vG 233 ?_;first|refine yE (zL (E) Z Z Z Z Z) Z ?_|refine qB (zL (E) Z Z Z Z Z) Z Z Z ?_|refine ZR (zL (E) Z Z Z Z Z) Z Z Z ?_)))|(apply bT;first|refine xe Z Z ?_|refine JD Z Z Z Z ?_|(refine gY Z Z (λhc=>?_) λhc=>?_<;>(try simp only[uE,zAe,zAk,zBl,zB9,zC2,zCq,zAy,zBd,zDy,zDx,zCs]at hc)))|(apply xZ;first|refine yE (dE Z Z Z (by unfold XW;omega)) Z ?_|refine yE (dF Z Z Z (by unfold XW;omega)) Z ?_|refine yE (ZZ Z Z Z) Z ?_|refine yE (dS Z Z ⟨zB,zB⟩) Z ?_|refine yE (YI Z Z ⟨zB,zB⟩) Z ?_|refine yE (dT Z Z ⟨zB,zB⟩) Z ?_|refine yE (YJ Z Z aO zB) Z ?_|refine yE (YL Z Z zB) Z ?_|refine yE (YM Z Z) Z ?_|refine yE (bN Z Z zB) Z ?_|refine yE (bO Z Z zB) Z ?_|refine yE (vT (.inl ⟨rfl,rfl⟩) Z Z zB) Z ?_|refine yE (vT (.inr ⟨rfl,rfl⟩) Z Z zB) Z ?_|refine yE (uV tok Z Z Z Z (.inl ⟨rfl,rfl⟩)) Z ?_|refine yE (uV tok Z Z Z Z (.inr ⟨rfl,rfl⟩)) Z ?_|refine yE (fJ tok (.inl ⟨rfl,rfl⟩) Z Z Z) Z ?_|refine yE (yU tok (.inl ⟨rfl,rfl⟩) Z Z Z Z) Z ?_|refine yE (bL Z Z) Z ?_|refine yE (gF Z Z) Z ?_|refine yE (bM Z Z) Z ?_|refine yE (fG Z Z aO) Z ?_|refine yE (fO Z Z) Z ?_|refine yE (fH Z Z aO) Z ?_|refine yE (fP Z Z) Z ?_)|(apply SD;first|refine yE (uJ tok Z Z Z Z Z zB vF Z Z) Z ?_|refine yE (uF tok Z Z Z Z Z Z zB zB Z) Z ?_|refine yE (vS tok Z Z Z Z Z Z zB zB) Z ?_)|(apply YH;first|refine yE (jA tok Z Z Z vF Z) Z ?_|refine yE (kZ tok Z Z Z vF Z) Z ?_|refine yE (kH tok Z Z Z Z vF Z) Z ?_|refine yE (kG tok Z Z Z Z vF Z) Z ?_)|(apply SE;first|refine yE (vR tok Z Z Z Z Z Z Z Z) Z ?_|refine yE (uI tok Z vF Z Z Z Z Z Z) Z ?_)|(apply yG;first|refine xW tok Z Z Z Z Z Z Z (by first|(intro y u;cases u;rfl)|exact zZ _ _ (λ_=>rfl)) Z Z Z (by first|omega|(simp;done)|(simp;omega)) Z ?_|refine jX tok Z Z Z Z Z Z Z Z Z Z Z (by first|(intro y u;cases u;rfl)|exact zZ _ _ (λ_=>rfl)) (by first|omega|(simp;done)|(simp;omega)) Z ?_)|(apply XX;first|refine yE (YN Z ⟨zB,zB⟩) Z ?_)|(apply YA;first|refine yE (jY tok Z Z Z Z ⟨zB,zB⟩) Z ?_|refine yE (cD tok Z Z Z Z) Z ?_|refine yE (hG tok Z Z Z Z Z Z Z vF) Z ?_)|(apply jN;first|refine aN tok Z Z Z Z Z (by first|(intro y u;cases u;rfl)|exact zZ _ _ (λ_=>rfl)|assumption|(simp;done)) zB uH JE Z ?_|refine TW tok Z Z Z Z Z (by first|(intro y u;cases u;rfl)|exact zZ _ _ (λ_=>rfl)|assumption|(simp;done)) zB uH JF Z ?_|refine YD tok Z Z Z Z Z Z (by first|(intro y u;cases u;rfl)|exact zZ _ _ (λ_=>rfl)|assumption|(simp;done)) zB zB (by first|omega|(simp;omega)) JG Z ?_)|refine SM ?_|(apply aM;refine yE (wM Z Z Z) Z ?_)|refine gD tok Z Z Z Z ?_|(apply gA;first|refine SI tok Z Z Z Z Z Z ?_|refine jR tok Z Z Z ?_|refine XY tok Z Z Z vF Z Z Z Z Z Z ?_|refine YB tok Z Z Z vF Z Z Z Z Z Z Z Z ?_)|apply uT|refine dH UH ?_)|first|refine SR ?_|refine SK (I2 (λhc=>?_) λhc=>?_)|refine SK λhc=>?_|fail))
   exact zH [] Z Z (zAv (λz=>AV.tup [.agg [iA 5,iA 0,.sl false []],iA z,bA true]) (show(N:Int)+10=((N+10:Nat):Int) by omega)) Z
 .rw[Of C]at A;exact absurd ⟨_,rfl,rfl⟩ A
def L4 (b:List Int) (hl:ln b<=256) (g:Bool) (x:List Int) (hx:ln x<=1000000):zO 152 [FD b g,zD yA x] [] (.tup [FD (b++x.take (cI (ln b) (ln x))) g,bA (decide (cI (ln b) (ln x)=ln x))]) []:=by
 have z:=zA yA b;have u:=zA yA x;have C:cI (ln b) (ln x)<=ln x/\b.length+cI (ln b) (ln x)<=256:=by unfold cI;omega
 have e1:min ((ln x:Nat):Int) (256-((ln b:Nat):Int))=((cI (ln b) (ln x):Nat):Int):=by unfold cI;omega
 have B:zD yA (b++x.take (cI (ln b) (ln x)))= .sl false (b.map yA++(x.take (cI (ln b) (ln x))).map yA):=by unfold zD;rw[zAf]
 unfold FD;rw[B];generalize cI (ln b) (ln x)=f at *;refine eM call152 λF hF=>?_
 (repeat' (first|refine Xu ?_|apply yZ|apply xM|intro hc|(apply zG;first|refine SM ?_)|fail))
 rw[z,u,e1]
 (repeat' (first|refine uD ?_|apply yZ|apply xM|intro hc|(apply zG;first|(apply yG;refine wA 1001 tok Z Z Z Z Z Z (zZ _ _ (λ_=>rfl)) Z Z Z zB Z Z Z ?_))|fail))
 refine zH [] Z Z ?_ Z
 show AV.tup [AV.agg [AV.sl false (oj (b.map yA++(x.take f).map yA).length (b.map yA++(x.take f).map yA)),bA g],bA (uE .eql (f:Int) ((x.map yA).length:Int))]=_
 rw[zAb,u,show uE .eql (f:Int) (ln x:Int)=decide (f=ln x) by
  by_cases A:f=ln x
  .rw[A];simp[uE]
  .have:(f:Int)≠(ln x:Int):=by omega
   simp[uE,A,this]]
def LC (s:Ss) (h:ln s.bf<=1000):zO 151 [qA s] [] (qA s) []:=by
 have hl:=zA yA s.bf;unfold qA;refine eM call151 λF hF=>?_
 refine WL ?_;refine zH [] Z Z ?_ Z;rfl
def jr (s:Ss) (hl:ln s.bf<=1000):zO 91 [qA s] [] (qA (if s.op=true then s else⟨true,false,[],false⟩)) []:=by
 obtain⟨op,A,z,B⟩:=s;dsimp only at hl⊢;have u:=LC ⟨op,A,z,B⟩ hl;cases op
 .rw[Of zAp];unfold qA at *;refine eM call91 λF hF=>?_
  exact lk u
 .rw[Os Z];unfold qA at *;refine eM call91 λF hF=>?_
  exact lk u
def nr (s:Ss):zO 92 [qA s] [] (qA ⟨false,false,[],false⟩) []:=by
 unfold qA;refine eM call92 λF hF=>?_
 exact lc
def Gw (s:Ss) (hl:ln s.bf<=256) (x:List Int) (hx:ln x<=1000000):zO 93 [qA s,zD yA x] [] (qA (FW s x)) []:=by
 obtain⟨op,B,A,E⟩:=s;dsimp only at hl;have C:=LC ⟨op,B,A,E⟩ NM;have u:=L4 A hl E x hx;unfold FW;dsimp only;unfold FD at u;cases op
 .rw[Of zAp];unfold qA at *;refine eM call93 λF hF=>?_
  exact lk C
 .rw[Os Z];unfold qA at *;cases z:decide (cI (ln A) (ln x)=ln x)
  .rw[z]at u;rw[zAd (zEc z),zDw];cases B
   all_goals
    refine eM call93 λF hF=>?_
    exact ld (xV C u)
  .rw[z]at u;rw[zAc (λh=>h (zD0 z)),zEu];cases B
   all_goals
    refine eM call93 λF hF=>?_
    exact ld (xV C u)
def N7 (b:List Int) (N:Nat) (R s:Wc) (m:Nat):Prop:=s.t<=ln b/\b.length<=m+s.t/\((ln s.its<N/\ZQ N (gR m (b.drop s.t)) s=R)\/(ln s.its=N/\s=R))
theorem N7.next {N:Nat} {R s:Wc} {m:Nat} {p:It×Nat} (B:1<=p.2/\p.2<=ln b-s.t) (C:s.t<=ln b) (A:ln b<=m+1+s.t) (z:ln s.its<N) (u:ZQ N (p::gR m (b.drop (s.t+p.2))) s=R):N7 b N R (VD s p) m:=by
 have e:(VD s p).t=s.t+p.2:=by unfold VD;split<;>rfl
 refine⟨zB,zB,?_⟩;unfold ZQ at u;rw[e];by_cases hx:Dw N s p=true
 .rw[Os hx]at u;refine .inr ⟨?_,u⟩;unfold Dw at hx;simp only[zAn,zCx,zAe]at hx;unfold VD;rw[Of (by rw[hx.1];exact zAp)]
  show(s.its++[p.1]).length=N
  rw[zAh,zCi];omega
 .rw[Of hx]at u;refine .inl ⟨?_,u⟩;unfold Dw at hx;unfold VD;cases hc:Ar s p
  .rw[hc]at hx;rw[Of zAp];simp only[zEe,zAo,zAe]at hx
   show(s.its++[p.1]).length<N
   rw[zAh,zCi];omega
  .rw[Os Z];exact z
theorem mr (b:List Int) (hb:BY b) (hl:ln b<=1000) (g:Bool) (N:Nat) (hN:1<=N/\N<=1000):zO 153 [FD b g,iA N] []
  (.tup [FD (b.drop (ZQ N (gR (ln b) b) ⟨0,g,[]⟩).t) (ZQ N (gR (ln b) b) ⟨0,g,[]⟩).g,zD wK (ZQ N (gR (ln b) b) ⟨0,g,[]⟩).its]) []:=by
 have ac:=zA yA b;have h0:N7 b N (ZQ N (gR (ln b) b) ⟨0,g,[]⟩) ⟨0,g,[]⟩ (ln b):=⟨zAr _,zAg _,.inl ⟨by show 0<N;omega,rfl⟩⟩;generalize ZQ N (gR (ln b) b) ⟨0,g,[]⟩=R at *;unfold FD;refine eM call153 λF hF=>?_
 refine WW ?_;refine zS 6 1001 3 Z Z Z ?_;refine gE (ln b) [1001,2,4] [2,4] [1,2,4] [6,7,8,1,2,4] Z (λM T U zs=>∃(s:Wc) (m:Nat),(N7 b N R s m/\M=m)/\zs=⟨(6,.ref 1001 0 (s.its.map wK).length)::(7,iA s.t)::(8,bA s.g)::T,(1001,.arr 3 (s.its.map wK) true)::U⟩) ?_;(conv=>whnf);refine⟨?_,?_⟩
 .exact⟨⟨0,g,[]⟩,ln b,⟨h0,rfl⟩,rfl⟩
 rintro M st ⟨s,m,⟨⟨ht,hm,hI⟩,rfl⟩,rfl⟩;have ag:=zA wK s.its
 rcases hI with⟨L,G⟩|⟨L,rfl⟩
 case inr=>
  refine WL ?_;refine zH [] Z Z ?_ Z
  show AV.tup [AV.agg [.sl false ((b.drop s.t).map yA),bA s.g],.sl false (oj (s.its.map wK).length (s.its.map wK))]=_
  rw[zAb];rfl
 have A:=qr (b.drop s.t) (λx hx=>hb x (zBj hx)) OU
 cases I:Ab (b.drop s.t)with
 | none=>
  rw[I]at A
  have S:s=R:=by
   rw[<-G]
   cases M with
   |zero=>rfl
   |succ m=>unfold gR;rw[I];rfl
  subst S;unfold Lh at A;dsimp only at A;refine TQ A ?_;refine zH [] Z Z ?_ Z
  show AV.tup [AV.agg [.sl false ((b.drop s.t).map yA),bA s.g],.sl false (oj (s.its.map wK).length (s.its.map wK))]=_
  rw[zAb];rfl
 | some q=>
  rw[I]at A;obtain⟨⟨q1,q2⟩,_⟩:=FJ (λx hx=>hb x (zBj hx)) I;rw[zA8]at q2;obtain⟨m,rfl⟩:∃m,M=m+1:=⟨M-1,zB⟩;unfold gR at G;rw[I]at G;dsimp only at G;rw[List.drop_drop]at G;unfold Lh at A;dsimp only at A;have E:=N7.next ⟨q1,q2⟩ ht zB L G;obtain⟨⟨u,z,B⟩,n⟩:=q;dsimp only at *;have V:s.t+n<=1000:=by omega
  have O:(s.its++[(⟨u,z,B⟩:It)]).map wK=s.its.map wK++[wK ⟨u,z,B⟩]:=by simp
  clear G I;by_cases h2:u=2
  .cases W:s.g
   .have e:VD s (⟨u,z,B⟩,n)=⟨s.t+n,true,s.its++[⟨u,z,B⟩]⟩:=by simp[VD,Ar,W,h2]
    rw[e]at E;generalize s.its.map wK=Y at *;unfold wK at *;dsimp only at *;refine TQ A ?_;exact⟨m,zB,⟨s.t+n,true,s.its++[⟨u,z,B⟩]⟩,m,⟨E,rfl⟩,by dsimp only;rw[O];rfl⟩
   .have e:VD s (⟨u,z,B⟩,n)=⟨s.t+n,true,s.its⟩:=by simp[VD,Ar,W,h2]
    rw[e]at E;unfold wK at A;dsimp only at *;refine TQ A ?_;exact⟨m,zB,⟨s.t+n,true,s.its⟩,m,⟨E,rfl⟩,rfl⟩
  .by_cases C:u=7\/u=4
   .have e:VD s (⟨u,z,B⟩,n)=⟨s.t+n,true,s.its++[⟨u,z,B⟩]⟩:=by
     rcases C with C|C<;>simp[VD,Ar,C]
    rw[e]at E;generalize s.its.map wK=Y at *;unfold wK at *;dsimp only at*
    rcases C with C|C
    all_goals
     refine TQ A ?_;exact⟨m,zB,⟨s.t+n,true,s.its++[⟨u,z,B⟩]⟩,m,⟨E,rfl⟩,by dsimp only;rw[O];rfl⟩
   .have h7:¬u=7:=λh=>C (.inl h)
    have h4:¬u=4:=λh=>C (.inr h)
    have e:VD s (⟨u,z,B⟩,n)=⟨s.t+n,false,s.its++[⟨u,z,B⟩]⟩:=by simp[VD,Ar,h2,h7,h4]
    rw[e]at E;generalize s.its.map wK=Y at *;unfold wK at *;dsimp only at *;refine TQ A ?_;exact⟨m,zB,⟨s.t+n,false,s.its++[⟨u,z,B⟩]⟩,m,⟨E,rfl⟩,by dsimp only;rw[O];rfl⟩
def lr (s:Ss) (hb:BY s.bf) (hl:ln s.bf<=1000):zO 94 [qA s] [] (.tup [qA (eV s).1,qL (eV s).2]) []:=by
 obtain⟨op,B,u,z⟩:=s;dsimp only at hb hl;have G:=LC ⟨op,B,u,z⟩ hl;have A:=mr u hb hl z 4 zB;have C:=LD (N:=4) (gR (ln u) u) ⟨0,z,[]⟩ (by show 0<4;omega);unfold eV;dsimp only;generalize ZQ 4 (gR (ln u) u) ⟨0,z,[]⟩=r at *;have E:=zA wK r.its;unfold FD at A;cases op
 .rw[Of zAp];unfold qA at *;unfold qL;refine eM call94 λF hF=>?_
  exact lk G
 .rw[Os Z];unfold qA at *;unfold qL;cases B
  .rw[Of zAp,zCv];refine eM call94 λF hF=>?_
   refine zQ A ?_;refine LK 27 1055 3 Z Z Z ?_;refine WW ?_;refine zH [] Z Z ?_ Z
   show AV.tup [_,AV.agg [_,AV.sl false (oj (r.its.map wK).length (r.its.map wK))]]=_
   rw[zAb];rfl
  .rw[Os Z,show zD wK ([⟨15,0,[]⟩]++r.its)= .sl false ([.agg [iA 15,iA 0,zD yA []]]++r.its.map wK) by unfold zD;rw[zAf];rfl];refine eM call94 λF hF=>?_
   (have gd:=A;(repeat' (first|refine dZ ?_|apply yZ|apply xM|intro hc|(apply zG;first|(apply yR;refine QF 18 Z Z Z ?_;refine kD tok Z Z ?_))|refine SB ?_|fail))<;>clear gd)
   refine LK 17 1055 3 Z Z Z ?_
   (have gd:=A;(repeat' (first|refine uD ?_|apply yZ|apply xM|intro hc|(apply zG;first|refine SM ?_)|fail))<;>clear gd)
   refine zH [] Z Z ?_ Z
   show AV.tup [_,AV.agg [_,AV.sl false (oj ([AV.agg [iA 15,iA 0,zD yA []]]++r.its.map wK).length ([AV.agg [iA 15,iA 0,zD yA []]]++r.its.map wK))]]=_
   rw[zAb];rfl
section
open Classical in
noncomputable def CY (m:Ms):List Int:=if h:VK m then yc m.kind (XG h.2).choose else []
def Db (m:Ms) (h:VK m):((CY m).length<=300/\(m.args≠[]->∃q:List Int,CY m=90::165::1::m.kind::q/\7<=ln q))/\zO 212 [yC m] [] (.tup [zD yA (CY m),iA 0]) []:=by
 have hs:=(XG h.2).choose_spec;have e:CY m=yc m.kind (XG h.2).choose:=by unfold CY;rw[zFn h]
 rw[e];generalize (XG h.2).choose=p at *;obtain⟨h1,h2,u⟩:=hs;obtain⟨k,I,B,C⟩:=m;obtain⟨z,E⟩:=h;dsimp only at *;subst z;refine⟨⟨?_,λA=>?_⟩,u⟩
 .simp only[yc,BR,zAm,zAh,zAa,zBo];have:(ZT k (ln p)).length<=10:=by unfold ZT;simp
  have:=h2.1;omega
 .refine⟨0::(ln p:Int)::(p++BR (bE (ZT k (ln p)++p))),by simp[yc,ZT],?_⟩;have G:=h2.2 A;simp only[BR,zAm,zAh,zAa,zBo];omega
noncomputable def aJ (l:List Ms):List Int:=(l.map CY).flatten
def Cb (l:List Ms) (m:Ms):aJ (l++[m])=aJ l++CY m:=by simp[aJ]
theorem CE:∀{l:List Ms},(∀m∈l,VK m)->(aJ l).length<=300*ln l
 | [],_=>zAr _
 |m::l,h=>by
  have h1:=(Db m (h m zW)).1.1;have h2:=CE (l:=l) λx hx=>h x OT
  have e:aJ (m::l)=CY m++aJ l:=rfl;rw[e,zAh,zAm];omega
def FC (l:List Ms) (hl:ln l<=1002) (h:∀m∈l,VK m):zO 175 [zD yC l] [] (zD yA (aJ l)) []:=by
 have C:=zA yC l;refine eM call175 λF hF=>?_
 refine WW ?_;refine zS 3 1001 1 Z Z Z ?_;refine zU (l) [1001] [] [8,9] [3,10,8,9] Z (λi ga T U=>⟨(3,.ref 1001 0 ((aJ ga).map yA).length)::(10,iA i)::T,(1001,.arr 1 ((aJ ga).map yA) true)::U⟩) (Lq ?_ ?_)
 .intro i ga x post hx hi;have L:=yI yC hx hi;have A:=zV hx hi;obtain⟨⟨I,_⟩,u⟩:=Db x (h x (yV hx));have E:=CE (l:=ga) λm B=>h m (by rw[hx];simp[B])
  have G:=zA yA (aJ ga);have z:=zA yA (CY x);rw[Cb,zAf];clear hx;generalize aJ ga=X,CY x=Y at *;unfold yC at *;refine zQ u ?_;rfl
 ·(refine WW ?_)
  exact zH [] Z Z (zAv (AV.sl false) zAb) Z
structure TB where
 y:Cy
 ss:List Ss
def YT (y:Cy) (s:AV):AV:= .agg [zD wD y.c.js,zD vX y.c.ags,iA y.c.per,iA y.c.cap,iA y.c.hold,iA y.c.lock,bA false,iA y.f4,zD zK y.ds,zD wC y.sg,zD xY y.sv,zD iA y.st,zD wZ y.vw,s]
def bY (b:TB):AV:=YT b.y (zD qA b.ss)
structure CF (b:TB):Prop where
 y:CH b.y
 l:(b.ss.length:Int)=jI b.y.c.ags b.y.c.ags.length
 s:∀s∈b.ss,F4 s
def Fw (S:List (List Int)) (f:List Int):AV:= .agg [zD (zD yA) S,zD yA f]
def fM (u:List Ss):List In:=u.map λs=>(eV s).2
def NX (u:List Ss) (i:Nat):List AV:=(ny (ln u)).map λk=>if k<i then qL (eV (u.getD k dd)).2 else .agg [bA false,.s (.slice none 0 0)]
def fN (u:List Ss) (i:Nat):List Ss:=XA (λ_ s=>(eV s).1) u i
noncomputable def PC (T:List (List Ms)) (i:Nat):List AV:=(ny (ln T)).map λk=>if k<i then zD yA (aJ (T.getD k dd))else .s (.slice none 0 0)
def sr (u:List Ss):NX u (ln u)=(fM u).map qL:=by
 unfold NX fM;rw[VG,zEf]
 apply zBb<;>grind [NX,fM,qL,List.getElem?_range,List.getElem?_eq_getElem,List.getElem?_eq_none]
def tr (T:List (List Ms)):PC T (ln T)=(T.map aJ).map (zD yA):=by
 unfold PC;rw[VG,zEf]
 apply zBb<;>grind [PC,aJ,zD,yA,List.getElem?_range,List.getElem?_eq_getElem,List.getElem?_eq_none]
theorem Zr (b:TB) (h:CF b) (A:Cy) (z:List (List Ms)) (M:K7 b.y A (fM b.ss) z) (k:zO 26 [uB b.y,zD qL (fM b.ss)] [] (.tup [uB A,B4 z (SY (b.y.f4+1) A.vw)]) []):
  zO 116 [YT b.y (.ref 1021 0 (ln b.ss))] [(1021,.arr 4 (b.ss.map qA) false)] (.tup [YT A (.ref 1021 0 (ln b.ss)),Fw (z.map aJ) (aJ [SY (b.y.f4+1) A.vw])]) [(1021,.arr 4 ((fN b.ss (ln b.ss)).map qA) false)]:=by
 obtain⟨y,u⟩:=b;have hy:=h.y;have hs:=h.s;have hl:=h.l;dsimp only at *;have hw:=hy.v.ag;have ap:=hy.rf
 have ax:ln u<=8:=by
  have:=kN hw (ln y.c.ags) (zAg _);have:=hw.1;omega
 have L:=M.i.rf;have S:=M.l;have W:(fM u).length=ln u:=by unfold fM;rw[zAa]
 rw[W]at S;have eC:uB y= .agg [zD wD y.c.js,zD vX y.c.ags,iA y.c.per,iA y.c.cap,iA y.c.hold,iA y.c.lock,bA false,iA y.f4,zD zK y.ds,zD wC y.sg,zD xY y.sv,zD iA y.st,zD wZ y.vw]:=by rw[<-ap];rfl
 have O:uB A= .agg [zD wD A.c.js,zD vX A.c.ags,iA A.c.per,iA A.c.cap,iA A.c.hold,iA A.c.lock,bA false,iA A.f4,zD zK A.ds,zD wC A.sg,zD xY A.sv,zD iA A.st,zD wZ A.vw]:=by rw[<-L];rfl
 rw[eC,O,show∀f,B4 z f= .agg [.sl false (z.map jO),zD yC [f]]from λ_=>rfl]at k;have B:=M.v;have kf:=FC [SY (y.f4+1) A.vw] zW (λm hm=>by rw[zBf.1 hm];exact M.f);generalize SY (y.f4+1) A.vw=fm at *;have az:=zA qA u
 have E:NX u 0=nm (ln u) (.agg [bA false,.s (.slice none 0 0)]):=by
  unfold NX;apply zBb;intro j;rw[zAi,zCj];by_cases hj:j<ln u
  .rw[zBu hj,Os hj];simp
  .rw[Of hj,zB2 uH];rfl
 have G:fN u 0=u:=qP _ _;unfold YT;refine eM call116 λF hF=>?_
 refine WW ?_;have ar:∀i,((fN u i).map qA).length=ln u:=λi=>by unfold fN;rw[zAa,wR]
 have ac:∀i,(NX u i).length=ln u:=λi=>by unfold NX;rw[zAa,zBo]
 refine zN (ln u) [1021,14,1,2,3] [1,2,3] [1,2,3,4,17] [18,1,2,3,4,17] Z (λi T U=>⟨(18,iA i)::T,(1021,.arr 4 ((fN u i).map qA) false)::(14,.arr 2 (NX u i) false)::U⟩) ?_;(conv=>whnf);refine⟨by(rw[E,G];rfl),?_,?_⟩
 .intro i hi;have a3:((fN u i).map qA)[i]? =some (qA (u.getD i dd)):=by rw[zAi];unfold fN;rw[vZ,Os hi,Of (zC5 i)];rfl
  have a2:(NX u i)[i]? =some (.agg [bA false,.s (.slice none 0 0)]):=bB _ _ _ _ hi;have e1:(fN u (i+1)).map qA=((fN u i).map qA).set i (qA (eV (u.getD i dd)).1):=by unfold fN;rw[vI _ _ _ _ hi]
  have e2:NX u (i+1)=(NX u i).set i (qL (eV (u.getD i dd)).2):=eX _ _ _ _ hi;have R:=hs _ (zY u i hi);have kt:=Bw (u.getD i dd) R.y (by have:=R.n;omega);have h1:=ar i;have h2:=ac i;rw[e1,e2];clear e1 e2 E G R hs B k;generalize (fN u i).map qA=X,NX u i=Y,(eV (u.getD i dd)).1=s1,(eV (u.getD i dd)).2=n1 at *;generalize u.getD i dd=s0 at *;refine zQ kt ?_;rfl
 .rw[sr];refine wJ [1,2,3,1021] [1,2,3,4,17,18] Z ?_
  (conv=>whnf)
  have av:=zA qL (fM u);simp only[zAu];rw[zAj (l:=(fM u).map qL) zB];have V:=zA jO z;refine yJ (xV k kf) ?_
  have I:PC z 0=nm (ln z) (.s (.slice none 0 0)):=by
   unfold PC;apply zBb;intro j;rw[zAi,zCj];by_cases hj:j<ln z
   .rw[zBu hj,Os hj];simp
   .rw[Of hj,zB2 uH];rfl
  have C:∀i,(PC z i).length=ln z:=λi=>by unfold PC;rw[zAa,zBo]
  rw[V];refine zN (ln z) [50,1,2,3,8,1021] [1,2,3,8,1021] [1,2,3,8,56,57] [58,1,2,3,8,56,57] Z (λi T U=>⟨(58,iA i)::T,(50,.arr 1 (PC z i) false)::U⟩) ?_;(conv=>whnf);refine⟨by(rw[I];rfl),?_,?_⟩
  .intro i hi;have au:=zJ jO z i hi;have a1:(PC z i)[i]? =some (.s (.slice none 0 0)):=bB _ _ _ _ hi;have e1:PC z (i+1)=(PC z i).set i (zD yA (aJ (z.getD i dd))):=eX _ _ _ _ hi;obtain⟨v1,v2⟩:=B _ (zY z i hi);have kg:=FC (z.getD i dd) v1 v2;have h2:=C i;rw[e1];unfold jO at au;clear e1 I C E G hs B k v2 kf;generalize PC z i=X,aJ (z.getD i dd)=bs at *;generalize z.getD i dd=ti at *;refine zQ kg ?_;rfl
  ·(refine WW ?_)
   refine zH [1021] Z Z ?_ Z
   show AV.tup [_,AV.agg [AV.sl false (oj (ln z) (PC z (ln z))),_]]=_
   rw[zAj (l:=PC z (ln z)) (zCb (C _)),tr];rfl
end
section
open Classical in
noncomputable def K4 (m:Ms):List Int:=if h:VK m then(XG h.2).choose else []
def J4 {m:Ms} (h:VK m):CY m=yc m.kind (K4 m)/\(BY (K4 m)/\p8 m.kind m.args m.data (K4 m))/\(K4 m).length<=200:=by
 have hs:=(XG h.2).choose_spec;have e1:CY m=yc m.kind (XG h.2).choose:=by unfold CY;rw[zFn h]
 have u:K4 m=(XG h.2).choose:=by unfold K4;rw[zFn h]
 rw[e1,u];exact⟨rfl,hs.1,hs.2.1.1⟩
def Ew (k:Int) (p:List Int):(yc k p).length=ln p+10:=by
 simp only[yc,BR,ZT,zAm,zAh,zAa,zBo,zBh];omega
end
