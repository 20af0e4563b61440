/- Part 26. -/
import Derived.Test.YteajjdidebfcjaaGreatV25
namespace Go.Proofs.YteajjdidebfcjaaGreat
namespace Av
open Tryz
set_option linter.all false
set_option maxRecDepth 4000
set_option maxHeartbeats 4000000
theorem zFv (b:List Int) (hb:BY b) (hl:b.length<=1000000):zO 105 [zD yA b] [] (zFg (ZG b)) []:=by
 by_cases hg:∃q,ZG b=some q/\q.1.code=0
 ·obtain⟨q,hq,hc⟩:=hg;rw[hq];exact zF6 b hb hl hq hc
 have hlb:=zA yA b;unfold ZG at hg⊢;by_cases h0:b.length=0
 ·rw[zX3 h0];refine eM call105 λF hF=>?_
  refine WW ?_;exact zJ
 rw[zX2 h0]at hg⊢;obtain⟨y0,z0⟩:=WB b hb 0 zB;by_cases h1:b.getD 0 0=90
 case neg=>
  rw[zX3 (.inl h1)];generalize b.getD 0 0=x0 at *;refine eM call105 λF hF=>?_
  refine WW ?_;exact zJ
 by_cases h2:1<b.length
 case neg=>
  rw[zX2 (λh=>h.elim (λh=>h h1) (λh=>h2 h.1)),zX3 zB];rw[h1]at y0;refine eM call105 λF hF=>?_
  refine WW ?_;exact zJ
 obtain⟨y1,z1⟩:=WB b hb 1 h2;by_cases h3:b.getD 1 0=165
 case neg=>
  rw[zX3 (.inr ⟨h2,h3⟩)];rw[h1]at y0;generalize b.getD 1 0=x1 at *;refine eM call105 λF hF=>?_
  refine WW ?_;exact zJ
 rw[zX2 (λh=>h.elim (λh=>h h1) (λh=>h.2 h3))]at hg⊢;rw[h1]at y0;rw[h3]at y1;clear z0 z1 h1 h3;by_cases h4:b.length<6
 ·rw[zX3 h4];refine eM call105 λF hF=>?_
  refine WW ?_;exact zJ
 rw[zX2 h4]at hg⊢;obtain⟨y4,z4⟩:=WB b hb 4 zB;obtain⟨y5,z5⟩:=WB b hb 5 zB;have hor:=or8 z4 z5;have hpn:b.getD 4 0*256+b.getD 5 0=(jS b:Int):=by unfold jS;omega
 rw[hpn]at hor;generalize b.getD 4 0=x4 at *;generalize b.getD 5 0=x5 at *;generalize hN:jS b=N at *;by_cases h6:200<N
 ·rw[zX3 h6];refine eM call105 λF hF=>?_
  (repeat' (first|(refine zE ?_;first|((refine xM ?_;refine zP (kG Z Z) Z ?_);rw[hor])|refine wL tok Z Z ?_|(refine xJ ?_;fail)|(refine fI ?_;first|refine IK Z Z ?_|refine TE Z Z Z Z ?_|(refine kO Z Z (λhc=>?_) λhc=>?_<;>(try simp only[qQ,zX9,zYj,zZb,zZ7,yBe,zZ4,zY6,zZa,yBm,yBl,yAi]at hc)))|(refine xM ?_;first|refine zP (jG Z Z Z (by unfold bK;omega)) Z ?_|refine zP (jH Z Z Z (by unfold bK;omega)) Z ?_|refine zP (dG Z Z Z) Z ?_|refine zP (jY Z Z ⟨zB,zB⟩) Z ?_|refine zP (dK Z Z ⟨zB,zB⟩) Z ?_|refine zP (jZ Z Z ⟨zB,zB⟩) Z ?_|refine zP (dL Z Z fJ zB) Z ?_|refine zP (dM Z Z zB) Z ?_|refine zP (dN Z Z) Z ?_|refine zP (gR Z Z zB) Z ?_|refine zP (gS Z Z zB) Z ?_|refine zP (wH (.inl ⟨rfl,rfl⟩) Z Z zB) Z ?_|refine zP (wH (.inr ⟨rfl,rfl⟩) Z Z zB) Z ?_|refine zP (vB tok Z Z Z Z (.inl ⟨rfl,rfl⟩)) Z ?_|refine zP (vB tok Z Z Z Z (.inr ⟨rfl,rfl⟩)) Z ?_|refine zP (kK tok (.inl ⟨rfl,rfl⟩) Z Z Z) Z ?_|refine zP (yG tok (.inl ⟨rfl,rfl⟩) Z Z Z Z) Z ?_|refine zP (gO Z Z) Z ?_|refine zP (kG Z Z) Z ?_|refine zP (gP Z Z) Z ?_|refine zP (kL Z Z fJ) Z ?_|refine zP (kS Z Z) Z ?_|refine zP (kM Z Z fJ) Z ?_|refine zP (kT Z Z) Z ?_)|(refine aS ?_;first|refine zP (wS tok Z Z Z Z Z zB xY Z Z) Z ?_|refine zP (wP tok Z Z Z Z Z Z zB zB Z) Z ?_|refine zP (wD tok Z Z Z Z Z Z zB zB) Z ?_)|(refine dJ ?_;first|refine zP (uV tok Z Z Z xY Z) Z ?_|refine zP (uU tok Z Z Z xY Z) Z ?_|refine zP (uD tok Z Z Z Z xY Z) Z ?_|refine zP (uC tok Z Z Z Z xY Z) Z ?_)|(refine aT ?_;first|refine zP (wC tok Z Z Z Z Z Z Z Z) Z ?_|refine zP (wR tok Z xY Z Z Z Z Z Z) Z ?_)|(refine yD ?_;first|refine xF tok Z Z Z Z Z Z Z (by first|(intro y hy;cases hy;rfl)|exact zN _ _ (λ_=>rfl)) Z Z Z (by first|omega|(simp;done)|(simp;omega)) Z ?_|refine uF tok Z Z Z Z Z Z Z Z Z Z Z (by first|(intro y hy;cases hy;rfl)|exact zN _ _ (λ_=>rfl)) (by first|omega|(simp;done)|(simp;omega)) Z ?_)|(refine bU ?_;first|refine zP (dO Z ⟨zB,zB⟩) Z ?_)|(refine dH ?_;first|refine zP (qL tok Z Z Z Z ⟨zB,zB⟩) Z ?_|refine zP (jV tok Z Z Z Z) Z ?_|refine zP (qM tok Z Z Z Z Z Z Z xY) Z ?_)|(refine uB ?_;first|refine gQ tok Z Z Z Z Z (by first|(intro y hy;cases hy;rfl)|exact zN _ _ (λ_=>rfl)|assumption|(simp;done)) zB xX TF Z ?_|refine cJ tok Z Z Z Z Z (by first|(intro y hy;cases hy;rfl)|exact zN _ _ (λ_=>rfl)|assumption|(simp;done)) zB xX TG Z ?_|refine dI tok Z Z Z Z Z Z (by first|(intro y hy;cases hy;rfl)|exact zN _ _ (λ_=>rfl)|assumption|(simp;done)) zB zB (by first|omega|(simp;omega)) TH Z ?_)|refine SM ?_|(refine cG ?_;refine zP (xV Z Z Z) Z ?_)|refine jX tok Z Z Z Z ?_|(refine gC ?_;first|refine aY tok Z Z Z Z Z Z ?_|refine jF tok Z Z Z ?_|refine aO tok Z Z Z xY Z Z Z Z Z Z ?_|refine cH tok Z Z Z xY Z Z Z Z Z Z Z Z ?_)|refine uI ?_|refine eU VJ ?_)|first|refine SR ?_|refine SK (I2 (λhc=>?_) λhc=>?_)|refine SK λhc=>?_|fail))
  exact zJ
 rw[zX2 h6]at hg⊢;by_cases h7:b.length<N+10
 ·rw[zX3 h7];refine eM call105 λF hF=>?_
  (repeat' (first|(refine zE ?_;first|((refine xM ?_;refine zP (kG Z Z) Z ?_);rw[hor])|refine wL tok Z Z ?_|(refine xJ ?_;fail)|(refine fI ?_;first|refine IK Z Z ?_|refine TE Z Z Z Z ?_|(refine kO Z Z (λhc=>?_) λhc=>?_<;>(try simp only[qQ,zX9,zYj,zZb,zZ7,yBe,zZ4,zY6,zZa,yBm,yBl,yAi]at hc)))|(refine xM ?_;first|refine zP (jG Z Z Z (by unfold bK;omega)) Z ?_|refine zP (jH Z Z Z (by unfold bK;omega)) Z ?_|refine zP (dG Z Z Z) Z ?_|refine zP (jY Z Z ⟨zB,zB⟩) Z ?_|refine zP (dK Z Z ⟨zB,zB⟩) Z ?_|refine zP (jZ Z Z ⟨zB,zB⟩) Z ?_|refine zP (dL Z Z fJ zB) Z ?_|refine zP (dM Z Z zB) Z ?_|refine zP (dN Z Z) Z ?_|refine zP (gR Z Z zB) Z ?_|refine zP (gS Z Z zB) Z ?_|refine zP (wH (.inl ⟨rfl,rfl⟩) Z Z zB) Z ?_|refine zP (wH (.inr ⟨rfl,rfl⟩) Z Z zB) Z ?_|refine zP (vB tok Z Z Z Z (.inl ⟨rfl,rfl⟩)) Z ?_|refine zP (vB tok Z Z Z Z (.inr ⟨rfl,rfl⟩)) Z ?_|refine zP (kK tok (.inl ⟨rfl,rfl⟩) Z Z Z) Z ?_|refine zP (yG tok (.inl ⟨rfl,rfl⟩) Z Z Z Z) Z ?_|refine zP (gO Z Z) Z ?_|refine zP (kG Z Z) Z ?_|refine zP (gP Z Z) Z ?_|refine zP (kL Z Z fJ) Z ?_|refine zP (kS Z Z) Z ?_|refine zP (kM Z Z fJ) Z ?_|refine zP (kT Z Z) Z ?_)|(refine aS ?_;first|refine zP (wS tok Z Z Z Z Z zB xY Z Z) Z ?_|refine zP (wP tok Z Z Z Z Z Z zB zB Z) Z ?_|refine zP (wD tok Z Z Z Z Z Z zB zB) Z ?_)|(refine dJ ?_;first|refine zP (uV tok Z Z Z xY Z) Z ?_|refine zP (uU tok Z Z Z xY Z) Z ?_|refine zP (uD tok Z Z Z Z xY Z) Z ?_|refine zP (uC tok Z Z Z Z xY Z) Z ?_)|(refine aT ?_;first|refine zP (wC tok Z Z Z Z Z Z Z Z) Z ?_|refine zP (wR tok Z xY Z Z Z Z Z Z) Z ?_)|(refine yD ?_;first|refine xF tok Z Z Z Z Z Z Z (by first|(intro y hy;cases hy;rfl)|exact zN _ _ (λ_=>rfl)) Z Z Z (by first|omega|(simp;done)|(simp;omega)) Z ?_|refine uF tok Z Z Z Z Z Z Z Z Z Z Z (by first|(intro y hy;cases hy;rfl)|exact zN _ _ (λ_=>rfl)) (by first|omega|(simp;done)|(simp;omega)) Z ?_)|(refine bU ?_;first|refine zP (dO Z ⟨zB,zB⟩) Z ?_)|(refine dH ?_;first|refine zP (qL tok Z Z Z Z ⟨zB,zB⟩) Z ?_|refine zP (jV tok Z Z Z Z) Z ?_|refine zP (qM tok Z Z Z Z Z Z Z xY) Z ?_)|(refine uB ?_;first|refine gQ tok Z Z Z Z Z (by first|(intro y hy;cases hy;rfl)|exact zN _ _ (λ_=>rfl)|assumption|(simp;done)) zB xX TF Z ?_|refine cJ tok Z Z Z Z Z (by first|(intro y hy;cases hy;rfl)|exact zN _ _ (λ_=>rfl)|assumption|(simp;done)) zB xX TG Z ?_|refine dI tok Z Z Z Z Z Z (by first|(intro y hy;cases hy;rfl)|exact zN _ _ (λ_=>rfl)|assumption|(simp;done)) zB zB (by first|omega|(simp;omega)) TH Z ?_)|refine SM ?_|(refine cG ?_;refine zP (xV Z Z Z) Z ?_)|refine jX tok Z Z Z Z ?_|(refine gC ?_;first|refine aY tok Z Z Z Z Z Z ?_|refine jF tok Z Z Z ?_|refine aO tok Z Z Z xY Z Z Z Z Z Z ?_|refine cH tok Z Z Z xY Z Z Z Z Z Z Z Z ?_)|refine uI ?_|refine eU VJ ?_)|first|refine SR ?_|refine SK (I2 (λhc=>?_) λhc=>?_)|refine SK λhc=>?_|fail))
  exact zJ
 rw[zX2 h7]at hg⊢;have bd:∀i k,BY ((b.drop i).take k):=λi k x hx=>hb x (zY1 (zZl hx))
 have kc:=zAi ((b.drop 2).take (N+4)) zC4 (bd _ _)
 have e1:((b.map yA).drop (2:Int).toNat).take (((N:Int)+6).toNat-(2:Int).toNat)=((b.drop 2).take (N+4)).map yA:=by
  rw[yBd,yBc,show((N:Int)+6).toNat-(2:Int).toNat=N+4 by omega];rfl
 obtain⟨y6,z6⟩:=WB b hb (N+6) zB;obtain⟨y7,z7⟩:=WB b hb (N+7) zB;obtain⟨y8,z8⟩:=WB b hb (N+8) zB;obtain⟨y9,z9⟩:=WB b hb (N+9) zB;obtain⟨y2,z2⟩:=WB b hb 2 zB;obtain⟨y3,z3⟩:=WB b hb 3 zB;have hs:=or4 z6 z7 z8 z9;rw[GY b (N+6) zB]at hg⊢;generalize (b.drop 2).take (N+4)=B1 at *;clear bd;generalize b.getD 2 0=x2 at *;generalize b.getD 3 0=x3 at *;generalize b.getD (N+6) 0=x6 at *;generalize b.getD (N+7) 0=x7 at *;generalize b.getD (N+8) 0=x8 at *;generalize b.getD (N+9) 0=x9 at *;generalize eK B1=u1 at *;generalize XM [x6,x7,x8,x9]=u2 at *;by_cases h8:u1=u2
 case neg=>
  rw[zX3 h8];have h8:u2≠u1:=λh=>h8 h.symm
  clear hg;refine eM call105 λF hF=>?_
  (repeat' (first|(refine zE ?_;first|((refine xM ?_;first|refine zP (kG Z Z) Z ?_|refine zP (US Z Z) Z ?_);(try rw[hor]);(try rw[hs]))|refine wL tok Z Z ?_|(refine xJ ?_;(first|(refine vP 65 ?_;first|refine zP (zH (kc) Z Z Z Z Z) Z ?_|refine qE (zH (kc) Z Z Z Z Z) Z Z Z ?_|refine ZJ (zH (kc) Z Z Z Z Z) Z Z Z ?_)))|(refine fI ?_;first|refine IK Z Z ?_|refine TE Z Z Z Z ?_|(refine kO Z Z (λhc=>?_) λhc=>?_<;>(try simp only[qQ,zX9,zYj,zZb,zZ7,yBe,zZ4,zY6,zZa,yBm,yBl,yAi]at hc)))|(refine xM ?_;first|refine zP (jG Z Z Z (by unfold bK;omega)) Z ?_|refine zP (jH Z Z Z (by unfold bK;omega)) Z ?_|refine zP (dG Z Z Z) Z ?_|refine zP (jY Z Z ⟨zB,zB⟩) Z ?_|refine zP (dK Z Z ⟨zB,zB⟩) Z ?_|refine zP (jZ Z Z ⟨zB,zB⟩) Z ?_|refine zP (dL Z Z fJ zB) Z ?_|refine zP (dM Z Z zB) Z ?_|refine zP (dN Z Z) Z ?_|refine zP (gR Z Z zB) Z ?_|refine zP (gS Z Z zB) Z ?_|refine zP (wH (.inl ⟨rfl,rfl⟩) Z Z zB) Z ?_|refine zP (wH (.inr ⟨rfl,rfl⟩) Z Z zB) Z ?_|refine zP (vB tok Z Z Z Z (.inl ⟨rfl,rfl⟩)) Z ?_|refine zP (vB tok Z Z Z Z (.inr ⟨rfl,rfl⟩)) Z ?_|refine zP (kK tok (.inl ⟨rfl,rfl⟩) Z Z Z) Z ?_|refine zP (yG tok (.inl ⟨rfl,rfl⟩) Z Z Z Z) Z ?_|refine zP (gO Z Z) Z ?_|refine zP (kG Z Z) Z ?_|refine zP (gP Z Z) Z ?_|refine zP (kL Z Z fJ) Z ?_|refine zP (kS Z Z) Z ?_|refine zP (kM Z Z fJ) Z ?_|refine zP (kT Z Z) Z ?_)|(refine aS ?_;first|refine zP (wS tok Z Z Z Z Z zB xY Z Z) Z ?_|refine zP (wP tok Z Z Z Z Z Z zB zB Z) Z ?_|refine zP (wD tok Z Z Z Z Z Z zB zB) Z ?_)|(refine dJ ?_;first|refine zP (uV tok Z Z Z xY Z) Z ?_|refine zP (uU tok Z Z Z xY Z) Z ?_|refine zP (uD tok Z Z Z Z xY Z) Z ?_|refine zP (uC tok Z Z Z Z xY Z) Z ?_)|(refine aT ?_;first|refine zP (wC tok Z Z Z Z Z Z Z Z) Z ?_|refine zP (wR tok Z xY Z Z Z Z Z Z) Z ?_)|(refine yD ?_;first|refine xF tok Z Z Z Z Z Z Z (by first|(intro y hy;cases hy;rfl)|exact zN _ _ (λ_=>rfl)) Z Z Z (by first|omega|(simp;done)|(simp;omega)) Z ?_|refine uF tok Z Z Z Z Z Z Z Z Z Z Z (by first|(intro y hy;cases hy;rfl)|exact zN _ _ (λ_=>rfl)) (by first|omega|(simp;done)|(simp;omega)) Z ?_)|(refine bU ?_;first|refine zP (dO Z ⟨zB,zB⟩) Z ?_)|(refine dH ?_;first|refine zP (qL tok Z Z Z Z ⟨zB,zB⟩) Z ?_|refine zP (jV tok Z Z Z Z) Z ?_|refine zP (qM tok Z Z Z Z Z Z Z xY) Z ?_)|(refine uB ?_;first|refine gQ tok Z Z Z Z Z (by first|(intro y hy;cases hy;rfl)|exact zN _ _ (λ_=>rfl)|assumption|(simp;done)) zB xX TF Z ?_|refine cJ tok Z Z Z Z Z (by first|(intro y hy;cases hy;rfl)|exact zN _ _ (λ_=>rfl)|assumption|(simp;done)) zB xX TG Z ?_|refine dI tok Z Z Z Z Z Z (by first|(intro y hy;cases hy;rfl)|exact zN _ _ (λ_=>rfl)|assumption|(simp;done)) zB zB (by first|omega|(simp;omega)) TH Z ?_)|refine SM ?_|(refine cG ?_;refine zP (xV Z Z Z) Z ?_)|refine jX tok Z Z Z Z ?_|(refine gC ?_;first|refine aY tok Z Z Z Z Z Z ?_|refine jF tok Z Z Z ?_|refine aO tok Z Z Z xY Z Z Z Z Z Z ?_|refine cH tok Z Z Z xY Z Z Z Z Z Z Z Z ?_)|refine uI ?_|refine eU VJ ?_)|first|refine SR ?_|refine SK (I2 (λhc=>?_) λhc=>?_)|refine SK λhc=>?_|fail))
  exact zJ
 subst h8;rw[zX2 (λh=>h Z)]at hg⊢;by_cases h9:x2=1
 case neg=>
  rw[zX3 h9];clear hg;refine eM call105 λF hF=>?_
  (repeat' (first|(refine zE ?_;first|((refine xM ?_;first|refine zP (kG Z Z) Z ?_|refine zP (US Z Z) Z ?_);(try rw[hor]);(try rw[hs]))|refine wL tok Z Z ?_|(refine xJ ?_;(first|(refine vP 65 ?_;first|refine zP (zH (kc) Z Z Z Z Z) Z ?_|refine qE (zH (kc) Z Z Z Z Z) Z Z Z ?_|refine ZJ (zH (kc) Z Z Z Z Z) Z Z Z ?_)))|(refine fI ?_;first|refine IK Z Z ?_|refine TE Z Z Z Z ?_|(refine kO Z Z (λhc=>?_) λhc=>?_<;>(try simp only[qQ,zX9,zYj,zZb,zZ7,yBe,zZ4,zY6,zZa,yBm,yBl,yAi]at hc)))|(refine xM ?_;first|refine zP (jG Z Z Z (by unfold bK;omega)) Z ?_|refine zP (jH Z Z Z (by unfold bK;omega)) Z ?_|refine zP (dG Z Z Z) Z ?_|refine zP (jY Z Z ⟨zB,zB⟩) Z ?_|refine zP (dK Z Z ⟨zB,zB⟩) Z ?_|refine zP (jZ Z Z ⟨zB,zB⟩) Z ?_|refine zP (dL Z Z fJ zB) Z ?_|refine zP (dM Z Z zB) Z ?_|refine zP (dN Z Z) Z ?_|refine zP (gR Z Z zB) Z ?_|refine zP (gS Z Z zB) Z ?_|refine zP (wH (.inl ⟨rfl,rfl⟩) Z Z zB) Z ?_|refine zP (wH (.inr ⟨rfl,rfl⟩) Z Z zB) Z ?_|refine zP (vB tok Z Z Z Z (.inl ⟨rfl,rfl⟩)) Z ?_|refine zP (vB tok Z Z Z Z (.inr ⟨rfl,rfl⟩)) Z ?_|refine zP (kK tok (.inl ⟨rfl,rfl⟩) Z Z Z) Z ?_|refine zP (yG tok (.inl ⟨rfl,rfl⟩) Z Z Z Z) Z ?_|refine zP (gO Z Z) Z ?_|refine zP (kG Z Z) Z ?_|refine zP (gP Z Z) Z ?_|refine zP (kL Z Z fJ) Z ?_|refine zP (kS Z Z) Z ?_|refine zP (kM Z Z fJ) Z ?_|refine zP (kT Z Z) Z ?_)|(refine aS ?_;first|refine zP (wS tok Z Z Z Z Z zB xY Z Z) Z ?_|refine zP (wP tok Z Z Z Z Z Z zB zB Z) Z ?_|refine zP (wD tok Z Z Z Z Z Z zB zB) Z ?_)|(refine dJ ?_;first|refine zP (uV tok Z Z Z xY Z) Z ?_|refine zP (uU tok Z Z Z xY Z) Z ?_|refine zP (uD tok Z Z Z Z xY Z) Z ?_|refine zP (uC tok Z Z Z Z xY Z) Z ?_)|(refine aT ?_;first|refine zP (wC tok Z Z Z Z Z Z Z Z) Z ?_|refine zP (wR tok Z xY Z Z Z Z Z Z) Z ?_)|(refine yD ?_;first|refine xF tok Z Z Z Z Z Z Z (by first|(intro y hy;cases hy;rfl)|exact zN _ _ (λ_=>rfl)) Z Z Z (by first|omega|(simp;done)|(simp;omega)) Z ?_|refine uF tok Z Z Z Z Z Z Z Z Z Z Z (by first|(intro y hy;cases hy;rfl)|exact zN _ _ (λ_=>rfl)) (by first|omega|(simp;done)|(simp;omega)) Z ?_)|(refine bU ?_;first|refine zP (dO Z ⟨zB,zB⟩) Z ?_)|(refine dH ?_;first|refine zP (qL tok Z Z Z Z ⟨zB,zB⟩) Z ?_|refine zP (jV tok Z Z Z Z) Z ?_|refine zP (qM tok Z Z Z Z Z Z Z xY) Z ?_)|(refine uB ?_;first|refine gQ tok Z Z Z Z Z (by first|(intro y hy;cases hy;rfl)|exact zN _ _ (λ_=>rfl)|assumption|(simp;done)) zB xX TF Z ?_|refine cJ tok Z Z Z Z Z (by first|(intro y hy;cases hy;rfl)|exact zN _ _ (λ_=>rfl)|assumption|(simp;done)) zB xX TG Z ?_|refine dI tok Z Z Z Z Z Z (by first|(intro y hy;cases hy;rfl)|exact zN _ _ (λ_=>rfl)|assumption|(simp;done)) zB zB (by first|omega|(simp;omega)) TH Z ?_)|refine SM ?_|(refine cG ?_;refine zP (xV Z Z Z) Z ?_)|refine jX tok Z Z Z Z ?_|(refine gC ?_;first|refine aY tok Z Z Z Z Z Z ?_|refine jF tok Z Z Z ?_|refine aO tok Z Z Z xY Z Z Z Z Z Z ?_|refine cH tok Z Z Z xY Z Z Z Z Z Z Z Z ?_)|refine uI ?_|refine eU VJ ?_)|first|refine SR ?_|refine SK (I2 (λhc=>?_) λhc=>?_)|refine SK λhc=>?_|fail))
  exact zI [] Z Z (zY3 (λz=>AV.tup [.agg [iA 3,iA 0,.sl false []],iA z,bA true]) (show(N:Int)+10=((N+10:Nat):Int) by omega)) Z
 rw[zX2 (λh=>h h9)]at hg⊢;by_cases h10:x3<1∨22<x3
 ·rw[zX3 h10];clear hg
  rcases h10 with h10|h10
  all_goals
   refine eM call105 λF hF=>?_
   (repeat' (first|(refine zE ?_;first|((refine xM ?_;first|refine zP (kG Z Z) Z ?_|refine zP (US Z Z) Z ?_);(try rw[hor]);(try rw[hs]))|refine wL tok Z Z ?_|(refine xJ ?_;(first|(refine vP 65 ?_;first|refine zP (zH (kc) Z Z Z Z Z) Z ?_|refine qE (zH (kc) Z Z Z Z Z) Z Z Z ?_|refine ZJ (zH (kc) Z Z Z Z Z) Z Z Z ?_)))|(refine fI ?_;first|refine IK Z Z ?_|refine TE Z Z Z Z ?_|(refine kO Z Z (λhc=>?_) λhc=>?_<;>(try simp only[qQ,zX9,zYj,zZb,zZ7,yBe,zZ4,zY6,zZa,yBm,yBl,yAi]at hc)))|(refine xM ?_;first|refine zP (jG Z Z Z (by unfold bK;omega)) Z ?_|refine zP (jH Z Z Z (by unfold bK;omega)) Z ?_|refine zP (dG Z Z Z) Z ?_|refine zP (jY Z Z ⟨zB,zB⟩) Z ?_|refine zP (dK Z Z ⟨zB,zB⟩) Z ?_|refine zP (jZ Z Z ⟨zB,zB⟩) Z ?_|refine zP (dL Z Z fJ zB) Z ?_|refine zP (dM Z Z zB) Z ?_|refine zP (dN Z Z) Z ?_|refine zP (gR Z Z zB) Z ?_|refine zP (gS Z Z zB) Z ?_|refine zP (wH (.inl ⟨rfl,rfl⟩) Z Z zB) Z ?_|refine zP (wH (.inr ⟨rfl,rfl⟩) Z Z zB) Z ?_|refine zP (vB tok Z Z Z Z (.inl ⟨rfl,rfl⟩)) Z ?_|refine zP (vB tok Z Z Z Z (.inr ⟨rfl,rfl⟩)) Z ?_|refine zP (kK tok (.inl ⟨rfl,rfl⟩) Z Z Z) Z ?_|refine zP (yG tok (.inl ⟨rfl,rfl⟩) Z Z Z Z) Z ?_|refine zP (gO Z Z) Z ?_|refine zP (kG Z Z) Z ?_|refine zP (gP Z Z) Z ?_|refine zP (kL Z Z fJ) Z ?_|refine zP (kS Z Z) Z ?_|refine zP (kM Z Z fJ) Z ?_|refine zP (kT Z Z) Z ?_)|(refine aS ?_;first|refine zP (wS tok Z Z Z Z Z zB xY Z Z) Z ?_|refine zP (wP tok Z Z Z Z Z Z zB zB Z) Z ?_|refine zP (wD tok Z Z Z Z Z Z zB zB) Z ?_)|(refine dJ ?_;first|refine zP (uV tok Z Z Z xY Z) Z ?_|refine zP (uU tok Z Z Z xY Z) Z ?_|refine zP (uD tok Z Z Z Z xY Z) Z ?_|refine zP (uC tok Z Z Z Z xY Z) Z ?_)|(refine aT ?_;first|refine zP (wC tok Z Z Z Z Z Z Z Z) Z ?_|refine zP (wR tok Z xY Z Z Z Z Z Z) Z ?_)|(refine yD ?_;first|refine xF tok Z Z Z Z Z Z Z (by first|(intro y hy;cases hy;rfl)|exact zN _ _ (λ_=>rfl)) Z Z Z (by first|omega|(simp;done)|(simp;omega)) Z ?_|refine uF tok Z Z Z Z Z Z Z Z Z Z Z (by first|(intro y hy;cases hy;rfl)|exact zN _ _ (λ_=>rfl)) (by first|omega|(simp;done)|(simp;omega)) Z ?_)|(refine bU ?_;first|refine zP (dO Z ⟨zB,zB⟩) Z ?_)|(refine dH ?_;first|refine zP (qL tok Z Z Z Z ⟨zB,zB⟩) Z ?_|refine zP (jV tok Z Z Z Z) Z ?_|refine zP (qM tok Z Z Z Z Z Z Z xY) Z ?_)|(refine uB ?_;first|refine gQ tok Z Z Z Z Z (by first|(intro y hy;cases hy;rfl)|exact zN _ _ (λ_=>rfl)|assumption|(simp;done)) zB xX TF Z ?_|refine cJ tok Z Z Z Z Z (by first|(intro y hy;cases hy;rfl)|exact zN _ _ (λ_=>rfl)|assumption|(simp;done)) zB xX TG Z ?_|refine dI tok Z Z Z Z Z Z (by first|(intro y hy;cases hy;rfl)|exact zN _ _ (λ_=>rfl)|assumption|(simp;done)) zB zB (by first|omega|(simp;omega)) TH Z ?_)|refine SM ?_|(refine cG ?_;refine zP (xV Z Z Z) Z ?_)|refine jX tok Z Z Z Z ?_|(refine gC ?_;first|refine aY tok Z Z Z Z Z Z ?_|refine jF tok Z Z Z ?_|refine aO tok Z Z Z xY Z Z Z Z Z Z ?_|refine cH tok Z Z Z xY Z Z Z Z Z Z Z Z ?_)|refine uI ?_|refine eU VJ ?_)|first|refine SR ?_|refine SK (I2 (λhc=>?_) λhc=>?_)|refine SK λhc=>?_|fail))
   exact zI [] Z Z (zY3 (λz=>AV.tup [.agg [iA 5,iA 0,.sl false []],iA z,bA true]) (show(N:Int)+10=((N+10:Nat):Int) by omega)) Z
 ·rw[zX2 h10]at hg;exact absurd ⟨_,rfl,rfl⟩ hg
def QE (k:Int) (h:13<=k/\k<=21):zO 106 [iA k] [] (.agg [iA (eI k).1,iA (eI k).2.1,iA (eI k).2.2.1,iA (eI k).2.2.2.1,iA (eI k).2.2.2.2]) []:=by
 have:k=13∨k=14∨k=15∨k=16∨k=17∨k=18∨k=19∨k=20∨k=21:=by omega
 rcases this with rfl|rfl|rfl|rfl|rfl|rfl|rfl|rfl|rfl
 all_goals
  refine eM call106 λF hF=>?_
  refine WW ?_;exact zJ
theorem zFw (k:Int) (fx gr:Nat) (lo hi sd:Int) (c1:zO 106 [iA k] [] (.agg [iA (fx:Int),iA (gr:Int),iA lo,iA hi,iA sd]) []) (hg:gr<=4) (m:Ms) (c:Nat) (hk:m.kind=k) (ht:m.tok.length<=10) (hd:m.data.length<=100000) (ha:∀x∈m.args,0<=x/\x<=4294967295) (hn:m.args.length<=1000) (hc:gr≠0->m.args.length=fx+c*gr) (hc3:c<=16):
  zO 99 [yF m] [] (zD yA (cP fx gr c m)) []:=by
 subst hk;have hlt:=zA yA m.tok;have hla:=zA iA m.args;have hld:=zA yA m.data;unfold cP;generalize hT:m.tok++VM fx gr c 0 m.args=tot;refine eM call99 λF hF=>?_
 (have zc1:=c1;(repeat' (first|refine uJ ?_|apply xL|apply wB|intro hc|(refine zE ?_;first|(refine yD ?_;refine kR 1001 tok Z Z Z Z Z Z (zN _ _ (λ_=>rfl)) Z Z Z zB Z Z Z ?_))|fail))<;>clear zc1)
 refine qH 1001 Z ?_;refine kN (m.args) [1001,1,3] [1,3] [1,3,16,17] [4,18,1,3,16,17] Z (λi pre T U zs=>∃acc:List Int,(acc.length<=10+6*i/\∀post,m.args=pre++post->acc++VM fx gr c i post=tot)/\zs=⟨(4,.ref 1001 0 (acc.map yA).length)::(18,iA i)::T,(1001,.arr 1 (acc.map yA) true)::U⟩) ?_;(conv=>whnf);refine⟨?_,?_,?_⟩
 ·exact⟨m.tok,⟨zB,λpost h=>by rw[<-hT,h];rfl⟩,rfl⟩
 ·rintro i pre x post st hx hi ⟨acc,⟨q0,q1⟩,rfl⟩;have hy:=xQ iA hx hi;have hlt2:=yW hx hi;have hxr:=ha x (vF hx);have hla2:=zA yA acc;have he:=hH x;have c2:=zQ5 x hxr.1 hxr.2;have hle:=zA yA (gW x)
  have hpost:∀p,m.args=pre++[x]++p->p=post:=λp h=>by
   rw[hx,zYw]at h;simpa using h.symm
  have hT3:=q1 _ hx;clear q1 hT hx;by_cases hi2:i=fx/\gr≠0
  ·obtain⟨rfl,hg0⟩:=hi2;have hcl:=hc hg0
   have hq:(((m.args.map iA).length:Int)-(i:Int)).tdiv (gr:Int)=(c:Int):=by
    rw[hla,hcl,show(((i+c*gr:Nat):Int)-(i:Int))=(c:Int)*(gr:Int) by rw[yDa,yCt];omega];exact Int.mul_tdiv_cancel _ zB
   have hir:YH .i64 ((((m.args.map iA).length:Int)-(i:Int)).tdiv (gr:Int)):=by rw[hq];exact⟨zB,zB⟩
   have e:VM i gr c i (x::post)=[(c:Int)]++(gW x++VM i gr c (i+1) post):=by rw[VM,zX3 ⟨rfl,hg0⟩]
   rw[e]at hT3;clear e hcl hc;generalize gW x=ex at *;refine yR (wZ c1 c2) ?_;refine⟨acc++[(c:Int)]++ex,⟨by simp;omega,λp h=>by rw[hpost p h,<-hT3];simp⟩,?_⟩;rw[zYd,zYd,<-hq];rfl
  ·have e:VM fx gr c i (x::post)=gW x++VM fx gr c (i+1) post:=by rw[VM,zX2 hi2];rfl
   rw[e]at hT3;clear e hc;generalize gW x=ex at *;by_cases hif:i=fx
   ·have hg0:gr=0:=by
     by_cases h:gr=0
     ·exact h
     ·exact absurd ⟨hif,h⟩ hi2
    refine yR (wZ c1 c2) ?_;refine⟨acc++ex,⟨by simp;omega,λp h=>by rw[hpost p h,<-hT3];simp⟩,?_⟩;rw[zYd];rfl
   ·(refine yR (wZ c1 c2) ?_)
    refine⟨acc++ex,⟨by simp;omega,λp h=>by rw[hpost p h,<-hT3];simp⟩,?_⟩;rw[zYd];rfl
 ·rintro st ⟨acc,⟨q0,q1⟩,rfl⟩;have e:=q1 [] zW;rw[show VM fx gr c m.args.length []=[]from rfl,zY4]at e;subst e;have hla2:=zA yA acc;clear q1 hT hc;by_cases hz:gr≠0/\m.args.length=fx
  ·rw[zX3 hz];obtain⟨hz1,hz2⟩:=hz;refine WW ?_;refine zI [] Z Z ?_ Z
   show AV.sl false ((acc.map yA++[yA 0]++m.data.map yA).take (acc.map yA++[yA 0]++m.data.map yA).length)=_
   rw[zX6];unfold zD;rw[zYd,zYd,zYw];rfl
  ·rw[zX2 hz];by_cases hz1:gr=0
   ·(refine WW ?_)
    refine zI [] Z Z ?_ Z
    show AV.sl false ((acc.map yA++m.data.map yA).take (acc.map yA++m.data.map yA).length)=_
    rw[zX6];unfold zD;rw[zYd];rfl
   ·have hz2:m.args.length≠fx:=λh=>hz ⟨hz1,h⟩
    refine WW ?_;refine zI [] Z Z ?_ Z
    show AV.sl false ((acc.map yA++m.data.map yA).take (acc.map yA++m.data.map yA).length)=_
    rw[zX6];unfold zD;rw[zYd];rfl
section
variable (k:Int) (hk:13<=k/\k<=22) (fx gr:Nat) (hi sd:Int) (c1:zO 106 [iA k] [] (.agg [iA (fx:Int),iA (gr:Int),iA 0,iA hi,iA sd]) []) (hf:fx<=4) (hg:gr=0∨gr=2∨gr=3) (hh:0<=hi/\hi<=16) (hs: -1<=sd/\sd<=200)
include hk c1 hf hg hh hs
theorem GV (ar da:List Int) (c:Nat) (hn:JU ar) (hl:ar.length=fx+c*gr) (hc:(c:Int)<=hi∨gr=0) (hd:da.length<=100000) (c3:zO 99 [yF ⟨k,[],ar,da⟩] [] (zD yA (cP fx gr c ⟨k,[],ar,da⟩)) []):
  ∃b:Bool,(sd= -1->b=decide (da.length<=200/\(cP fx gr c ⟨k,[],ar,da⟩).length<=200))/\zO 98 [yF ⟨k,[],ar,da⟩] [] (bA b) []:=by
 have c2:=dQ k;rw[zYb zB]at c2;have hla:=zA iA ar;have hld:=zA yA da;generalize cP fx gr c ⟨k,[],ar,da⟩=pl at *;have hlp:=zA yA pl
 have hm:gr≠0->(((ar.map iA).length:Int)-(fx:Int)).tmod (gr:Int)=0:=λh0=>by
  rcases hg with rfl|rfl|rfl
  ·exact absurd Z h0
  ·rw[zZq zB];omega
  ·rw[zZq zB];omega
 unfold yF at *;dsimp only at *;by_cases h1:0<=sd/\(da.length:Int)≠sd
 ·refine⟨false,λh=>by omega,?_⟩;obtain⟨h1,h2⟩:=h1;clear c3
  rcases hg with rfl|rfl|rfl
  all_goals (try have hm:=hm zV)
  all_goals
   refine eM call98 λF hF=>?_
   refine yR (wZ c1 c2) ?_;exact zJ
 by_cases h3:200<da.length
 ·refine⟨false,λh=>(zYb (λh=>by omega)).symm,?_⟩;clear c3;have hs9:sd<0∨(0<=sd/\(da.length:Int)=sd):=by omega
  rcases hs9 with h9|⟨h9,h8⟩
  all_goals
   rcases hg with rfl|rfl|rfl
   all_goals (try have hm:=hm zV)
   all_goals
    refine eM call98 λF hF=>?_
    refine yR (wZ c1 c2) ?_;exact zJ
 refine⟨decide (pl.length<=200),λh=>decide_eq_decide.2 ⟨λh=>⟨zB,h⟩,λh=>h.2⟩,?_⟩;have hs9:sd<0∨(0<=sd/\(da.length:Int)=sd):=by omega
 rcases hs9 with h9|⟨h9,h8⟩
 all_goals
  rcases hg with rfl|rfl|rfl
  all_goals (try have hm:=hm zV)
  all_goals
   refine eM call98 λF hF=>?_
   refine yR (wZ c1 c2) ?_;refine yT (ar) [1] [1] [1,97,98] [99,1,97,98] Z (λi pre T U=>⟨(99,iA i)::T,U⟩) ?_;(conv=>whnf);refine⟨by rfl,?_,?_⟩
   ·intro i pre x post hx hi;have hy:=xQ iA hx hi;have hlt2:=yW hx hi;have hxr:=hn x (vF hx);clear hx hn;refine WW ?_;rfl
   ·cases hq:decide (pl.length<=200)
    case' false=>simp only[zYj]at hq
    case' true=>simp only[zX9]at hq
    all_goals
     refine zY c3 ?_;exact zJ
def dsT:Option Ms->AV
 |none=> .tup [yF ⟨0,[],[],[]⟩,iA 6]
 |some m=> .tup [yF m,iA 0]
theorem zRi (p:List Int) (hb:BY p) (hn:p.length<=100000):∃r:Option Ms,(∀m,r=some m->m.data.length<=100000)/\(sd= -1->gr=0->fx=1->r=(GW p).map λq=>⟨k,[],q.1,q.2⟩)/\zO 71 [iA k,zD yA p] [] (dsT r) []:=by
 have hl:=zA yA p;have cf:=dQ k;rw[zYb zB]at cf;have hV:=GV k hk fx gr hi sd c1 hf hg hh hs;have hP:=zFw k fx gr 0 hi sd c1 zB;have c2:=fF p fx hb hn zB
 cases hnb:aH fx p with
 | none=>
  refine⟨none,λm h=>(by cases h),λ_ _ h1=>?_,?_⟩
  ·subst h1;unfold GW;rw[hnb]
   split<;>rfl
  ·rw[hnb]at c2;unfold ME at c2
   show zO 71 [iA k,zD yA p] [] (.tup [yF ⟨0,[],[],[]⟩,iA 6]) []
   refine eM call71 λF hF=>?_
   (have zc1:=c1;have zc2:=cf;have zc3:=c2;(repeat' (first|refine uJ ?_|apply xL|apply wB|intro hc|(refine zE ?_;first|(refine yD ?_;first|(refine wJ [4,6,7] [0,1,4,5,6,7,93] Z ?_;(conv=>whnf);(try simp only[zYq,zX6]);refine vA tok Z Z Z Z Z Z (zN _ _ (λ_=>rfl)) Z Z Z zB Z ?_)|refine uE tok Z Z Z Z Z Z (zN _ _ (λ_=>rfl)) Z Z Z zB Z Z Z ?_))|fail))<;>clear zc1 zc2 zc3)
   exact zJ
 |some q=>
 obtain⟨a,r⟩:=q;obtain⟨ha,hbr,har,hsp⟩:=gF _ _ _ _ hb hnb
 have hpl:p.length=((a.map gW).flatten).length+r.length:=by
  have:=zY3 List.length hsp;rw[zX4]at this;exact this
 have hlr:=zA yA r;have hla:=zA iA a;have hrl:r.length<=100000:=by omega
 rw[hnb]at c2;unfold ME at c2
 rcases hg with rfl|hg
 ·have v2:=hP ⟨k,[],a,r⟩ 0 Z zW hrl har (by show a.length<=1000;omega) (λh=>absurd Z h) zB;obtain⟨b,hb1,v1⟩:=hV a r 0 har zB (.inr Z) hrl v2
  have e2:cP fx 0 0 ⟨k,[],a,r⟩=p:=by
   unfold cP;rw[zDi,hsp];simp
  rw[show((0:Nat):Int)=0 from Z,e2]at v2 hb1;have heq:=bW p;clear hV hP
  cases b with
  | false=>
   refine⟨none,λm h=>(by cases h),λh0 _ h1=>?_,?_⟩
   ·have:=(zYj.1 (hb1 h0).symm);subst h1;unfold GW;rw[zX3 zB];rfl
   ·clear hb1 e2 hsp hnb v2 heq
    show zO 71 [iA k,zD yA p] [] (.tup [yF ⟨0,[],[],[]⟩,iA 6]) []
    refine eM call71 λF hF=>?_
    (have zc1:=c1;have zc2:=cf;have zc3:=c2;have zc4:=v1;(repeat' (first|refine uJ ?_|apply xL|apply wB|intro hc|(refine zE ?_;first|(refine yD ?_;first|(refine wJ [4,6,7] [0,1,4,5,6,7,93] Z ?_;(conv=>whnf);(try simp only[zYq,zX6]);refine vA tok Z Z Z Z Z Z (zN _ _ (λ_=>rfl)) Z Z Z zB Z ?_)|refine uE tok Z Z Z Z Z Z (zN _ _ (λ_=>rfl)) Z Z Z zB Z Z Z ?_))|fail))<;>clear zc1 zc2 zc3 zc4)
    exact zJ
  | true=>
   refine⟨some ⟨k,[],a,r⟩,λm h=>by cases h;exact hrl,λh0 _ h1=>?_,?_⟩
   ·have:=(yDj.1 (hb1 h0).symm);subst h1;unfold GW;rw[zX2 zB,hnb];rfl
   ·clear hb1 e2 hsp hnb
    show zO 71 [iA k,zD yA p] [] (.tup [yF ⟨k,[],a,r⟩,iA 0]) []
    refine eM call71 λF hF=>?_
    (have zc1:=c1;have zc2:=cf;have zc3:=c2;have zc4:=v1;have zc5:=v2;(repeat' (first|refine uJ ?_|apply xL|apply wB|intro hc|(refine zE ?_;first|(refine yD ?_;first|(refine wJ [4,6,7] [0,1,4,5,6,7,93] Z ?_;(conv=>whnf);(try simp only[zYq,zX6]);refine vA tok Z Z Z Z Z Z (zN _ _ (λ_=>rfl)) Z Z Z zB Z ?_)|refine uE tok Z Z Z Z Z Z (zN _ _ (λ_=>rfl)) Z Z Z zB Z Z Z ?_))|fail))<;>clear zc1 zc2 zc3 zc4 zc5)
    exact zJ
 have no:zO 71 [iA k,zD yA p] [] (.tup [yF ⟨0,[],[],[]⟩,iA 6]) []->∃r:Option Ms,(∀m,r=some m->m.data.length<=100000)/\(sd= -1->gr=0->fx=1->r=(GW p).map λq=>⟨k,[],q.1,q.2⟩)/\zO 71 [iA k,zD yA p] [] (dsT r) []:=λh=>⟨none,λm h=>(by cases h),λ_ h=>zB,h⟩
 have c3:=fF r 1 hbr hrl zB
 cases hnc:aH 1 r with
 |none=>
  rw[hnc]at c3;unfold ME at c3;refine no ?_;clear hV hP no hsp hnb hnc;refine eM call71 λF hF=>?_
  (have zc1:=c1;have zc2:=cf;have zc3:=c2;have zc4:=c3;(repeat' (first|refine uJ ?_|apply xL|apply wB|intro hc|(refine zE ?_;first|(refine yD ?_;first|(refine wJ [4,6,7] [0,1,4,5,6,7,93] Z ?_;(conv=>whnf);(try simp only[zYq,zX6]);refine vA tok Z Z Z Z Z Z (zN _ _ (λ_=>rfl)) Z Z Z zB Z ?_)|refine uE tok Z Z Z Z Z Z (zN _ _ (λ_=>rfl)) Z Z Z zB Z Z Z ?_))|fail))<;>clear zc1 zc2 zc3 zc4)
  exact zJ
 |some q2=>
 obtain⟨cc,r2⟩:=q2;obtain⟨hc1,hbr2,hcr,hsp2⟩:=gF _ _ _ _ hbr hnc
 obtain⟨v,rfl⟩:∃v,cc=[v]:=by
  cases cc with
  |nil=>cases hc1
  |cons v cc=>cases cc with
   |nil=>exact⟨v,rfl⟩
   |cons w cc=>simp at hc1
 have hv0:=(hcr v zW).1
 have hrl2:r2.length<=100000:=by
  have:=zY3 List.length hsp2;rw[zX4]at this;omega
 rw[hnc]at c3;unfold ME at c3;by_cases hv3:hi<v
 ·refine no ?_;clear hV hP no hsp hnb hnc hsp2;refine eM call71 λF hF=>?_
  (have zc1:=c1;have zc2:=cf;have zc3:=c2;have zc4:=c3;(repeat' (first|refine uJ ?_|apply xL|apply wB|intro hc|(refine zE ?_;first|(refine yD ?_;first|(refine wJ [4,6,7] [0,1,4,5,6,7,93] Z ?_;(conv=>whnf);(try simp only[zYq,zX6]);refine vA tok Z Z Z Z Z Z (zN _ _ (λ_=>rfl)) Z Z Z zB Z ?_)|refine uE tok Z Z Z Z Z Z (zN _ _ (λ_=>rfl)) Z Z Z zB Z Z Z ?_))|fail))<;>clear zc1 zc2 zc3 zc4)
  exact zJ
 have hvg:v.toNat*gr<=48:=zY9 (yAz (show v.toNat<=16 by omega) (show gr<=3 by omega)) zV;have evg:((v.toNat*gr:Nat):Int)=v*(gr:Int):=by rw[yCt,yB0 zB]
 have c4:=fF r2 (v.toNat*gr) hbr2 hrl2 zB;have hm:0<=v*(gr:Int)/\v*(gr:Int)<=48:=by rw[<-evg];omega
 cases hnd:aH (v.toNat*gr) r2 with
 |none=>
  rw[hnd,evg]at c4;unfold ME at c4;refine no ?_;clear hV hP no hsp hnb hnc hsp2 evg hvg hnd;refine eM call71 λF hF=>?_
  (have zc1:=c1;have zc2:=cf;have zc3:=c2;have zc4:=c3;have zc5:=c4;(repeat' (first|refine uJ ?_|apply xL|apply wB|intro hc|(refine zE ?_;first|(refine yD ?_;first|(refine wJ [4,6,7] [0,1,4,5,6,7,93] Z ?_;(conv=>whnf);(try simp only[zYq,zX6]);refine vA tok Z Z Z Z Z Z (zN _ _ (λ_=>rfl)) Z Z Z zB Z ?_)|refine uE tok Z Z Z Z Z Z (zN _ _ (λ_=>rfl)) Z Z Z zB Z Z Z ?_))|fail))<;>clear zc1 zc2 zc3 zc4 zc5)
  exact zJ
 |some q3=>
 obtain⟨f,r3⟩:=q3;obtain⟨hfl3,hbr3,hfr,hsp3⟩:=gF _ _ _ _ hbr2 hnd;have hlf:=zA iA f;have hf12:f.length<=48:=by omega
 have hlr3:=zA yA r3
 have hrl3:r3.length<=100000:=by
  have:=zY3 List.length hsp3;rw[zX4]at this;omega
 rw[hnd,evg]at c4;unfold ME at c4;have hal:(a++f).length=fx+v.toNat*gr:=by rw[zX4,ha,hfl3]
 have har2:JU (a++f):=λx hx=>by
  rcases zYy.1 hx with h|h
  ·exact har x h
  ·exact hfr x h
 have v2:=hP ⟨k,[],a++f,r3⟩ v.toNat Z zW hrl3 har2 (by show(a++f).length<=1000;omega) (λ_=>hal) zB;obtain⟨b,_,v1⟩:=hV (a++f) r3 v.toNat har2 hal (.inl zB) hrl3 v2
 have hms:∀t:List Int,yF ⟨k,t,a++f,r3⟩= .agg [iA k,zD yA t,.sl false (a.map iA++f.map iA),zD yA r3]:=λt=>by
  rw[<-zYd];rfl
 rw[hms]at v1 v2;generalize cP fx gr v.toNat ⟨k,[],a++f,r3⟩=pl at*
 have hqq:eqY pl p=true∨eqY pl p=false:=by cases eqY pl p<;>simp
 cases b with
 |false=>
  refine no ?_;clear hV hP no hsp hnb hnc hsp2 evg hvg hnd v2 hms hal hfl3 hsp3 hqq;refine eM call71 λF hF=>?_
  (have zc1:=c1;have zc2:=cf;have zc3:=c2;have zc4:=c3;have zc5:=c4;have zc6:=v1;(repeat' (first|refine uJ ?_|apply xL|apply wB|intro hc|(refine zE ?_;first|(refine yD ?_;first|(refine wJ [4,6,7] [0,1,4,5,6,7,93] Z ?_;(conv=>whnf);(try simp only[zYq,zX6]);refine vA tok Z Z Z Z Z Z (zN _ _ (λ_=>rfl)) Z Z Z zB Z ?_)|refine uE tok Z Z Z Z Z Z (zN _ _ (λ_=>rfl)) Z Z Z zB Z Z Z ?_))|fail))<;>clear zc1 zc2 zc3 zc4 zc5 zc6)
  exact zJ
 |true=>
 rcases hqq with hqq|hqq
 ·refine⟨some ⟨k,[],a++f,r3⟩,λm h=>by cases h;exact hrl3,λ_ h=>zB,?_⟩
  show zO 71 [iA k,zD yA p] [] (.tup [yF ⟨k,[],a++f,r3⟩,iA 0]) []
  rw[hms];clear hV hP no hsp hnb hnc hsp2 evg hvg hnd hms hal hfl3 hsp3;refine eM call71 λF hF=>?_
  (have zc1:=c1;have zc2:=cf;have zc3:=c2;have zc4:=c3;have zc5:=c4;have zc6:=v1;have zc7:=v2;(repeat' (first|refine uJ ?_|apply xL|apply wB|intro hc|(refine zE ?_;first|(refine yD ?_;first|(refine wJ [4,6,7] [0,1,4,5,6,7,93] Z ?_;(conv=>whnf);(try simp only[zYq,zX6]);refine vA tok Z Z Z Z Z Z (zN _ _ (λ_=>rfl)) Z Z Z zB Z ?_)|refine uE tok Z Z Z Z Z Z (zN _ _ (λ_=>rfl)) Z Z Z zB Z Z Z ?_))|fail))<;>clear zc1 zc2 zc3 zc4 zc5 zc6 zc7)
  exact zJ
 ·refine no ?_;clear hV hP no hsp hnb hnc hsp2 evg hvg hnd hms hal hfl3 hsp3;refine eM call71 λF hF=>?_
  (have zc1:=c1;have zc2:=cf;have zc3:=c2;have zc4:=c3;have zc5:=c4;have zc6:=v1;have zc7:=v2;(repeat' (first|refine uJ ?_|apply xL|apply wB|intro hc|(refine zE ?_;first|(refine yD ?_;first|(refine wJ [4,6,7] [0,1,4,5,6,7,93] Z ?_;(conv=>whnf);(try simp only[zYq,zX6]);refine vA tok Z Z Z Z Z Z (zN _ _ (λ_=>rfl)) Z Z Z zB Z ?_)|refine uE tok Z Z Z Z Z Z (zN _ _ (λ_=>rfl)) Z Z Z zB Z Z Z ?_))|fail))<;>clear zc1 zc2 zc3 zc4 zc5 zc6 zc7)
  exact zJ
end
theorem SU:∀(n:Nat) (r:List Int) (a:Nat),r.length<=n->∀i,i<=(uP n r a).length->∃m,a<=wA a ((uP n r a).take i)/\wA a ((uP n r a).take i)<=a+r.length/\(r.drop (wA a ((uP n r a).take i)-a)).length<=m/\uP m (r.drop (wA a ((uP n r a).take i)-a)) (wA a ((uP n r a).take i))=(uP n r a).drop i
 |n,r,a,hn,0,_=>⟨n,zX7 _,Nat.le_add_right _ _,by rw[zYv];omega,by
  show uP n (r.drop (a-a)) a=uP n r a
  rw[yAa];rfl⟩
 |0,r,a,hn,i+1,hi=>by cases hi
 | n+1,r,a,hn,i+1,hi=>by
  cases hp:ZG r with
  |none=>
   have e:uP (n+1) r a=[]:=by rw[uP,hp]
   rw[e]at hi;cases hi
  | some q=>
   by_cases hc:q.1.code=0
   ·have e:uP (n+1) r a=⟨a,q.2,q.1⟩::uP n (r.drop q.2) (a+q.2):=by rw[uP,hp];exact zX3 hc
    obtain⟨_,hq,_⟩:=YT hp hc;have hq1:=QU hp;rw[e]at hi⊢;have hl:(r.drop q.2).length<=n:=by rw[zYv];omega
    obtain⟨m,h1,h2,h3,h4⟩:=SU n (r.drop q.2) (a+q.2) hl i LY;have ew:wA a ((⟨a,q.2,q.1⟩::uP n (r.drop q.2) (a+q.2)).take (i+1))=wA (a+q.2) ((uP n (r.drop q.2) (a+q.2)).take i):=rfl;rw[ew];generalize wA (a+q.2) ((uP n (r.drop q.2) (a+q.2)).take i)=w at *;rw[zYv]at h2;rw[yCc,show q.2+(w-(a+q.2))=w-a by omega]at h3 h4;exact⟨m,zB,zB,h3,h4⟩
   ·have e:uP (n+1) r a=[]:=by rw[uP,hp];exact zX2 hc
    rw[e]at hi;cases hi
def zFx {m:Nat} {r:List Int} {e:Nat} {p:Pc} {l:List Pc} (h:uP m r e=p::l):∃q,ZG r=some q/\q.1.code=0/\p=⟨e,q.2,q.1⟩:=by
 cases m with
 |zero=>cases h
 | succ m=>
  unfold uP at h;split at h
  ·cases h
  ·rename_i q hq;split at h
   ·rename_i hc;cases h;exact⟨q,hq,hc,rfl⟩
   ·cases h
def zMf {m:Nat} {r:List Int} {e:Nat} (hm:r.length<=m) (h:uP m r e=[]):∀q,ZG r=some q->q.1.code≠0:=λq hq hc=>by
 cases m with
 |zero=>
  rw[zYz (show r.length=0 by omega)]at hq;cases hq
 |succ m=>
  unfold uP at h;rw[hq]at h;dsimp only at h;rw[zX3 hc]at h;cases h
def KR (b:List Int) (i:Nat):List Int:=b.drop (whE ((uP b.length b 0).take i))
def zFy {b:List Int} {i:Nat} (h:i<(uP b.length b 0).length):∃q p,(uP b.length b 0)[i]? =some p/\ZG (KR b i)=some q/\q.1.code=0/\p.it=q.1/\p.k=q.2/\p.fr=whE ((uP b.length b 0).take i)/\KR b (i+1)=(KR b i).drop q.2:=by
 obtain⟨m,_,_,h3,h4⟩:=SU b.length b 0 (zX7 _) i zB;rw[yCe]at h3 h4;have e:wA 0 ((uP b.length b 0).take i)=whE ((uP b.length b 0).take i):=rfl;rw[e]at h3 h4;rw[yAe h]at h4;obtain⟨q,q1,q2,q3⟩:=zFx h4;have hg:(uP b.length b 0)[i]? =some (uP b.length b 0)[i]:=zYk h;refine⟨q,(uP b.length b 0)[i],hg,q1,q2,by rw[q3],by rw[q3],by rw[q3],?_⟩;unfold KR;rw[PS hg,q3,yCc]
def zRj (b:List Int):(∀q,ZG (KR b (uP b.length b 0).length)=some q->q.1.code≠0)/\(whF b=true↔KR b (uP b.length b 0).length=[]):=by
 obtain⟨m,h1,h2,h3,h4⟩:=SU b.length b 0 (zX7 _) (uP b.length b 0).length (zX7 _);rw[yCe]at h3 h4;rw[yBs]at h4;rw[zX6]at h2 h3 h4;have e:wA 0 (uP b.length b 0)=whE (uP b.length b 0):=rfl;rw[e]at h2 h3 h4;have er:KR b (uP b.length b 0).length=b.drop (whE (uP b.length b 0)):=by unfold KR;rw[zX6]
 rw[er];refine⟨zMf h3 h4,?_⟩;unfold whF;rw[yDj,List.drop_eq_nil_iff];omega
def zFz {b:List Int} (hb:BY b) (i:Nat):BY (KR b i)/\(KR b i).length<=b.length:=⟨λx hx=>hb x (zY1 hx),by unfold KR;rw[zYv];omega⟩
def whT (b:List Int):AV:=if whF b=true then .tup [zD (λp:Pc=>wO p.it) (uP b.length b 0),bA true]else .tup [.sl false [],bA false]
def zF0 (b:List Int) (hb:BY b) (hl:b.length<=100000):zO 70 [zD yA b] [] (whT b) []:=by
 have hR:=λi=>zFz hb i
 have kp:=λi=>zFv (KR b i) (hR i).1 (by have:=(hR i).2;omega)
 have hlb:=zA yA b;have hvl:=KU b.length b 0;have h0:KR b 0=b:=rfl;have hA:=λi (h:i<(uP b.length b 0).length)=>zFy h
 obtain⟨hE1,hE2⟩:=zRj b;unfold whT;generalize hL:uP b.length b 0=L at *;have hm:=λi=>zA (λp:Pc=>wO p.it) (L.take i)
 refine eM call70 λF hF=>?_
 refine WW ?_;refine xA 4 1001 3 Z Z Z ?_;refine zS (L.length) [1001] [] [] [0,4] Z (λi T U=>⟨(0,zD yA (KR b i))::(4,.ref 1001 0 ((L.take i).map λp:Pc=>wO p.it).length)::T,(1001,.arr 3 ((L.take i).map λp:Pc=>wO p.it) true)::U⟩) ?_;(conv=>whnf);refine⟨by rfl,?_,?_⟩
 ·intro i hi;obtain⟨q,p,p1,p2,p3,p4,_,_,p7⟩:=hA i hi;have kp:=kp i;have hrl:=(hR i).2;rw[p2]at kp;obtain⟨_,hq,_,_⟩:=YT p2 p3;have hq1:=QU p2;have hml:((L.take i).map λp:Pc=>wO p.it).length=i:=by rw[zX5,zYn];omega
  have e1:(L.take (i+1)).map (λp:Pc=>wO p.it)=(L.take i).map (λp:Pc=>wO p.it)++[wO q.1]:=by
   rw[yAj,p1,zYd,<-p4];rfl
  rw[p7,e1];obtain⟨⟨cd,kd,py⟩,n⟩:=q;dsimp only at *;subst p3;rw[show wO ⟨0,kd,py⟩= .agg [iA 0,iA kd,zD yA py]from Z,show(KR b i).drop n=(KR b i).drop ((n:Nat):Int).toNat by rw[zZp]];have kp:zO 105 [zD yA (KR b i)] [] (.tup [.agg [iA 0,iA kd,zD yA py],iA (n:Int),bA true]) []:=kp;clear hA hE1 hE2 p1 p2 p4 p7 e1 hm hR h0;generalize KR b i=r at *;have hrm:=zA yA r;generalize (L.take i).map (λp:Pc=>wO p.it)=X at *;refine WLo kp ?_;rfl
 ·rw[zX6];have kp:=kp L.length;have hrl:=(hR L.length).2;generalize KR b L.length=r at *;have hrm:=zA yA r;have hml:=zA (λp:Pc=>wO p.it) L;by_cases hr:r=[]
  ·rw[hE2.2 hr,zX3 Z];clear kp hE1 hE2 hA hR hm;subst hr;refine WW ?_;exact zI [] Z Z (zY3 (λz=>AV.tup [.sl false z,bA true]) zX6) Z
  ·rw[zX2 (λh=>hr (hE2.1 h))];have hr0:r.length≠0:=λh=>hr (zYz h)
   cases hp:ZG r with
   |none=>
    rw[hp]at kp;have kp:zO 105 [zD yA r] [] (.tup [.agg [iA 0,iA 0,.sl false []],iA 0,bA false]) []:=kp;clear hE1 hE2 hA hR hm;refine zY kp ?_;exact zJ
   |some q=>
    have hc:=hE1 q hp;rw[hp]at kp;obtain⟨⟨cd,kd,py⟩,n⟩:=q;dsimp only at hc;have kp:zO 105 [zD yA r] [] (.tup [.agg [iA cd,iA kd,zD yA py],iA (n:Int),bA true]) []:=kp;clear hE1 hE2 hA hR hm hp;refine zY kp ?_;exact zJ
end Av
end Go.Proofs.YteajjdidebfcjaaGreat
