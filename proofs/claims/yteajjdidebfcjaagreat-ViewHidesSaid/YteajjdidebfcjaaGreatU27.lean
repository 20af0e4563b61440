/- Part 27. -/
import Derived.Test.YteajjdidebfcjaaGreatU26
namespace Go.Proofs.YteajjdidebfcjaaGreat
namespace Av
open Tryz
set_option linter.all false
set_option maxRecDepth 4000
set_option maxHeartbeats 8000000
def zNr {b:List Int} {q:It×Nat} (h:UG b=some q) (hc:q.1.code=0):b.getD 0 0=90/\b.getD 1 0=165/\dG b<=200/\gN ((b.drop 2).take (dG b+4))=XS ((b.drop (dG b+6)).take 4)/\b.getD 2 0=1/\1<=b.getD 3 0/\b.getD 3 0<=22:=by
 have hg:=FW h hc;unfold UG at h;by_cases c1:b.length=0
 ·rw[yAd c1]at h;cases h
 rw[yAc c1]at h;by_cases c2:b.getD 0 0≠90∨(1<b.length/\b.getD 1 0≠165)
 ·rw[yAd c2]at h;cases h;cases hc
 rw[yAc c2]at h;by_cases c3:b.length<6
 ·omega
 rw[yAc c3]at h;by_cases c4:200<dG b
 ·rw[yAd c4]at h;cases h;cases hc
 rw[yAc c4]at h;by_cases c5:b.length<dG b+10
 ·omega
 rw[yAc c5]at h;by_cases c6:gN ((b.drop 2).take (dG b+4))≠XS ((b.drop (dG b+6)).take 4)
 ·rw[yAd c6]at h;cases h;cases hc
 rw[yAc c6]at h;by_cases c7:b.getD 2 0≠1
 ·rw[yAd c7]at h;cases h;cases hc
 rw[yAc c7]at h;by_cases c8:b.getD 3 0<1∨22<b.getD 3 0
 ·rw[yAd c8]at h;cases h;cases hc
 refine⟨?_,?_,zB,?_,?_,zB,zB⟩
 ·exact yB9 λh=>c2 (.inl h)
 ·exact yB9 λh=>c2 (.inr ⟨zB,h⟩)
 ·exact yB9 c6
 ·exact yB9 c7
def zZa {a b c d:Int} (ha:0<=a/\a<256) (hb:0<=b/\b<256) (hc:0<=c/\c<256) (hd:0<=d/\d<256):XS [a,b,c,d]=((a*256+b)*256+c)*256+d:=by
 unfold XS;simp only[yGb,List.foldl_nil];rw[fF (n:=0) (x:=a) ⟨zB,zB⟩ ha,fF (n:=0*256+a) (x:=b) ⟨zB,zB⟩ hb,fF (n:=(0*256+a)*256+b) (x:=c) ⟨zB,zB⟩ hc,fF (n:=((0*256+a)*256+b)*256+c) (x:=d) ⟨zB,zB⟩ hd];omega
def zTb (a c k:Nat) (hc:c<2 ^ k) (h:a*2 ^ k+c<4294967296):orU ((a*2 ^ k:Nat):Int) (c:Int)=((a*2 ^ k+c:Nat):Int):=by
 have h3:=yEb hc a;rw[yFm]at h3;rw[zCi (a*2 ^ k) c zB zB,<-h3]
def or4 {a b c d:Int} (ha:0<=a/\a<256) (hb:0<=b/\b<256) (hc:0<=c/\c<256) (hd:0<=d/\d<256):orU (orU (orU (IntKind.u32.wrap (a*2 ^ (min (24:Int).toNat IntKind.u32.bits))) (IntKind.u32.wrap (b*2 ^ (min (16:Int).toNat IntKind.u32.bits)))) (IntKind.u32.wrap (c*2 ^ (min (8:Int).toNat IntKind.u32.bits)))) d=XS [a,b,c,d]:=by
 have w:∀(x y:Int) (k:Nat),0<=x/\x<256->(2:Int) ^ k=y->0<=x*y/\x*y<4294967296->IntKind.u32.wrap (x*2 ^ k)=x*y:=λx y k _ h1 h2=>by rw[h1];exact u32_in h2
 rw[zZa ha hb hc hd,w a 16777216 _ ha xL zB,w b 65536 _ hb xL zB,w c 256 _ hc xL zB];obtain⟨a,rfl⟩:=yCa ha.1;obtain⟨b,rfl⟩:=yCa hb.1;obtain⟨c,rfl⟩:=yCa hc.1;obtain⟨d,rfl⟩:=yCa hd.1;have s:∀(x y z:Int) (m n k:Nat),x=((m*2 ^ k:Nat):Int)->y=(n:Int)->n<2 ^ k->m*2 ^ k+n<4294967296->z=((m*2 ^ k+n:Nat):Int)->orU x y=z:=λx y z m n k e1 e2 h1 h2 e3=>by rw[e1,e2,e3];exact zTb m n k h1 h2
 rw[s ((a:Int)*16777216) ((b:Int)*65536) ((a:Int)*16777216+b*65536) a (b*65536) 24 zB zB zB zB zB,
  s ((a:Int)*16777216+b*65536) ((c:Int)*256) ((a:Int)*16777216+b*65536+c*256) (a*256+b) (c*256) 16 zB zB zB zB zB,
  s ((a:Int)*16777216+b*65536+c*256) (d:Int) ((a:Int)*16777216+b*65536+c*256+d) ((a*256+b)*256+c) d 8 zB zB zB zB zB]
 omega
def zW3 (l:List Int) (i:Nat) (h:i+4<=l.length):(l.drop i).take 4=[l.getD i 0,l.getD (i+1) 0,l.getD (i+2) 0,l.getD (i+3) 0]:=by
 apply yBj;intro j;rw[yBr];have g:∀k,k<l.length->l[k]? =some (l.getD k 0):=λk hk=>by rw[yAk,yAr hk];rfl
 match j with
 |0=>rw[yAd zB,yB3,g _ zB];rfl
 |1=>rw[yAd zB,yB3,g _ zB];rfl
 |2=>rw[yAd zB,yB3,g _ zB];rfl
 |3=>rw[yAd zB,yB3,g _ zB];rfl
 |j+4=>rw[yAc zB];rfl
theorem zG0 (b:List Int) (hb:BY b) (hl:b.length<=1000000) {q:It×Nat} (hq:UG b=some q) (hc:q.1.code=0):zN 105 [zC yA b] [] (.tup [wI q.1,iA q.2,bA true]) []:=by
 have hlb:=zA yA b;obtain⟨i0,i1,iN,ic,i2,i3,i4⟩:=zNr hq hc;obtain⟨eq,hn⟩:=FW hq hc;rw[eq];clear eq hq hc;obtain⟨y0,_⟩:=AO b hb 0 zB;obtain⟨y1,_⟩:=AO b hb 1 zB;obtain⟨y2,_⟩:=AO b hb 2 zB;obtain⟨y3,z3⟩:=AO b hb 3 zB;obtain⟨y4,z4⟩:=AO b hb 4 zB;obtain⟨y5,z5⟩:=AO b hb 5 zB;obtain⟨y6,z6⟩:=AO b hb (dG b+6) zB;obtain⟨y7,z7⟩:=AO b hb (dG b+7) zB;obtain⟨y8,z8⟩:=AO b hb (dG b+8) zB;obtain⟨y9,z9⟩:=AO b hb (dG b+9) zB;rw[i0]at y0;rw[i1]at y1;rw[i2]at y2;have hor:=or8 z4 z5;have hpn:b.getD 4 0*256+b.getD 5 0=(dG b:Int):=by unfold dG;omega
 rw[hpn]at hor;rw[zW3 b (dG b+6) zB]at ic;have hs:=or4 z6 z7 z8 z9;have hu:=zI9 ((b.drop 2).take (dG b+4));have bd:∀i k,BY ((b.drop i).take k):=λi k x hx=>hb x (yBc (yBy hx))
 generalize b.getD 4 0=x4 at *;generalize b.getD 5 0=x5 at *;generalize hN:dG b=N at *;have kc:=zI8 ((b.drop 2).take (N+4)) zJx (bd _ _);rw[ic]at kc
 have e1:((b.map yA).drop (2:Int).toNat).take (((N:Int)+6).toNat-(2:Int).toNat)=((b.drop 2).take (N+4)).map yA:=by
  rw[yDh,yDg,show((N:Int)+6).toNat-(2:Int).toNat=N+4 by omega];rfl
 have e3:((b.map yA).drop (6:Int).toNat).take (((N:Int)+6).toNat-(6:Int).toNat)=((b.drop 6).take N).map yA:=by
  rw[yDh,yDg,show((N:Int)+6).toNat-(6:Int).toNat=N by omega];rfl
 have hpl:(((b.drop 6).take N).map yA).length=N:=by rw[yAe,yAw,yA7];omega
 have hph:∀y,(((b.drop 6).take N).map yA)[0]? =some y->y.cells.length=1:=yC _ _ (λ_=>rfl);clear ic;generalize (b.drop 2).take (N+4)=B1 at *;generalize (b.drop 6).take N=B3 at *;clear bd hu;generalize b.getD 3 0=x3 at *;generalize b.getD (N+6) 0=x6 at *;generalize b.getD (N+7) 0=x7 at *;generalize b.getD (N+8) 0=x8 at *;generalize b.getD (N+9) 0=x9 at *;refine eM call105 λF hF=>?_
 (repeat' (first|(refine zE ?_;first|((refine wE ?_;first|refine yJ (UU Z Z) Z ?_|refine yJ (zC8 Z Z) Z ?_);(try rw[hor]);(try rw[hs]))|refine vF tok Z Z ?_|(refine xT ?_;(first|(refine vR 65 ?_;first|refine yJ (zI (kc) Z Z Z Z Z) Z ?_|refine uT (zI (kc) Z Z Z Z Z) Z Z Z ?_|refine XF (zI (kc) Z Z Z Z Z) Z Z Z ?_)))|(refine ZW ?_;first|refine zP4 Z Z ?_|refine zDm Z Z Z Z ?_|(refine dO Z Z (λhc=>?_) λhc=>?_<;>(try simp only[qT,yAm,yAy,yBw,yCs,yD3,yCy,yBm,yB0,yEr,yEq,yDs]at hc)))|(refine wE ?_;first|refine yJ (XB Z Z Z (by unfold NI;omega)) Z ?_|refine yJ (XC Z Z Z (by unfold NI;omega)) Z ?_|refine yJ (PQ Z Z Z) Z ?_|refine yJ (aO Z Z ⟨zB,zB⟩) Z ?_|refine yJ (PW Z Z ⟨zB,zB⟩) Z ?_|refine yJ (aP Z Z ⟨zB,zB⟩) Z ?_|refine yJ (PX Z Z QY zB) Z ?_|refine yJ (PY Z Z zB) Z ?_|refine yJ (OA Z Z) Z ?_|refine yJ (UX Z Z zB) Z ?_|refine yJ (UY Z Z zB) Z ?_|refine yJ (kE (.inl ⟨rfl,rfl⟩) Z Z zB) Z ?_|refine yJ (kE (.inr ⟨rfl,rfl⟩) Z Z zB) Z ?_|refine yJ (jT tok Z Z Z Z (.inl ⟨rfl,rfl⟩)) Z ?_|refine yJ (jT tok Z Z Z Z (.inr ⟨rfl,rfl⟩)) Z ?_|refine yJ (aT tok (.inl ⟨rfl,rfl⟩) Z Z Z) Z ?_|refine yJ (yS tok (.inl ⟨rfl,rfl⟩) Z Z Z Z) Z ?_|refine yJ (UT Z Z) Z ?_|refine yJ (UU Z Z) Z ?_|refine yJ (UV Z Z) Z ?_|refine yJ (aU Z Z QY) Z ?_|refine yJ (bI Z Z) Z ?_|refine yJ (aV Z Z QY) Z ?_|refine yJ (bJ Z Z) Z ?_)|(refine HJ ?_;first|refine yJ (jE tok Z Z Z Z Z zB kK Z Z) Z ?_|refine yJ (kX tok Z Z Z Z Z Z zB zB Z) Z ?_|refine yJ (kJ tok Z Z Z Z Z Z zB zB) Z ?_)|(refine PU ?_;first|refine yJ (eK tok Z Z Z kK Z) Z ?_|refine yJ (eJ tok Z Z Z kK Z) Z ?_|refine yJ (gZ tok Z Z Z Z kK Z) Z ?_|refine yJ (gY tok Z Z Z Z kK Z) Z ?_)|(refine HL ?_;first|refine yJ (kI tok Z Z Z Z Z Z Z Z) Z ?_|refine yJ (jD tok Z kK Z Z Z Z Z Z) Z ?_)|(refine yK ?_;first|refine xU tok Z Z Z Z Z Z Z (by first|(intro y hy;cases hy;rfl)|exact yC _ _ (λ_=>rfl)) Z Z Z (by first|omega|(simp;done)|(simp;omega)) Z ?_|refine uX tok Z Z Z Z Z Z Z Z Z Z Z (by first|(intro y hy;cases hy;rfl)|exact yC _ _ (λ_=>rfl)) (by first|omega|(simp;done)|(simp;omega)) Z ?_)|(refine QJ ?_;first|refine yJ (OB Z ⟨zB,zB⟩) Z ?_)|(refine PR ?_;first|refine yJ (cJ tok Z Z Z Z ⟨zB,zB⟩) Z ?_|refine yJ (ZX tok Z Z Z Z) Z ?_|refine yJ (cL tok Z Z Z Z Z Z Z kK) Z ?_)|(refine uR ?_;first|refine aK tok Z Z Z Z Z (by first|(intro y hy;cases hy;rfl)|exact yC _ _ (λ_=>rfl)|assumption|(simp;done)) zB wF zDn Z ?_|refine RR tok Z Z Z Z Z (by first|(intro y hy;cases hy;rfl)|exact yC _ _ (λ_=>rfl)|assumption|(simp;done)) zB wF zDo Z ?_|refine PS tok Z Z Z Z Z Z (by first|(intro y hy;cases hy;rfl)|exact yC _ _ (λ_=>rfl)|assumption|(simp;done)) zB zB (by first|omega|(simp;omega)) zDp Z ?_)|refine SL ?_|(refine RN ?_;refine yJ (uI Z Z Z) Z ?_)|refine aH tok Z Z Z Z ?_|(refine cU ?_;first|refine GC tok Z Z Z Z Z Z ?_|refine cI tok Z Z Z ?_|refine HE tok Z Z Z kK Z Z Z Z Z Z ?_|refine RO tok Z Z Z kK Z Z Z Z Z Z Z Z ?_)|refine uQ ?_|refine VM WA ?_)|first|refine SR ?_|refine SK (I2 (λhc=>?_) λhc=>?_)|refine SK λhc=>?_|fail))
 exact zH [] Z Z (yBa (λz=>AV.tup [.agg [iA 0,iA x3,zC yA B3],iA z,bA true]) (show(N:Int)+10=((N+10:Nat):Int) by omega)) Z
def zG1:zN 105 [zC yA []] [] (.tup [wI ⟨0,0,[]⟩,iA 0,bA false]) []:=by
 refine eM call105 λF hF=>?_
 refine WW ?_;exact zJ
def zG2 (l:List Ms) (i:Nat):(qN l).drop (qN (l.take i)).length=qN (l.drop i):=by
 have e:qN l=qN (l.take i)++qN (l.drop i):=by
  unfold qN;rw[<-yCv,<-yAn,yC2]
 rw[e,yEj]
theorem zNs (l:List Ms) (hl:l.length<=1002) (h:∀m∈l,bS m):zN 72 [.agg [zC yA (qN l),bA false],iA (((qN l).length:Int)+1)] [] (.tup [.agg [.sl false [],bA false],zC (λm=>wI (RA m).1) l]) []:=by
 have hb:=WJ h;have hbl:=aX h;have hlm:=zA yA (qN l)
 have hlt:l.length<=(qN l).length:=by
  clear hl hb hbl hlm
  induction l with
  |nil=>exact yAt _
  |cons m l ih=>
   have i1:=ih λx hx=>h x RS
   have g:=(zAe (h m zS)).1;have g1:=PH g;have e:(qN (m::l)).length=(bT m).length+(qN l).length:=by show(bT m++qN l).length=_;rw[yAf]
   dsimp only at g1;rw[e,yAp];omega
 have hd:=λi=>zG2 l i
 have hs:∀i,(qN (l.take i)).length<=(qN l).length:=λi=>by
  have:=yBa List.length (hd i);rw[yA7]at this
  have e:qN l=qN (l.take i)++qN (l.drop i):=by
   unfold qN;rw[<-yCv,<-yAn,yC2]
  rw[e,yAf];omega
 have hk:=zG1;refine eM call72 λF hF=>?_
 refine WW ?_;refine xC 6 1001 3 Z Z Z ?_;have hn0:(qN ([]:List Ms)).length=0:=rfl;refine zO (l.length) [1001,2,4] [2,4] [1,2,4] [6,7,8,1,2,4] Z (λi T U=>⟨(6,.ref 1001 0 ((l.take i).map λm=>wI (RA m).1).length)::(7,iA ((qN (l.take i)).length:Nat))::(8,bA false)::T,(1001,.arr 3 ((l.take i).map λm=>wI (RA m).1) true)::U⟩) ?_;(conv=>whnf);refine⟨by rfl,?_,?_⟩
 ·intro i hi;obtain⟨x,hx⟩:∃x,l[i]? =some x:=⟨l[i],yAr hi⟩;have hxl:x∈l:=yBp hx;have g:=zAe (h x hxl);have e1:l.take (i+1)=l.take i++[x]:=by rw[yCt,hx];rfl
  have e2:l.drop i=x::l.drop (i+1):=by
   rw[yCw hi];rw[yAr hi]at hx;rw[yCr hx]
  have e3:qN (l.drop i)=bT x++qN (l.drop (i+1)):=by rw[e2];rfl
  have hq:=(JU g.1 g.2 (qN (l.drop (i+1)))).1;rw[show((RA x).1,(bT x).length).2=(bT x).length from Z,yAh,<-e3]at hq;have hdl:(qN (l.drop i)).length<=(qN l).length:=by rw[<-hd i,yA7];omega
  have kp:=zG0 (qN (l.drop i)) (WJ λm hm=>h m (yBc hm)) zB hq g.2;have hn:=hs i;have hn1:=hs (i+1);rw[e1,YQ,yAf]at hn1;rw[e1,YQ,yAf,yAn,show [x].map (λm=>wI (RA m).1)=[.agg [iA 0,iA x.kind,zC yA (pyM x)]]from Z];rw[<-hd i,show wI ((RA x).1,(bT x).length).1= .agg [iA 0,iA x.kind,zC yA (pyM x)]from Z]at kp;have hml:((l.take i).map λm=>wI (RA m).1).length=i:=by rw[yAe,yAw];omega
  rw[yFq];clear hd hs hk g hq e1 e2 e3 hdl hx hxl h;generalize (qN (l.take i)).length=n at *;rw[show(qN l).drop n=(qN l).drop ((n:Nat):Int).toNat by rw[yBq]]at kp;generalize ((l.take i).map λm=>wI (RA m).1)=X at *;generalize pyM x=py at *;generalize (bT x).length=k at *;generalize qN l=B at *;refine WLo kp ?_;rfl
 ·have hml:((l.take l.length).map λm=>wI (RA m).1).length=l.length:=by rw[yAe,yAw];omega
  rw[yAh]at hml⊢;rw[show([]:List Int)=(qN l).drop (((qN l).length:Nat):Int).toNat by rw[yBq,yDp]]at hk;generalize hX:(l.map λm=>wI (RA m).1)=X at *;have hz:(qN l).drop (((qN l).length:Nat):Int).toNat=[]:=by rw[yBq,yDp]
  clear hd hs h;generalize hn:(qN l).length=n at *;generalize qN l=B at *;refine WLo hk ?_;refine zH [] Z Z ?_ Z;rw[show zC (λm=>wI (RA m).1) l= .sl false X by rw[<-hX];rfl]
  show AV.tup [.agg [.sl false ((B.drop (n:Int).toNat).map yA),bA false],.sl false (List.take X.length (List.drop 0 X))]=_
  rw[hz,yBf,yAh];rfl
def zG3 (l:List Ms) (hl:l.length<=1002) (h:∀m∈l,bS m):zN 35 [zC yA (qN l)] [] (zC (λm=>wI (RA m).1) l) []:=by
 have k:=zNs l hl h;have hbl:=aX h;have hlm:=zA yA (qN l);rw[<-hlm]at k;generalize qN l=B at *;generalize (l.map λm=>wI (RA m).1)=X at *;refine eM call35 λF hF=>?_
 refine zV k ?_;exact zJ
def UI (l:List Int) (hn:l.length<=1000000):zN 73 [zC iA l,zC iA l] [] (bA true) []:=by
 have hl:=zA iA l;refine eM call73 λF hF=>?_
 refine WW ?_;refine yM (l) [] [] [1,12,13] [14,1,12,13] Z (λi pre T U=>⟨(14,iA i)::T,U⟩) ?_;(conv=>whnf);refine⟨by rfl,?_,?_⟩
 ·intro i pre x post hx hi;have hy:=xG iA hx hi;have hlt:=yP hx hi;clear hx;refine WW ?_
  all_goals (first|rfl|(exfalso;first|(simp[qZ]at hc;done)|(revert hc;simp[qZ];done)))
 ·(refine WW ?_)
  exact zJ
def FS (l:List Vw) (hn:l.length<=1000) (hb:∀v∈l,v.co.length<=1000/\v.cn.length<=1000):zN 38 [zC vA l,zC vA l] [] (bA true) []:=by
 have hl:=zA vA l;refine eM call38 λF hF=>?_
 refine WW ?_;refine yM (l) [] [] [1,13,14] [15,1,13,14] Z (λi pre T U=>⟨(15,iA i)::T,U⟩) ?_;(conv=>whnf);refine⟨by rfl,?_,?_⟩
 ·intro i pre x post hx hi;have hy:=xG vA hx hi;have hlt:=yP hx hi;obtain⟨B1,B2⟩:=hb x (wT hx);have k1:=UI x.co zB;have k2:=UI x.cn zB;clear hx;obtain⟨fl,ov,co,cn⟩:=x;dsimp only at *;unfold vA at hy
  cases fl<;>cases ov
  all_goals
   refine yQ (wV k1 k2) ?_;rfl
 ·(refine WW ?_)
  exact zJ
def zNt (c:Cf) (hw:QP c.ags) (n:Nat) (hn:n<=c.ags.length):zN 37 [wD c,iA n] [] (iA (vM c.ags n)) []:=by
 have hal:=zA wK c.ags;have h4:=hw.1;unfold wD zC;refine eM call37 λF hF=>?_
 refine WW ?_;refine yM (c.ags) [] [] [1,9,10] [5,11,1,9,10] Z (λi pre T U=>⟨(5,iA (vM c.ags (min i n)))::(11,iA i)::T,U⟩) ?_;(conv=>whnf);refine⟨by(rw[Nat.zero_min];rfl),?_,?_⟩
 ·intro i pre x post hx hi;have hy:=xG wK hx hi;have hlt:=yP hx hi;have hse:=hw.at (i:=i) hlt;have hb:=kQ hw (min i n) zB
  have hgd:c.ags.getD i default=x:=by
   rw[yAk,hx,<-hi,yA4 (yAg _),yCm];rfl
  rw[hgd]at hse;unfold wK at hy;by_cases h:i<n
  ·rw[show min (i+1) n=i+1 by omega,show min i n=i by omega]at *; rw[show vM c.ags (i+1)=vM c.ags i+x.ses by rw[<-hgd];rfl];clear hx hgd;generalize vM c.ags i=u at *;refine WW ?_;rfl
  ·rw[show min (i+1) n=n by omega,show min i n=n by omega]at *; clear hx hgd;generalize vM c.ags n=u at *;refine WW ?_;rfl
 ·rw[show min c.ags.length n=n by omega];refine WW ?_;exact zJ
def AL (c:Cf) (a:Nat) (P:List (List (List Int)×List Int)):List (List (List Int)):=P.map λp=>(p.1.drop (vM c.ags a).toNat).take (c.ags.getD a default).ses.toNat
def zCe (c:Cf) (hw:QP c.ags) (a:Nat) (ha:a<c.ags.length) (P:List (List (List Int)×List Int)) (hP:P.length<=1000) (hl:∀p∈P,p.1.length<=1000/\vM c.ags a+(c.ags.getD a default).ses<=(p.1.length:Int)):
  zN 22 [wD c,iA a,zC sdP P] [] (.tup [zC (zC (zC yA)) (AL c a P),bA true]) []:=by
 have kb:=zNt c hw a zB;have hal:=zA wK c.ags;have hpl:=zA sdP P;have h4:=hw.1;have hse:=hw.at (i:=a) ha;have hb:=kQ hw a zB;have hya:=yN wK c.ags (a:Int) zB zB;rw[yBq]at hya;unfold AL;generalize vM c.ags a=u at *;generalize c.ags.getD a default=ag at *;unfold wK at hya;unfold wD at *;refine eM call22 λF hF=>?_
 refine zV kb ?_;refine xC 8 1001 1 Z Z Z ?_;refine yM (P) [1001] [] [9,10,22,23] [8,24,9,10,22,23] Z (λi pre T U=>⟨(8,.ref 1001 0 ((pre.map λp=>(p.1.drop u.toNat).take ag.ses.toNat).map (zC (zC yA))).length)::(24,iA i)::T,(1001,.arr 1 ((pre.map λp=>(p.1.drop u.toNat).take ag.ses.toNat).map (zC (zC yA))) true)::U⟩) ?_;(conv=>whnf);refine⟨by rfl,?_,?_⟩
 ·intro i pre x post hx hi;have hy:=xG sdP hx hi;have hlt:=yP hx hi;have hpl:pre.length<=P.length:=by rw[hx];simp
  obtain⟨l1,l2⟩:=hl x (wT hx);have hxm:=zA (zC yA) x.1;have hXl:((pre.map λp=>(p.1.drop u.toNat).take ag.ses.toNat).map (zC (zC yA))).length=pre.length:=by rw[yAe,yAe]
  have e1:((x.1.map (zC yA)).drop u.toNat).take ((u+ag.ses).toNat-u.toNat)=((x.1.drop u.toNat).take ag.ses.toNat).map (zC yA):=by
   rw[yDh,yDg,show(u+ag.ses).toNat-u.toNat=ag.ses.toNat by omega]
  rw[yAn,yAn,show([x].map λp=>(p.1.drop u.toNat).take ag.ses.toNat).map (zC (zC yA))=[.sl false (((x.1.drop u.toNat).take ag.ses.toNat).map (zC yA))]from Z];rw[show sdP x= .agg [.sl false (x.1.map (zC yA)),zC yA x.2]from Z]at hy;clear hx hl;generalize (pre.map λp=>(p.1.drop u.toNat).take ag.ses.toNat).map (zC (zC yA))=X at *;generalize ((x.1.drop u.toNat).take ag.ses.toNat).map (zC yA)=z at*
  (repeat' (first|refine ZJ ?_|apply xM|apply xZ|intro hc|(refine zE ?_;first|(refine yV ?_;refine qS tok Z Z ?_))|refine SB ?_|fail))
  rfl
 ·(refine WW ?_)
  refine zH [] Z Z (yBa (λz=>AV.tup [AV.sl false z,bA true]) ?_) Z;exact yAh
def zNu (X:List (List (List Int))) (hX:X.length<=1000) (hx:∀x∈X,x.length<=1000):zN 23 [zC (zC (zC yA)) X,zC (zC (zC yA)) X] [] (bA true) []:=by
 have hl:=zA (zC (zC yA)) X;refine eM call23 λF hF=>?_
 refine WW ?_;refine yM (X) [] [] [1,14,15] [16,1,14,15] Z (λi pre T U=>⟨(16,iA i)::T,U⟩) ?_;(conv=>whnf);refine⟨by rfl,?_,?_⟩
 ·intro i pre x post hx9 hi;have hy:=xG (zC (zC yA)) hx9 hi;have hlt:=yP hx9 hi;have hxl:=hx x (wT hx9);have hxm:=zA (zC yA) x;clear hx9;rw[show zC (zC yA) x= .sl false (x.map (zC yA))from Z]at hy;refine WW ?_;refine yM (x) [] [] [1,5,14,15,16,29,30] [31,1,5,14,15,16,29,30] Z (λi pre T U=>⟨(31,iA i)::T,U⟩) ?_;(conv=>whnf);refine⟨by rfl,?_,?_⟩
  ·intro k pre z post hz hk;have hyk:=xG (zC yA) hz hk;have hltk:=yP hz hk;have f2:=qZ z;clear hz;unfold zC at hyk;refine WW ?_
   all_goals (first|rfl|(exfalso;first|(simp[qZ]at hc;done)|(revert hc;simp[qZ];done)))
  ·(refine WW ?_)
   rfl
 ·(refine WW ?_)
  exact zJ
def zAa {α:Type} [Inhabited α] {l m:List α} (h:l.length=m.length) (hn:l≠m):∃k,k<l.length/\(∀i,i<k->m.getD i default=l.getD i default)/\m.getD k default≠l.getD k default:=by
 have hex:∃k,k<l.length/\m.getD k default≠l.getD k default:=by
  refine yB9 λhc=>hn (yBj λi=>?_)
  by_cases hi:i<l.length
  ·have h1:m.getD i default=l.getD i default:=yB9 λh9=>hc ⟨i,hi,h9⟩
   rw[yAk,yAk,yAr hi,yAr zB]at h1;rw[yAr hi,yAr zB];exact yBa some h1.symm
  ·rw[yA1 zB,yA1 zB]
 obtain⟨k0,h0⟩:=hex;obtain⟨k,_,h1,h2⟩:=zBn (P:=λk=>k<l.length/\m.getD k default≠l.getD k default) k0 h0;exact⟨k,h1.1,λi hi=>yB9 λh9=>h2 i hi ⟨zB,h9⟩,h1.2⟩
def FT (l m:List Int) (hn:l.length<=1000000) (hm:m.length<=1000000) (hne:l≠m):zN 73 [zC iA l,zC iA m] [] (bA false) []:=by
 have hl:=zA iA l;have hml:=zA iA m;by_cases hlen:l.length=m.length
 case neg=>
  refine eM call73 λF hF=>?_
  refine WW ?_;exact zJ
 obtain⟨k,hk,hs,hd⟩:=zAa hlen hne;have yl:=λi hi=>zM iA l i hi
 have ym:=λi hi=>zM iA m i hi
 refine eM call73 λF hF=>?_
 refine WW ?_;refine zO (k) [] [] [1,12,13] [14,1,12,13] Z (λi T U=>⟨(14,iA i)::T,U⟩) ?_;(conv=>whnf);refine⟨by rfl,?_,?_⟩
 ·intro i hi;have y1:=yl i zB;have y2:=ym i zB;rw[hs i hi]at y2;generalize l.getD i default=x at *;refine WW ?_
  all_goals (first|rfl|(exfalso;first|(simp[qZ]at hc;done)|(revert hc;simp[qZ];done)))
 ·have y1:=yl k hk;have y2:=ym k zB;generalize l.getD k default=x at *;generalize m.getD k default=z at *;refine WW ?_;exact zJ
def VwL (l:List Vw):Prop:=l.length<=1000/\∀v∈l,v.co.length<=1000/\v.cn.length<=1000
def zEx (l m:List Vw) (hn:VwL l) (hm:VwL m) (hne:l≠m):zN 38 [zC vA l,zC vA m] [] (bA false) []:=by
 obtain⟨hn,hb⟩:=hn;obtain⟨hm,hc⟩:=hm;have hl:=zA vA l;have hml:=zA vA m;by_cases hlen:l.length=m.length
 case neg=>
  refine eM call38 λF hF=>?_
  refine WW ?_;exact zJ
 obtain⟨k,hk,hs,hd⟩:=zAa hlen hne;have yl:=λi hi=>zM vA l i hi
 have ym:=λi hi=>zM vA m i hi
 refine eM call38 λF hF=>?_
 refine WW ?_;refine zO (k) [] [] [1,13,14] [15,1,13,14] Z (λi T U=>⟨(15,iA i)::T,U⟩) ?_;(conv=>whnf);refine⟨by rfl,?_,?_⟩
 ·intro i hi;have y1:=yl i zB;have y2:=ym i zB;rw[hs i hi]at y2;obtain⟨B1,B2⟩:=hb _ (zQ l i zB);generalize l.getD i default=x at *;have k1:=UI x.co zB;have k2:=UI x.cn zB;obtain⟨fl,ov,co,cn⟩:=x;dsimp only at *;unfold vA at y1 y2
  cases fl<;>cases ov
  all_goals
   refine yQ (wV k1 k2) ?_;rfl
 ·have y1:=yl k hk;have y2:=ym k zB;obtain⟨B1,B2⟩:=hb _ (zQ l k hk);obtain⟨C1,C2⟩:=hc _ (zQ m k zB);generalize l.getD k default=x at *;generalize m.getD k default=z at *;obtain⟨fl,ov,co,cn⟩:=x;obtain⟨fl',ov',co',cn'⟩:=z;dsimp only at *;unfold vA at y1 y2;by_cases h1:fl=fl'
  case neg=>
   cases fl<;>cases fl'
   all_goals first|exact absurd Z h1|skip
   all_goals
    refine WW ?_;exact zJ
  subst h1;by_cases h2:ov=ov'
  case neg=>
   cases fl<;>cases ov<;>cases ov'
   all_goals first|exact absurd Z h2|skip
   all_goals
    refine WW ?_;exact zJ
  subst h2;by_cases h3:co=co'
  case neg=>
   have k1:=FT co co' zB zB h3
   cases fl<;>cases ov
   all_goals
    refine zV k1 ?_;exact zJ
  subst h3;have k1:=UI co zB;have k2:=FT cn cn' zB zB (λh4=>hd (by rw[h4]))
  cases fl<;>cases ov
  all_goals
   refine yQ (wV k1 k2) ?_;exact zJ
def zNv (V W:List (List Vw)) (hV:V.length<=1000) (hW:W.length<=1000) (bV:∀v∈V,VwL v) (bW:∀v∈W,VwL v):∃s:Bool,(s=true->V=W)/\zN 34 [zC vsA V,zC vsA W] [] (bA s) []:=by
 have hl:=zA vsA V;have hml:=zA vsA W;have yl:=λi hi=>zM vsA V i hi
 have ym:=λi hi=>zM vsA W i hi
 by_cases hne:V=W
 ·subst hne;refine⟨true,λ_=>rfl,?_⟩;refine eM call34 λF hF=>?_
  refine WW ?_;refine zO (V.length) [] [] [1,12,13] [14,1,12,13] Z (λi T U=>⟨(14,iA i)::T,U⟩) ?_;(conv=>whnf);refine⟨by rfl,?_,?_⟩
  ·intro i hi;have y1:=yl i hi;have B:=bV _ (zQ V i hi);generalize V.getD i default=x at *;have k1:=FS x B.1 B.2;unfold vsA at y1;refine zV k1 ?_;rfl
  ·(refine WW ?_)
   exact zJ
 refine⟨false,λh=>(by cases h),?_⟩;by_cases hlen:V.length=W.length
 case neg=>
  refine eM call34 λF hF=>?_
  refine WW ?_;exact zJ
 obtain⟨k,hk,hs,hd⟩:=zAa hlen hne;refine eM call34 λF hF=>?_
 refine WW ?_;refine zO (k) [] [] [1,12,13] [14,1,12,13] Z (λi T U=>⟨(14,iA i)::T,U⟩) ?_;(conv=>whnf);refine⟨by rfl,?_,?_⟩
 ·intro i hi;have y1:=yl i zB;have y2:=ym i zB;rw[hs i hi]at y2;have B:=bV _ (zQ V i zB);generalize V.getD i default=x at *;have k1:=FS x B.1 B.2;unfold vsA at y1 y2;refine zV k1 ?_;rfl
 ·have y1:=yl k hk;have y2:=ym k zB;have B:=bV _ (zQ V k hk);have C:=bW _ (zQ W k zB);generalize V.getD k default=x at *;generalize W.getD k default=z at *;have k1:=zEx x z B C (λh=>hd h.symm);unfold vsA at y1 y2;refine zV k1 ?_;exact zJ
def zZb (x y:List Int):Prop:=∃L M:List Ms,x=qN L/\y=qN M/\(∀m∈L,bS m)/\(∀m∈M,bS m)/\L.length<=1002/\M.length=L.length/\x.length=y.length/\AN x=AN y
structure zZc (c:Cf) (h:Int) (P Q:List (List (List Int)×List Int)) (V W:List (List Vw)):Prop where
 pl:P.length<=400
 ql:Q.length=P.length
 vl:V.length<=400
 wl:W.length<=400
 vb:∀v∈V,VwL v
 wb:∀v∈W,VwL v
 p:∀p∈P,p.1.length<=1000/\∀a,a<c.ags.length->vM c.ags a+(c.ags.getD a default).ses<=(p.1.length:Int)
 q:∀p∈Q,p.1.length<=1000/\∀a,a<c.ags.length->vM c.ags a+(c.ags.getD a default).ses<=(p.1.length:Int)
 x:∀a:Nat,a<c.ags.length->(a:Int)≠h->∀i,i<P.length->((AL c a P).getD i default).length=((AL c a Q).getD i default).length/\((AL c a P).getD i default).length<=2/\∀k,k<((AL c a P).getD i default).length->zZb (((AL c a P).getD i default).getD k default) (((AL c a Q).getD i default).getD k default)
 s:V=W->∀a:Nat,a<c.ags.length->(a:Int)≠h->AL c a Q=AL c a P
theorem zG4:∀(l:List Ev) {b:WI},LF b->(∀e∈l,bX e)->b.y.now+(l.length:Int)<1000000000->∀v∈UB b l,VwL v
 | [],_,_,_,_,v,hv=>by cases hv
 | e::l,b,hb,he,hn,v,hv=>by
  rw[yAp]at hn;have D:=fY hb zB (he e zS);have Dn:=D.n;unfold UB at hv
  rcases yAz.1 hv with hv|hv
  ·split at hv
   ·rw[yBe.1 hv];have hi:=D.i.y;refine⟨by have:=hi.wl;have:=hi.v.j;omega,λw hw=>?_⟩;have:=hi.wb w hw;have h6:=this.n;have h7:=this.m;omega
   ·cases hv
  ·exact zG4 l D.i (λx hx=>he x RS) zB v hv
def YU (S:List (List Int)) (b n:Nat) (h:b+n<=S.length):((S.drop b).take n).length=n/\∀k,k<n->((S.drop b).take n).getD k default=S.getD (b+k) []:=by
 refine⟨by rw[yAw,yA7];omega,λk hk=>?_⟩;rw[yAk,yBr,yAd hk,yB3,yAk];rfl
theorem zG5 (d:Dk) (r:Int):∀i,∀a∈(VV d r i).1,a.rights=r
 |0,a,h=>by cases h
 |i+1,a,h=>by
  have h:a∈(VV d r i).1++[agF (VV d r i).2 i r]:=h
  rcases yAz.1 h with h|h
  ·exact zG5 d r i a h
  ·rw[yBe.1 h];rfl
def zTc (d:Dk) (r:Int):∀a∈(QA d r).ags,a.rights=r:=λa h=>zG5 _ _ _ a h
def naN {c:Cf} (h:∀a∈c.ags,peF a.rights 10=false):NaC (qO c).y:=λd hd=>by
 have hd:d∈LX c c.ags.length:=hd;unfold LX at hd;obtain⟨k,hk,rfl⟩:=yBl.1 hd;refine⟨λt ht hu=>?_,λx hx=>yFa hx⟩;have ht:t∈tkN (c.ags.getD k default):=ht;unfold tkN at ht
 rcases yBt.1 ht with rfl|ht
 ·exact h _ (zQ c.ags k (yA2.1 hk))
 ·rw[yFa ht]at hu;cases hu
def cD {α:Type} [Inhabited α] {l:List α} {i:Nat} (h:i<l.length):l[i]? =some (l.getD i default):=by
 rw[yAk,yAr h];rfl
theorem zTd (c:Cf) (hv:FM c) (hr:∀a∈c.ags,peF a.rights 10=false) (h:Int) (l:List Ev) (hl:l.length<=400) (he:∀e∈l,bX e):zZc c h (SP (qO c) l) (SP (qO c) (UF c h l)) (UB (qO c) l) (UB (qO c) (UF c h l)):=by
 have hb:=zEr c hv;have hn:(qO c).y.now+(l.length:Int)<1000000000:=by show(0:Int)+_<_;omega
 have hwl:(UF c h l).length=l.length:=yAe ..;have hn':(qO c).y.now+((UF c h l).length:Int)<1000000000:=by rw[hwl];exact hn
 have he':∀e∈UF c h l,bX e:=λe hx=>by
  obtain⟨x,hx9,rfl⟩:=yBl.1 hx;exact zCs (he x hx9)
 have hrl:=(zEn l hb he hn).2.2.2.2;obtain⟨t1,t2,t3,t4⟩:=zHc (h:=h) (c:=c) l hb hb (naN hr) Z ⟨rfl,rfl,λ_ _=>rfl,λ_ _=>rfl⟩ he hn;have hby:=zAc l hb he hn;have hby':=zAc (UF c h l) hb he' hn';have hw:=hv.ag;have hss:((qO c).ss.length:Int)=vM c.ags c.ags.length:=hb.l;have hsb:=kQ hw c.ags.length (yAg _);have hac:=hv.a
 have hse:∀a,a<c.ags.length->vM c.ags a+(c.ags.getD a default).ses<=vM c.ags c.ags.length:=λa ha=>by
  have:=YS hw (show a+1<=c.ags.length by omega) (yAg _);have e:vM c.ags (a+1)=vM c.ags a+(c.ags.getD a default).ses:=rfl;omega
 have hvb:=zG4 l hb he hn;have hwb:=zG4 (UF c h l) hb he' hn';generalize SP (qO c) l=P at *;generalize SP (qO c) (UF c h l)=Q at *;generalize UB (qO c) l=V at *;generalize UB (qO c) (UF c h l)=W at *;have hp:∀p∈P,p.1.length<=1000/\∀a,a<c.ags.length->vM c.ags a+(c.ags.getD a default).ses<=(p.1.length:Int):=λp hp=>⟨by have:=(hby p hp).1;omega,λa ha=>by have:=(hby p hp).1;have:=hse a ha;omega⟩
 have hq:∀p∈Q,p.1.length<=1000/\∀a,a<c.ags.length->vM c.ags a+(c.ags.getD a default).ses<=(p.1.length:Int):=λp hp=>⟨by have:=(hby' p hp).1;omega,λa ha=>by have:=(hby' p hp).1;have:=hse a ha;omega⟩
 have hget:∀(a:Nat) (R:List (List (List Int)×List Int)) (i:Nat),i<R.length->(AL c a R).getD i default=((R.getD i default).1.drop (vM c.ags a).toNat).take (c.ags.getD a default).ses.toNat:=λa R i hi=>dW _ R i default default hi
 have core:∀a:Nat,a<c.ags.length->(a:Int)≠h->∀i,i<P.length->TwO c h (P.getD i default).1 (Q.getD i default).1 (V.getD i default) (W.getD i default):=λa ha hh i hi=>t4 i _ _ _ _ (cD hi) (cD zB) (cD zB) (cD zB)
 refine⟨zB,t1,zB,zB,hvb,hwb,hp,hq,λa ha hh i hi=>?_,λhs a ha hh=>?_⟩
 ·obtain⟨o1,o2,o3⟩:=core a ha hh i hi;obtain⟨_,p2⟩:=hp _ (zQ P i hi);obtain⟨_,q2⟩:=hq _ (zQ Q i zB);have p2:=p2 a ha;have q2:=q2 a ha;have hs1:=hw.at (i:=a) ha;have hs0:=aW c.ags (λy hy=>(hw.2 y hy).1) a zB;rw[hget a P i hi,hget a Q i zB];obtain⟨d1,d2⟩:=YU (P.getD i default).1 (vM c.ags a).toNat (c.ags.getD a default).ses.toNat zB;obtain⟨d3,d4⟩:=YU (Q.getD i default).1 (vM c.ags a).toNat (c.ags.getD a default).ses.toNat zB;refine⟨by rw[d1,d3],zB,λk hk=>?_⟩;rw[d1]at hk;rw[d2 k hk,d4 k hk]
  rcases(o3 a k ha hh zB).2 with⟨e1,e2⟩|⟨L,d,u,h1,h2,h3,e1,e2⟩
  ·rw[e1,e2];exact⟨[],[],rfl,rfl,λm hm=>(by cases hm),λm hm=>(by cases hm),by simp,rfl,rfl,rfl⟩
  ·obtain⟨m1,m2⟩:=zN4 h1 h2 o2;rw[e1,e2];refine⟨_,_,rfl,rfl,h1,λm hm=>?_,by rw[yAf,yCl];omega,by rw[yAf,yAf];rfl,m1,m2⟩
   rcases yAz.1 hm with hm|hm
   ·exact h1 m (by simp[hm])
   ·rw[yBe.1 hm];exact h2
 ·subst hs;unfold AL;apply yBj;intro i;by_cases hi:i<P.length
  ·obtain⟨o1,o2,o3⟩:=core a ha hh i hi;obtain⟨_,p2⟩:=hp _ (zQ P i hi);obtain⟨_,q2⟩:=hq _ (zQ Q i zB);have p2:=p2 a ha;have q2:=q2 a ha;have hs1:=hw.at (i:=a) ha;have hs0:=aW c.ags (λy hy=>(hw.2 y hy).1) a zB;rw[yAi,yAi,cD hi,cD (show i<Q.length by omega)];obtain⟨d1,d2⟩:=YU (P.getD i default).1 (vM c.ags a).toNat (c.ags.getD a default).ses.toNat zB;obtain⟨d3,d4⟩:=YU (Q.getD i default).1 (vM c.ags a).toNat (c.ags.getD a default).ses.toNat zB
   show some (((Q.getD i default).1.drop (vM c.ags a).toNat).take (c.ags.getD a default).ses.toNat)=some (((P.getD i default).1.drop (vM c.ags a).toNat).take (c.ags.getD a default).ses.toNat)
   refine yBa some (yBj λk=>?_);by_cases hk:k<(c.ags.getD a default).ses.toNat
   ·rw[cD zB,cD zB,d2 k hk,d4 k hk]
    rcases(o3 a k ha hh zB).2 with⟨e1,e2⟩|⟨L,d,u,h1,h2,h3,e1,e2⟩
    ·rw[e1,e2]
    ·rw[e1,e2]
   ·rw[yA1 zB,yA1 zB]
  ·rw[yA1 QL,yA1 QL]
theorem zNw {c:Cf} {d:xJ} (hI:uU c d) (now:Int) (n0:0<=now) (n1:now<=1073741824) (hn:d.au.length=1) (ins:List In) (hi:ins=[⟨true,[]⟩]):
  zN 94 [wD c,zL d,zC kL ins,iA now] [] (.tup [zL (dkM (dkU d ins) now),.sl false [.s (.slice none 0 0)],.s (.slice none 0 0),.s (.slice none 0 0)]) []:=by
 have kc:=SJ d hI.bd zB;have hal:(d.au.map bA).length=1:=by rw[yAe,hn]
 have hil:ins.length=1:=by rw[hi];rfl
 have hinl:=zA kL ins;have km:=zB1 (dkU d ins).rq now (zL8 hI ins).v;have cfe:wD c= .agg [.sl false (c.js.map wC),.sl false (c.ags.map wK),iA c.per,iA c.cap,iA c.hold,iA c.lock]:=rfl;rw[cfe];unfold SI zL wJ at kc;have e0:=jL (QB ins) d.au;have hkM:(min ((ins.map kL).length:Int) ((d.au.map bA).length:Int)).toNat=1:=by omega
 have htl:((ins.take 1).map kL).length=1:=by rw[yAe,yAw];omega
 have hy0:((ins.take 1).map kL)[0]? =some (.agg [bA true,.sl false []]):=by rw[hi];rfl
 have hg0:ins.getD 0 default=⟨true,[]⟩:=by rw[hi];rfl
 clear hi;refine eM call94 λF hF=>?_
 refine zV kc ?_;rw[hkM,hal];refine zO (1) [1004,4,5,8,28] [4,5,8,28] [2,3,4,5,8,12,13,14,39] [40,9,10,2,3,4,5,8,12,13,14,39] Z (λi T U=>⟨(40,iA i)::(9,.s (.slice none 0 0))::(10,.s (.slice none 0 0))::T,(1004,.arr 1 ((XP (QB ins) d.au i).map bA) false)::U⟩) ?_;(conv=>whnf);refine⟨by(rw[e0];rfl),?_,?_⟩
 ·intro i hi;have hi0:i=0:=by omega
  subst hi0;have hya:((XP (QB ins) d.au 0).map bA)[0]? =some (bA (d.au.getD 0 default)):=by rw[yAi,uO,yAd zB,yAc (yEf 0)];rfl
  have hxl:((XP (QB ins) d.au 0).map bA).length=1:=by rw[yAe,wZ,hn]
  rw[qE bA (QB ins) d.au 0 zB];have hsame:=fM hya;clear kc km;generalize (XP (QB ins) d.au 0).map bA=xs at *;generalize d.au.getD 0 default=b9 at *;unfold QB;rw[yAd ⟨zB,by rw[hg0]⟩,hsame];refine WW ?_;rfl
 ·(refine WW ?_)
  refine uM [4,5,8,28] [2,3,4,5,8,9,10,12,13,14,61,62] Z ?_
  (conv=>whnf)
  rw[zB3 (by omega:d.au.length=1),show XP (QB ins) d.au 1=auF ins d.au by unfold auF;rw[hn],htl];refine wM 2 [5,28,4,8] [13,14,62,2,3,4,5,8,12,61] Z ?_;refine yE (st0:=⟨[(13,.s (.slice none 0 0)),(14,.s (.slice none 0 0)),(62,iA 0),(2,.sl false ((ins.take 1).map kL)),(3,iA now),(4,.ptr 4 0 0),(5,.ptr 5 0 0),(8,.ptr 8 0 0),(12,.ref 28 0 1),(61,iA 1)],[(5,.box (SF (dkU d ins))),(28,.arr 1 [.s (.slice none 0 0)] false),(4,.box [.sl false (c.js.map wC),.sl false (c.ags.map wK),iA c.per,iA c.cap,iA c.hold,iA c.lock]),(8,.box BT)]⟩) (by rfl) ?_;refine WW ?_;refine wM 1 [5,28,4,8] [77,76,75,13,14,62,2,3,4,5,8,12,61] Z ?_;refine yE (st0:=⟨[(77,iA 0),(76,iA 0),(75,.sl false []),(13,.s (.slice none 0 0)),(14,.s (.slice none 0 0)),(62,iA 0),(2,.sl false ((ins.take 1).map kL)),(3,iA now),(4,.ptr 4 0 0),(5,.ptr 5 0 0),(8,.ptr 8 0 0),(12,.ref 28 0 1),(61,iA 1)],[(5,.box (SF (dkU d ins))),(28,.arr 1 [.s (.slice none 0 0)] false),(4,.box [.sl false (c.js.map wC),.sl false (c.ags.map wK),iA c.per,iA c.cap,iA c.hold,iA c.lock]),(8,.box BT)]⟩) (by rfl) ?_;refine WW ?_;refine yE (st0:=⟨[(13,.s (.slice none 0 0)),(14,.s (.slice none 0 0)),(62,iA 1),(2,.sl false ((ins.take 1).map kL)),(3,iA now),(4,.ptr 4 0 0),(5,.ptr 5 0 0),(8,.ptr 8 0 0),(12,.ref 28 0 1),(61,iA 1)],[(5,.box (SF (dkU d ins))),(28,.arr 1 [.s (.slice none 0 0)] false),(4,.box [.sl false (c.js.map wC),.sl false (c.ags.map wK),iA c.per,iA c.cap,iA c.hold,iA c.lock]),(8,.box BT)]⟩) (by rfl) ?_;refine zV km ?_;exact zK [] Z Z Z Z
def AM:Ss:=⟨true,false,[],false⟩
def sdL (d:xJ):List AV:=[iA d.rg.num,zC yA d.rg.ag.sec,iA d.rg.ag.rights,iA d.rg.ag.cls,zC iA d.rg.ag.lim,iA d.rg.ag.req,iA d.rg.ag.ses,iA d.rg.ag.rate,iA d.rg.ag.burst,zC xB d.rg.tk,zC vQ d.rg.vh,iA d.rg.bk.level,iA d.rg.bk.rate,iA d.rg.bk.burst,zC yL d.rq,zC qR d.dr,zC bA d.au,.ref 36 0 1]
theorem zNx (c:Cf) (d:xJ) (hI:uU c d) (hn:d.au.length=1) (v:List Vw) (hv:v.length<=4) (hb:∀w∈v,AZ w):∃d':xJ,bS (jQ d' v 1)/\zN 58 [.ptr 9 0 0,wD c,zC vA v,iA 1] [(9,.box (sdL d)),(36,.arr 4 [kM AM] false)] (.sl false [zC yA (bT (jQ d' v 1))]) [(9,.box (sdL d')),(36,.arr 4 [kM AM] false)]:=by
 have kt:=zEt AM qY (by simp[AM]);rw[show UE AM=(AM,⟨true,[]⟩)from Z]at kt;have kb:=BW hI 1;have hB:=zS1 hI 1;obtain⟨hB,hB2,_⟩:=hB;have hbn:(LE d 1).au.length=1:=hn;have kk:=zNw hB 1 zB zB hbn [⟨true,[]⟩] Z;have hM:=zSz (zL8 hB [⟨true,[]⟩]) 1 zB zB;generalize dkM (dkU (LE d 1) [⟨true,[]⟩]) 1=d2 at *;generalize LE d 1=d1 at *;have hq:=hM.a.q;have ks:=BV d2 hM.bd hq v 1 zB hb;have hs:=zNd d2 hq v 1 zB zB hv hb;refine⟨d2,hs,?_⟩;obtain⟨⟨b1,_⟩,kf⟩:=zEq _ hs;have hbl:=zA yA (bT (jQ d2 v 1));generalize bT (jQ d2 v 1)=B at *;generalize jQ d2 v 1=st at *;unfold sdL;unfold zL wJ at *;refine eM call58 λF hF=>?_
 refine WW ?_;refine wM 2 [5,9,36,26] [32,31,0,2,3,5,9] Z ?_;refine yE (st0:=⟨[(32,iA 0),(31,iA 1),(0,.ptr 9 0 0),(2,zC vA v),(3,iA 1),(5,.ptr 5 0 0),(9,.ref 26 0 1)],[(5,.box [zC wC c.js,zC wK c.ags,iA c.per,iA c.cap,iA c.hold,iA c.lock]),(9,.box [iA d.rg.num,zC yA d.rg.ag.sec,iA d.rg.ag.rights,iA d.rg.ag.cls,zC iA d.rg.ag.lim,iA d.rg.ag.req,iA d.rg.ag.ses,iA d.rg.ag.rate,iA d.rg.ag.burst,zC xB d.rg.tk,zC vQ d.rg.vh,iA d.rg.bk.level,iA d.rg.bk.rate,iA d.rg.bk.burst,zC yL d.rq,zC qR d.dr,zC bA d.au,.ref 36 0 1]),(36,.arr 4 [kM AM] false),(26,.arr 2 [.agg [bA false,.s (.slice none 0 0)]] false)]⟩) (by rfl) ?_;refine zV kt ?_;refine yE (st0:=⟨[(32,iA 1),(31,iA 1),(0,.ptr 9 0 0),(2,zC vA v),(3,iA 1),(5,.ptr 5 0 0),(9,.ref 26 0 1)],[(5,.box [zC wC c.js,zC wK c.ags,iA c.per,iA c.cap,iA c.hold,iA c.lock]),(9,.box [iA d.rg.num,zC yA d.rg.ag.sec,iA d.rg.ag.rights,iA d.rg.ag.cls,zC iA d.rg.ag.lim,iA d.rg.ag.req,iA d.rg.ag.ses,iA d.rg.ag.rate,iA d.rg.ag.burst,zC xB d.rg.tk,zC vQ d.rg.vh,iA d.rg.bk.level,iA d.rg.bk.rate,iA d.rg.bk.burst,zC yL d.rq,zC qR d.dr,zC bA d.au,.ref 36 0 1]),(36,.arr 4 [kM AM] false),(26,.arr 2 [kL ⟨true,[]⟩] false)]⟩) (by rfl) ?_
 (repeat' (first|refine WS ?_|refine SG (I2 (λhc=>?_) λhc=>?_)|refine SG λhc=>?_|(first|refine xQ ?_|refine xE ?_|refine zX Z ?_|refine zU Z ?_|refine xA ?_|refine xD ?_|refine yU ?_)|fail))
 refine uM [5,9,36] [0,2,3,5,9] Z ?_
 (conv=>whnf)
 refine yQ (wV kb kk) ?_;refine wM 2 [9,36,80] [83,82,0,2,3,9,12,15] Z ?_;refine yE (st0:=⟨[(83,iA 0),(82,iA 1),(0,.ptr 9 0 0),(2,zC vA v),(3,iA 1),(9,.sl false [kL ⟨true,[]⟩]),(12,.sl false [.s (.slice none 0 0)]),(15,.ref 80 0 1)],[(9,.box [iA d2.rg.num,zC yA d2.rg.ag.sec,iA d2.rg.ag.rights,iA d2.rg.ag.cls,zC iA d2.rg.ag.lim,iA d2.rg.ag.req,iA d2.rg.ag.ses,iA d2.rg.ag.rate,iA d2.rg.ag.burst,zC xB d2.rg.tk,zC vQ d2.rg.vh,iA d2.rg.bk.level,iA d2.rg.bk.rate,iA d2.rg.bk.burst,zC yL d2.rq,zC qR d2.dr,zC bA d2.au,.ref 36 0 1]),(36,.arr 4 [kM AM] false),(80,.arr 1 [.s (.slice none 0 0)] false)]⟩) (by rfl) ?_;refine WLo ks ?_;refine wM 2 [9,36,80] [106,105,104,16,83,82,0,2,3,9,12,15] Z ?_;refine yE (st0:=⟨[(106,iA 0),(105,iA 1),(104,.sl false [yB st]),(16,iA 0),(83,iA 0),(82,iA 1),(0,.ptr 9 0 0),(2,zC vA v),(3,iA 1),(9,.sl false [kL ⟨true,[]⟩]),(12,.sl false [.s (.slice none 0 0)]),(15,.ref 80 0 1)],[(9,.box [iA d2.rg.num,zC yA d2.rg.ag.sec,iA d2.rg.ag.rights,iA d2.rg.ag.cls,zC iA d2.rg.ag.lim,iA d2.rg.ag.req,iA d2.rg.ag.ses,iA d2.rg.ag.rate,iA d2.rg.ag.burst,zC xB d2.rg.tk,zC vQ d2.rg.vh,iA d2.rg.bk.level,iA d2.rg.bk.rate,iA d2.rg.bk.burst,zC yL d2.rq,zC qR d2.dr,zC bA d2.au,.ref 36 0 1]),(36,.arr 4 [kM AM] false),(80,.arr 1 [.s (.slice none 0 0)] false)]⟩) (by rfl) ?_;refine WLo kf ?_;refine yE (st0:=⟨[(106,iA 1),(105,iA 1),(104,.sl false [yB st]),(16,iA 0),(83,iA 0),(82,iA 1),(0,.ptr 9 0 0),(2,zC vA v),(3,iA 1),(9,.sl false [kL ⟨true,[]⟩]),(12,.sl false [.s (.slice none 0 0)]),(15,.ref 80 0 1)],[(9,.box [iA d2.rg.num,zC yA d2.rg.ag.sec,iA d2.rg.ag.rights,iA d2.rg.ag.cls,zC iA d2.rg.ag.lim,iA d2.rg.ag.req,iA d2.rg.ag.ses,iA d2.rg.ag.rate,iA d2.rg.ag.burst,zC xB d2.rg.tk,zC vQ d2.rg.vh,iA d2.rg.bk.level,iA d2.rg.bk.rate,iA d2.rg.bk.burst,zC yL d2.rq,zC qR d2.dr,zC bA d2.au,.ref 36 0 1]),(36,.arr 4 [kM AM] false),(80,.arr 1 [.sl false (B.map yA)] false)]⟩) (by rfl) ?_;refine WL ?_;refine yE (st0:=⟨[(83,iA 1),(82,iA 1),(0,.ptr 9 0 0),(2,zC vA v),(3,iA 1),(9,.sl false [kL ⟨true,[]⟩]),(12,.sl false [.s (.slice none 0 0)]),(15,.ref 80 0 1)],[(9,.box [iA d2.rg.num,zC yA d2.rg.ag.sec,iA d2.rg.ag.rights,iA d2.rg.ag.cls,zC iA d2.rg.ag.lim,iA d2.rg.ag.req,iA d2.rg.ag.ses,iA d2.rg.ag.rate,iA d2.rg.ag.burst,zC xB d2.rg.tk,zC vQ d2.rg.vh,iA d2.rg.bk.level,iA d2.rg.bk.rate,iA d2.rg.bk.burst,zC yL d2.rq,zC qR d2.dr,zC bA d2.au,.ref 36 0 1]),(36,.arr 4 [kM AM] false),(80,.arr 1 [.sl false (B.map yA)] false)]⟩) (by rfl) ?_;refine WL ?_;exact zK [9,36] Z Z Z Z
def cE (k:Int):Ev:=⟨k,0,0,0,[]⟩
def FU {k:Int} (h:1<=k/\k<=6):bX (cE k):=⟨h,by dsimp only[cE];omega,by dsimp only[cE];omega,by dsimp only[cE];omega,qY,yAt _⟩
def zTe:zN 62 [.agg [bA false,bA false,.s (.slice none 0 0),bA false],vC (cE 1)] [] (kM AM) []:=by
 have ko:=zEu ⟨false,false,[],false⟩ zS;rw[show(if(⟨false,false,[],false⟩:Ss).op=true then⟨false,false,[],false⟩else⟨true,false,[],false⟩:Ss)=AM from Z]at ko;unfold cE vC;refine eM call62 λF hF=>?_
 (repeat' (first|refine uP ?_|apply xM|apply xZ|intro hc|(refine zE ?_;refine xT ?_;(refine vR 79 ?_;refine UW 9 Z Z Z ?_;refine yJ (zI (ko) Z Z Z Z Z) Z ?_))|(refine zE ?_;first|refine SM ?_)|fail))
 exact zJ
theorem zG6 (c:Cf) (hc:FM c) (a:Ag) (hs:a.ses=1) (h0:c.ags.getD 0 default=a) (ho:owF c 0=(0,0)) (v:List Vw) (hv:v.length<=4) (hb:∀w∈v,AZ w):∃d':xJ,bS (jQ d' v 1)/\zN 24 [wD c,iA 0,zC vC [cE 1,cE 6],.sl false [zC vA v]] [] (.sl false [.sl false [zC yA (bT (jQ d' v 1))]]) []:=by
 have hal:=hc.a;have hav:AgV a:=by rw[<-h0];exact hc.av _ (zQ c.ags 0 zB)
 have kn:=(zS0 0 a hav).1;have hI:=zMk (c:=c) hav 0 zB;rw[show a.ses.toNat=1 by omega]at kn hI;have hn:(WP 0 a 1).au.length=1:=rfl;have hau:(WP 0 a 1).au.map bA=[bA false]:=rfl;obtain⟨d2,hs2,kt⟩:=zNx c _ hI hn v hv hb;refine⟨d2,hs2,?_⟩;have kp:=zTe;have ko:=zCo c hc.ag 0 zB;rw[ho]at ko;have kw:=zAf c hc.ag 0 (cE 1) (FU zB);rw[show ON c 0 (cE 1)=true by unfold ON;rw[show(cE 1).s=0 from Z,ho];rfl]at kw;have hya:=zM wK c.ags 0 zB;rw[h0]at hya;have hagl:=zA wK c.ags;unfold zL wJ at kn;unfold sdL at kt;rw[show zC bA (WP 0 a 1).au= .sl false [bA false]from Z]at kn kt;clear hI hn hau;generalize WP 0 a 1=d at *;generalize bT (jQ d2 v 1)=B at *;unfold wD vC cE at *;refine eM call24 λF hF=>?_
 have hz1:([bA false]:List AV).length=1:=rfl;refine zV kn ?_;refine wM 3 [4,9,36] [40,39,38,1,3,4,9,10] Z ?_;refine yE (st0:=⟨[(40,iA 0),(39,iA 2),(38,.sl false [.agg [iA 1,iA 0,iA 0,iA 0,zC yA []],.agg [iA 6,iA 0,iA 0,iA 0,zC yA []]]),(1,iA 0),(3,.sl false [zC vA v]),(4,.ptr 4 0 0),(9,.ptr 9 0 0),(10,.s (.slice none 0 0))],[(4,.box [zC wC c.js,zC wK c.ags,iA c.per,iA c.cap,iA c.hold,iA c.lock]),(9,.box [iA d.rg.num,zC yA d.rg.ag.sec,iA d.rg.ag.rights,iA d.rg.ag.cls,zC iA d.rg.ag.lim,iA d.rg.ag.req,iA d.rg.ag.ses,iA d.rg.ag.rate,iA d.rg.ag.burst,zC xB d.rg.tk,zC vQ d.rg.vh,iA d.rg.bk.level,iA d.rg.bk.rate,iA d.rg.bk.burst,zC yL d.rq,zC qR d.dr,.sl false [bA false],.ref 36 0 1]),(36,.arr 4 [.agg [bA false,bA false,.s (.slice none 0 0),bA false]] false)]⟩) (by rfl) ?_;refine yQ (gG kw ko kp) ?_;refine yE (st0:=⟨[(40,iA 1),(39,iA 2),(38,.sl false [.agg [iA 1,iA 0,iA 0,iA 0,zC yA []],.agg [iA 6,iA 0,iA 0,iA 0,zC yA []]]),(1,iA 0),(3,.sl false [zC vA v]),(4,.ptr 4 0 0),(9,.ptr 9 0 0),(10,.s (.slice none 0 0))],[(4,.box [zC wC c.js,zC wK c.ags,iA c.per,iA c.cap,iA c.hold,iA c.lock]),(9,.box [iA d.rg.num,zC yA d.rg.ag.sec,iA d.rg.ag.rights,iA d.rg.ag.cls,zC iA d.rg.ag.lim,iA d.rg.ag.req,iA d.rg.ag.ses,iA d.rg.ag.rate,iA d.rg.ag.burst,zC xB d.rg.tk,zC vQ d.rg.vh,iA d.rg.bk.level,iA d.rg.bk.rate,iA d.rg.bk.burst,zC yL d.rq,zC qR d.dr,.sl false [bA false],.ref 36 0 1]),(36,.arr 4 [kM AM] false)]⟩) (by rfl) ?_;refine WLo kt ?_;refine yE (st0:=⟨[(40,iA 2),(39,iA 2),(38,.sl false [.agg [iA 1,iA 0,iA 0,iA 0,zC yA []],.agg [iA 6,iA 0,iA 0,iA 0,zC yA []]]),(1,iA 0),(3,.sl false [zC vA v]),(4,.ptr 4 0 0),(9,.ptr 9 0 0),(10,.sl false [.sl false [zC yA B]])],[(4,.box [zC wC c.js,zC wK c.ags,iA c.per,iA c.cap,iA c.hold,iA c.lock]),(9,.box [iA d2.rg.num,zC yA d2.rg.ag.sec,iA d2.rg.ag.rights,iA d2.rg.ag.cls,zC iA d2.rg.ag.lim,iA d2.rg.ag.req,iA d2.rg.ag.ses,iA d2.rg.ag.rate,iA d2.rg.ag.burst,zC xB d2.rg.tk,zC vQ d2.rg.vh,iA d2.rg.bk.level,iA d2.rg.bk.rate,iA d2.rg.bk.burst,zC yL d2.rq,zC qR d2.dr,zC bA d2.au,.ref 36 0 1]),(36,.arr 4 [kM AM] false)]⟩) (by rfl) ?_;refine WW ?_;exact zJ
def zNy (c:Cf) (h:FM c) (e9:Ev) (h9:bX e9) (hk:e9.k=1):∃v:List Vw,UB (qO c) [cE 1,cE 6,e9]=[v]/\v.length<=4/\∀w∈v,AZ w:=by
 have hb:=zEr c h;have h0:(qO c).y.now=0:=rfl;have d1:=fY hb zB (FU (k:=1) zB);have n1:=d1.n;have f1:(gW (qO c) (cE 1)).fl=false:=by rw[d1.s (.inl Z)]
 have d2:=fY d1.i zB (FU (k:=6) zB);have n2:=d2.n;obtain⟨y',Td,hM,e3,_⟩:=d2.t6 Z;have f2:(gW (gW (qO c) (cE 1)).b (cE 6)).fl=true:=by rw[e3]
 have d3:=fY d2.i zB h9;have f3:(gW (gW (gW (qO c) (cE 1)).b (cE 6)).b e9).fl=false:=by rw[d3.s (.inl hk)]
 have hy:=d2.i.y;refine⟨(gW (gW (qO c) (cE 1)).b (cE 6)).b.y.vw,?_,by have:=hy.wl;have:=hy.v.j;omega,hy.wb⟩;unfold UB;rw[f1,yAc yAx,yCc];unfold UB;rw[f2,yAd Z];unfold UB;rw[f3,yAc yAx];rfl
def ev9:Ev:=⟨1,9,0,0,[]⟩
def zR6:bX ev9:=⟨by dsimp only[ev9];omega,by dsimp only[ev9];omega,by dsimp only[ev9];omega,by dsimp only[ev9];omega,qY,yAt _⟩
def zEy:zN 18 [] [] (bA true) []:=by
 have kn:=zSi [] zS;have kc:=BQ d00 15;have hv:=zSs d00 15 zB
 have hev:∀e∈[cE 1,cE 6,ev9],bX e:=λe he=>by
  simp only[yBt,yEk,yFv]at he
  rcases he with rfl|rfl|rfl
  ·exact FU zB
  ·exact FU zB
  ·exact zR6
 have km:=zN6 (QA d00 15) hv.ag 0 [cE 1,cE 6,ev9] zS hev;rw[show mnF (QA d00 15) 0 [cE 1,cE 6,ev9]=[cE 1,cE 6]from Z]at km;have kv:=GZ (QA d00 15) hv [cE 1,cE 6,ev9] zS hev;rw[show([cE 1,cE 6,ev9]:List Ev).take 400=[cE 1,cE 6,ev9]from Z]at kv;obtain⟨v,e1,v1,v2⟩:=zNy (QA d00 15) hv ev9 zR6 Z;rw[e1]at kv;obtain⟨d',hs,kr⟩:=zG6 (QA d00 15) hv _ (show((QA d00 15).ags.getD 0 default).ses=1 from Z) Z (show owF (QA d00 15) 0=(0,0)from Z) v v1 v2;obtain⟨q,hq,hq7⟩:=(zEq _ hs).1.2 (by simp[jQ,stM]);rw[hq]at kr;generalize QA d00 15=c at *;generalize cfD d00 15=e0 at *;have hq1:=zA yA q;rw[show zC yA (90::165::1::(jQ d' v 1).kind::q)= .sl false (yA 90::yA 165::yA 1::yA 17::q.map yA)from Z]at kr;rw[show zC vsA [v]= .sl false [zC vA v]from Z]at kv;rw[show zC vC [cE 1,cE 6,ev9]= .sl false [vC (cE 1),vC (cE 6),vC ev9]from Z]at km kv;rw[show zC vC [cE 1,cE 6]= .sl false [vC (cE 1),vC (cE 6)]from Z]at km kr;generalize q.map yA=Q at *;have hz2:(yA 90::yA 165::yA 1::yA 17::Q).length=q.length+4:=by simp only[yAp];omega
 unfold wD vC cE ev9 at *;refine eM call18 λF hF=>?_
 (have zc1:=kn;have zc2:=kc;have zc3:=km;have zc4:=kv;have zc5:=kr;(repeat' (first|refine ZJ ?_|apply xM|apply xZ|intro hc|(refine zE ?_;first|(refine yV ?_;refine UW 6 Z Z Z ?_;refine UW 7 Z Z Z ?_;refine UW 8 Z Z Z ?_;refine qS tok Z Z ?_))|refine SB ?_|fail))<;>clear zc1 zc2 zc3 zc4 zc5)
 exact zJ
end Av
end Go.Proofs.YteajjdidebfcjaaGreat
