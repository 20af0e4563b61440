/- Part 30. -/
import Derived.Test.YteajjdidebfcjaaGreatR29
namespace Go.Proofs.YteajjdidebfcjaaGreat
namespace Av
open Tryz
set_option linter.all false
set_option maxRecDepth 4000
set_option maxHeartbeats 8000000
def zD4 (v:AV):(XC v).cells=v.cells.map XC:=by
 cases v with
 |agg cs=>show wkL cs=cs.map XC;exact zDi cs
 |s v=>
  show(XC (.s v)).cells=[XC (.s v)]
  unfold XC
  split<;>rfl
 |_=>rfl
theorem xH.wkl {w:World} {D:Nat->Prop} {nn:Bool} {xs:List AV} {c:Value} (hv:xH w D (.sl nn xs) c):xH w D (.sl nn (xs.map XC)) c:=by
 cases hv with
 |nil a cap=>exact .nil a cap
 |nil1 a cap=>exact .nil1 a cap
 | sl _ _ b o sz cap f hx hL hc h=>
  have hl:(xs.map XC).length=xs.length:=zZ9 ..
  have hk:∀(i:Nat) (x:AV),(xs.map XC)[i]? =some x->∃y,xs[i]? =some y/\x.cells=y.cells.map XC:=λi x hx=>by
   rw[yAa,yAo]at hx;obtain⟨y,hy,rfl⟩:=hx;exact⟨y,hy,zD4 y⟩
  have hL':Lay w D (xs.map XC) b o sz f:=by
   refine⟨hL.lt,hL.nd,hL.pos,by rw[hl];exact hL.max,λi x hx=>?_,λi j hi hj=>hL.cell i j (by rw[hl]at hi;exact hi) hj,λi j hi hj=>hL.one i j (by rw[hl]at hi;exact hi) hj⟩;obtain⟨y,hy,he⟩:=hk i x hx;rw[he,zZ9];exact hL.wide i y hy
  have:=xH.sl nn (xs.map XC) b o sz cap f (by simpa using hx) hL' (by rw[hl];exact hc) (λi x j v hi hj=>by
   obtain⟨y,hy,he⟩:=hk i x hi;rw[he,yAa,yAo]at hj;obtain⟨u,hu,rfl⟩:=hj
   exact(h i y j u hy hu).wk)
  rw[hl]at this;exact this
section
variable {P:Program} {K0:List Nat} {F:Fr K0} {m:Nat} {ops:Array Oper} {rest:List Oper} {fs:List FP} {tm:List (Nat×AV)} {h:List (Nat×xN)}
theorem xV.wkL {a:Act} {w:World} (R:xV F m ⟨tm,h⟩ a w) (t:Nat) {nn:Bool} {xs ys:List AV} (hv:zG tm t= .sl nn xs) (he:xs.map XC=ys):xV F m ⟨(t,.sl nn ys)::tm,h⟩ a w:=by
 obtain⟨⟨X,β,hX,H,Ht,KK,hJ,hD⟩,nd,gs,hl⟩:=R;refine⟨⟨X,β,hX,H,λj=>?_,KK,λi hi=>?_,hD⟩,nd,gs,hl⟩
 ·rw[yF];split
  ·rename_i hj;subst hj;have:=Ht j;dsimp only at this;rw[hv]at this
   cases this with
   |fz _ _ hf=>exact .fz _ _ (he▸hf.wkl)
  ·exact Ht j
 ·rw[yF]at hi;split at hi
  ·cases hi
  ·exact hJ i hi
def zW7 {Q:List FP->St->Prop} (t:Nat) {nn:Bool} {xs ys:List AV} (hv:zG tm t= .sl nn xs) (he:xs.map XC=ys) (hk:zX P F m ops false rest ⟨(t,.sl nn ys)::tm,h⟩ fs Q):zX P F m ops false rest ⟨tm,h⟩ fs Q:=
 ⟨λa w R=>hk.run a w (R.wkL t hv he)⟩
end
def zGr (c:Cf) (hw:AgW c.ags) (n:Nat) (hn:n<=c.ags.length):zN 77 [vG c,iA n] [] (iA (qE c.ags n)) []:=by
 have hl:=zA wK c.ags;have h4:=hw.1;have hb:=kY hw;unfold vG;refine eM call77 λF hF=>?_
 refine WW ?_;refine zO (n) [] [] [1,9,10] [5,11,1,9,10] Z (λi T U=>⟨(5,iA (qE c.ags i))::(11,iA i)::T,U⟩) ?_;(conv=>whnf);refine⟨by rfl,?_,?_⟩
 ·intro i hi;have hy:=zM wK c.ags i zB;have h1:=hw.at (i:=i) zB;have h2:=hb i zB;rw[show qE c.ags (i+1)=qE c.ags i+(c.ags.getD i default).ses from Z];clear hb;generalize qE c.ags i=s at *;generalize c.ags.getD i default=a at *;refine WW ?_;rfl
 ·by_cases h9:n<c.ags.length
  ·have hy:=zM wK c.ags n h9;generalize c.ags.getD n default=a at *;refine WW ?_;exact zJ
  ·(refine WW ?_)
   exact zJ
def zSe:AV:= .agg [bA false,bA false,.s (.slice none 0 0),bA false]
def QE (ss:List Ss) (i:Nat):List AV:=(List.range ss.length).map λk=>if k<i then jE (ss.getD k default)else zSe
def zD5 (ss:List Ss):QE ss 0=List.replicate ss.length zSe:=by
 unfold QE;apply yBi;intro j;rw[yAa,yB2];by_cases hj:j<ss.length
 ·rw[yA4 hj,zZ8 hj];simp
 ·rw[zZ7 hj,yAz vA];rfl
def zGs (ss:List Ss):QE ss ss.length=ss.map jE:=by
 unfold QE;rw[fL];apply yBi;intro j;rw[yAa,yAa];by_cases hj:j<ss.length
 ·rw[yA4 hj,yAn hj];simp only[Option.map_some,yAg,yAn hj,yCd]
 ·rw[yAz vA,yAz zB];rfl
def YC (b:VZ) (h:AN b):zN 78 [cB b] [] (UA b.y (.ref 1021 0 b.ss.length)) [(1021,.arr 4 (b.ss.map jE) false)]:=by
 obtain⟨y,ss⟩:=b;have hy:=h.y;have hs:=h.s;have hl:=h.l;dsimp only at *;have hw:=hy.v.ag;have hrf:=hy.rf
 have hsb:ss.length<=8:=by
  have:=kY hw y.c.ags.length (yAb _);have:=hw.1;omega
 have eC:uC y= .agg [zD wJ y.c.js,zD wK y.c.ags,iA y.c.per,iA y.c.cap,iA y.c.hold,iA y.c.lock,bA false,iA y.now,zD zI y.ds,zD wX y.sg,zD wU y.sv,zD iA y.st,zD vO y.vw]:=by rw[<-hrf];rfl
 have k1:=bU y hy.b;rw[eC]at k1;have hsl:=zA jE ss;unfold cB UA;dsimp only;refine eM call78 λF hF=>?_
 (repeat' (first|refine uL ?_|((first|apply xM|apply wA)<;>intro hc)|(refine zE ?_;first|(refine gB ?_;refine fZ 1021 tok Z Z Z Z Z Z Z Z Z Z Z Z Z zB zB Z Z Z ?_))|fail))
 rw[hsl];have hn:∀i,(QE ss i).length=ss.length:=λi=>by unfold QE;rw[zZ9,yBp]
 refine zO (ss.length) [1021,1,2] [1,2] [1,2,3,11,12] [13,1,2,3,11,12] Z (λi T U=>⟨(13,iA i)::T,(1021,.arr 4 (QE ss i) false)::U⟩) ?_;(conv=>whnf);refine⟨by(rw[zD5];rfl),?_,?_⟩
 ·intro i hi;have hy:=zM jE ss i hi;have hyc:(QE ss i)[i]? =some zSe:=dM _ _ _ _ hi;have e1:QE ss (i+1)=(QE ss i).set i (jE (ss.getD i default)):=fK _ _ _ _ hi;have hI:=hs _ (zP ss i hi);have kx:=JF (ss.getD i default) (by have:=hI.n;omega);have h1:=hn i;rw[e1];clear e1 hs hI k1;unfold zSe at hyc;generalize QE ss i=X at *;generalize ss.getD i default=s at *;refine zV kx ?_;rfl
 ·rw[zGs];refine zV k1 ?_;exact zL [1021] Z Z Z Z
def cA (c:Cf):VZ:=⟨bO c,List.replicate (qE c.ags c.ags.length).toNat ⟨false,false,[],false⟩⟩
def zW8 {α β:Type} [Inhabited α] [Inhabited β] (f:α->β) (l:List α) (k:Nat) (hk:k<l.length):(l.map f).getD k default=f (l.getD k default):=by
 rw[yAg,yAa,yAn hk,yAg,yAn hk];rfl
def zR5 (c:Cf) (h:VT c):XS (bO c):=by
 have ha:=h.a;have hdl:(NA c c.ags.length).length=c.ags.length:=by simp[NA]
 have hmem:∀d∈NA c c.ags.length,∃k:Nat,k<c.ags.length/\d=OS (k:Int) (c.ags.getD k default) (c.ags.getD k default).ses.toNat:=λd hd=>by
  unfold NA at hd;obtain⟨k,hk,rfl⟩:=yA5.1 hd;exact⟨k,yAt.1 hk,rfl⟩
 refine⟨h,rfl,yB6 _,hdl,λd hd=>?_,λa ha=>?_,λd hd=>?_,by simp[bO],by simp[bO],by simp[bO],by simp[bO],λw hw=>?_,λk hk=>?_⟩
 ·obtain⟨k,hk,rfl⟩:=hmem d hd;exact zUx (h.av _ (zP c.ags k hk)) k zB
 ·have ha':a<c.ags.length:=by rw[<-hdl];exact ha
  show((NA c c.ags.length).getD a default).rg.ag=_
  unfold NA;rw[yAg,yAa,yA4 ha'];rfl
 ·obtain⟨k,hk,rfl⟩:=hmem d hd;exact λr hr=>by cases hr
 ·unfold bO at hw;obtain⟨j,hj,rfl⟩:=yA5.1 hw;exact zR9 j (h.jv j hj) _ _
 ·have hk':k<c.js.length:=hk;have J:=h.jv _ (zP c.js k hk')
  show JI (c.js.getD k default) ((c.js.map jI).getD k default) ((c.js.map SD).getD k default) 0
  rw[zW8 jI c.js k hk',zW8 SD c.js k hk'];refine⟨zI0 J,by simp[SD,zOj],λe he=>?_,yB6 _⟩;rw[(yFu.1 he).2]
  decide
def zGt (c:Cf) (h:VT c):AN (cA c):=by
 have hb:=kY h.ag c.ags.length (yAb _);refine⟨zR5 c h,?_,λs hs=>?_⟩
 ·show((List.replicate _ _).length:Int)=_
  rw[yB0]
  show((qE c.ags c.ags.length).toNat:Int)=qE c.ags c.ags.length
  omega
 ·rw[(yFu.1 hs).2];exact⟨fP,yAp _⟩
def zNu (c:Cf) (h:VT c):zN 44 [vG c] [] (cB (cA c)) []:=by
 have k1:=zTx c h;have hrf:=(zR5 c h).rf;have hw:=h.ag;have k2:=zGr c hw c.ags.length (yAb _);have hal:=zA wK c.ags;have hb:=kY hw c.ags.length (yAb _);have h4:=hw.1;have eC:uC (bO c)= .agg [zD wJ (bO c).c.js,zD wK (bO c).c.ags,iA (bO c).c.per,iA (bO c).c.cap,iA (bO c).c.hold,iA (bO c).c.lock,bA false,iA (bO c).now,zD zI (bO c).ds,zD wX (bO c).sg,zD wU (bO c).sv,zD iA (bO c).st,zD vO (bO c).vw]:=by rw[<-hrf];rfl
 rw[eC]at k1;obtain⟨N,hN⟩:∃N:Nat,qE c.ags c.ags.length=(N:Int):=⟨(qE c.ags c.ags.length).toNat,zB⟩;rw[hN]at k2 hb;rw[<-hal]at k2
 have eB:cB (cA c)= .agg [zD wJ (bO c).c.js,zD wK (bO c).c.ags,iA (bO c).c.per,iA (bO c).c.cap,iA (bO c).c.hold,iA (bO c).c.lock,bA false,iA (bO c).now,zD zI (bO c).ds,zD wX (bO c).sg,zD wU (bO c).sv,zD iA (bO c).st,zD vO (bO c).vw,.sl false (List.replicate N (.agg [bA false,bA false,zD yA [],bA false]))]:=by
  unfold cB UA cA;dsimp only;rw[hN];unfold zD;rw[yFa];rfl
 rw[eB];generalize bO c=z at *;refine eM call44 λF hF=>?_
 (have zc1:=k1;have zc2:=k2;(repeat' (first|refine uL ?_|((first|apply xM|apply wA)<;>intro hc)|(refine zE ?_;first|(refine gB ?_;refine fZ 1021 tok Z Z Z Z Z Z Z Z Z Z Z Z Z zB zB Z Z Z ?_;refine kJ [1,2,3] [1,2,3,16] Z ?_;(conv=>whnf);(try simp only[yA9]);refine zW7 16 Z Z ?_))|fail))<;>clear zc1 zc2)
 refine zK [] Z Z ?_ Z
 show AV.agg [zD wJ z.c.js,zD wK z.c.ags,iA z.c.per,iA z.c.cap,iA z.c.hold,iA z.c.lock,bA false,iA z.now,zD zI z.ds,zD wX z.sg,zD wU z.sv,zD iA z.st,zD vO z.vw,.sl false (List.map XC (List.take N (List.replicate N zSe)))]=_
 rw[yAj (by rw[yB0];exact yAb _),yFa];rfl
def zGu (l:List (List Int)) (hl:l.length<=1073741824):zN 168 [zD qY l] [] (.ref 1005 0 (l.map qY).length) [(1005,.arr 1 (l.map qY) false)]:=by
 have hll:=zA qY l;refine eM call168 λF hF=>?_
 refine yS 0 Z (λcap hx=>?_) ?_
 ·have:l=[]:=by simpa using hx
  subst this
  (repeat' (first|refine WZN ?_|((first|apply xM|apply wA)<;>intro hc)|fail))
  refine uH 2 1005 1 Z Z Z (yT ?_);exact zL [1005] Z Z Z Z
 ·repeat' (first|(refine zE ?_;first|refine vW tok Z Z ?_|(refine wL ?_;refine wG (xE tok (.inl ⟨rfl,rfl⟩) Z Z Z Z) Z ?_)|(refine xB ?_;refine uS (nw:=[1005]) (yH tok 1005 (xs:=[]) Z Z Z Z Z Z Z Z Z) Z Z Z ?_)|(refine xC ?_;refine wF tok Z Z Z Z Z Z Z (xO _ _ (λ_=>rfl)) Z Z Z zB Z ?_)|refine qJ ?_)|(first|refine xS ?_|refine xD ?_|refine vI Z ?_|refine zY Z ?_|refine zS Z ?_|refine xL Z (λhc=>?_) λhc=>?_|refine xA ?_|refine yT ?_|refine xF ?_|refine yW ?_))
  exact zL [1005] Z Z Z Z
def NI (d:yY):AV:=wC d.rg (zD yG d.rq) (.ref 1005 0 (d.dr.map qY).length) (zD bA d.au)
def zGv (d:yY) (hb:fI d):zN 127 [zI d] [] (NI d) [(1005,.arr 1 (d.dr.map qY) false)]:=by
 have k1:=HR d.rg hb.rg;have hq:=hb.q;have hdn:=hb.n;have hau:=hb.a;have k2:=XJ d.rq zB;have k3:=zGu d.dr zB;have k4:=CY d.au zB;have hlq:=zA yG d.rq;have hld:=zA qY d.dr;unfold NI zI wC;unfold uX at k1;refine eM call127 λF hF=>?_
 refine yR (vH k1 k2) ?_;refine zO ((d.rq.map yG).length) [1001,1,2] [1,2] [1,2,15] [16,1,2,15] Z (λi T U=>⟨(16,iA i)::T,(1001,.arr 5 (kN i (d.rq.map yG)) false)::U⟩) ?_;(conv=>whnf);refine⟨by rfl,?_,?_⟩
 ·intro i hi;have hi':i<d.rq.length:=by omega
  have hy:(kN i (d.rq.map yG))[i]? =some (yG (d.rq.getD i default)):=zM yG d.rq i hi';have e:=qT yG d.rq i hi';have c2:=dP (d.rq.getD i default).legs (hb.g (d.rq.getD i default) bE);generalize (d.rq.getD i default)=t at *;generalize kN i (d.rq.map yG)=xs at *;generalize kN (i+1) (d.rq.map yG)=ys at *;subst e;refine zV c2 ?_;rfl
 ·(refine zV k3 ?_)
  refine zO ((d.dr.map qY).length) [1005,1,2,1001] [1,2,1001] [1,2,38] [39,1,2,38] Z (λi T U=>⟨(39,iA i)::T,(1005,.arr 1 (kN i (d.dr.map qY)) false)::U⟩) ?_;(conv=>whnf);refine⟨by rfl,?_,?_⟩
  ·intro i hi;have hi':i<d.dr.length:=by omega
   have hy:(kN i (d.dr.map qY))[i]? =some (qY (d.dr.getD i default)):=zM qY d.dr i hi';have e:=qT qY d.dr i hi';have c2:=wV (d.dr.getD i default) (by have:=hb.e (d.dr.getD i default) bE;omega);generalize (d.dr.getD i default)=t at *;generalize kN i (d.dr.map qY)=xs at *;generalize kN (i+1) (d.dr.map qY)=ys at *;subst e;refine zV c2 ?_;rfl
  ·(refine zV k4 ?_)
   refine zK [1005] Z Z ?_ Z
   show wC d.rg (.sl false ((d.rq.map yG).take (d.rq.map yG).length)) (.ref 1005 0 (d.dr.map qY).length) (zD bA d.au)=_
   rw[yAf];rfl
theorem KH (K:List Nat) (h:yC):∀l:List yY,uO K h (l.map zI)=l.map zI
 | []=>rfl
 |r::l=>by rw[yBb,uO,KH K h l];rfl
theorem QF (K:List Nat) (h:yC):∀l:List yY,wH K h (l.map zI)=l.map zI
 | []=>rfl
 |r::l=>by rw[yBb,wH,QF K h l];rfl
theorem VY:∀l:List yY,xY (l.map zI)=true
 | []=>rfl
 |r::l=>by rw[yBb,xY,VY l];rfl
def qZ (pre:List yY) (x:yY) (post:List yY):List AV:=pre.map zI++NI x::post.map zI
def QG (pre:List yY) (x:yY) (post:List yY):(qZ pre x post).length=pre.length+1+post.length:=by simp[qZ];omega
def zGw {K:List Nat} (hK:K.contains 1005=true) (h:yC) (pre:List yY) (x:yY) (post:List yY) (b:Bool):qK K h (.arr 17 (qZ pre x post) ⟨b,true⟩)= .arr 17 (qZ pre x post) ⟨b,true⟩:=by
 have e:uO K h (qZ pre x post)=qZ pre x post:=by
  unfold qZ;rw[PJ,KH,uO,KH]
  congr 2
  have er:wD K h (.ref 1005 0 (x.dr.map qY).length)= .ref 1005 0 (x.dr.map qY).length:=by
   unfold wD;rw[hK];rfl
  show AV.agg [_,_,_,_,_,_,_,_,_,_,_,_,_,_,_,wD K h (.ref 1005 0 (x.dr.map qY).length),_]=_
  rw[er];rfl
 have e2:xY (qZ pre x post)=false:=by
  unfold qZ;rw[YT,VY,xY];rfl
 show xN.arr 17 (uO K h (qZ pre x post)) ⟨b,!xY (uO K h (qZ pre x post))⟩=_
 rw[e,e2];rfl
def zNv (pre:List yY) (x:yY) (post:List yY):(qZ pre x post)[pre.length]? =some (NI x):=by
 unfold qZ;rw[yA1 zU,zZ9,yB9];rfl
def zB2 {pre:List yY} {x:yY} {post l:List yY} (hL:l=pre++x::post):(l.map zI).set pre.length (NI x)=qZ pre x post:=by
 subst hL;unfold qZ;rw[yAi,yBb,yC4 _ _ zU,zZ9,yB9];rfl
def zD6 {pre:List yY} {x:yY} {post l:List yY} (hL:l=pre++x::post) {i:Nat} (h1:pre.length<i) (h2:i<l.length):(qZ pre x post)[i]? =some (zI (l.getD i default)):=by
 subst hL;rw[<-zB2 Z,yD8 zB];exact zM zI _ i h2
def zTe (y:Cy) (pre:List yY) (x:yY) (post:List yY):AV:=bP y.c y.rf y.now (.ref 1011 0 y.ds.length) (zD wX y.sg) (zD wU y.sv) (zD iA y.st) (zD vO y.vw)
theorem zGx (y:Cy) (h:CyB y) (pre:List yY) (x:yY) (post:List yY) (hL:y.ds=pre++x::post):zN 116 [uC y] [] (zTe y pre x post) [(1011,.arr 17 (qZ pre x post) ⟨false,true⟩),(1005,.arr 1 (x.dr.map qY) false)]:=by
 have k1:=bQ y.ds (by have:=h.d;omega);have k2:=bR y.sg (by have:=h.g;omega);have k3:=bS y.sv (by have:=h.s;omega);have k4:=bT y.st (by have:=h.t;omega);have k5:=UI y.vw h.v h.vb;have hl1:=zA zI y.ds;have hl2:=zA wX y.sg;have hl3:=zA wU y.sv;have hl4:=zA iA y.st;have hd:=h.d;have hg:=h.g;have hs:=h.s;have hlen:y.ds.length=pre.length+1+post.length:=by rw[hL];simp;omega
 have hcl:=QG pre x post;have hfr:∀(K:List Nat) (H:yC),K.contains 1005=true->qK K H (.arr 17 (qZ pre x post) ⟨false,true⟩)= .arr 17 (qZ pre x post) ⟨false,true⟩:=λK H hK=>zGw hK H pre x post false
 unfold uC zTe bP;refine eM call116 λF hF=>?_
 refine zV k1 ?_;rw[hl1]
 refine wT (λn st=>∃i,n+i=y.ds.length/\st=if i<=pre.length then(⟨[(13,iA i),(1,.ptr 1 0 0),(2,.ptr 2 0 0),(12,iA y.ds.length)],[(1,.box [zD wJ y.c.js,zD wK y.c.ags,iA y.c.per,iA y.c.cap,iA y.c.hold,iA y.c.lock,bA y.rf,iA y.now,.ref 1011 0 y.ds.length,zD wX y.sg,zD wU y.sv,zD iA y.st,zD vO y.vw]),(2,.box [.s (.slice none 0 0),.s (.slice none 0 0),iA 0,iA 0,iA 0,iA 0,bA false,iA 0,.s (.slice none 0 0),.s (.slice none 0 0),.s (.slice none 0 0),.s (.slice none 0 0),.s (.slice none 0 0)]),(1011,.arr 17 (y.ds.map zI) false)]⟩:St)
  else⟨[(13,iA i),(1,.ptr 1 0 0),(2,.ptr 2 0 0),(12,iA y.ds.length)],[(1,.box [zD wJ y.c.js,zD wK y.c.ags,iA y.c.per,iA y.c.cap,iA y.c.hold,iA y.c.lock,bA y.rf,iA y.now,.ref 1011 0 y.ds.length,zD wX y.sg,zD wU y.sv,zD iA y.st,zD vO y.vw]),(2,.box [.s (.slice none 0 0),.s (.slice none 0 0),iA 0,iA 0,iA 0,iA 0,bA false,iA 0,.s (.slice none 0 0),.s (.slice none 0 0),.s (.slice none 0 0),.s (.slice none 0 0),.s (.slice none 0 0)]),(1011,.arr 17 (qZ pre x post) ⟨false,true⟩),(1005,.arr 1 (x.dr.map qY) false)]⟩) y.ds.length [1,2,1011,1005] [13,1,2,12] Z ⟨0,zB,by rw[zZ8 (yAp _)];rfl⟩ ?_
 rintro n st ⟨i,hi,rfl⟩;by_cases hip:i<pre.length
 ·rw[zZ8 zB];have hil:i<y.ds.length:=by omega
  have hy:=zM zI y.ds i hil;have c2:=dW (y.ds.getD i default) (h.db _ (zP y.ds i hil));have e:=qT zI y.ds i hil;generalize y.ds.getD i default=d at *;generalize y.ds.map zI=xs at *;have hsame:=fS hy;refine zV c2 ?_;refine⟨n-1,zB,i+1,zB,?_⟩;rw[zZ8 zB]
  show(⟨_,[_,_,(1011,.arr 17 (xs.set i (zI d)) false)]⟩:St)=_
  rw[hsame];rfl
 by_cases hie:i=pre.length
 ·rw[zZ8 zB];subst hie;have hil:pre.length<y.ds.length:=by omega
  have hx:y.ds.getD pre.length default=x:=by rw[hL,yAg,yA1 (yAb _),yB9];rfl
  have hy:=zM zI y.ds pre.length hil;have c2:=zGv (y.ds.getD pre.length default) (h.db _ (zP y.ds pre.length hil));rw[hx]at hy c2;have hof:=zB2 hL;generalize y.ds.map zI=xs at *;refine OG 1011 Z ?_;unfold NI at c2;refine zV c2 ?_;refine⟨n-1,zB,pre.length+1,zB,?_⟩;rw[zZ7 zB]
  show(⟨_,[_,_,(1011,qK _ _ (.arr 17 (xs.set pre.length (NI x)) ⟨false,true⟩)),_]⟩:St)=_
  rw[hof,hfr _ _ Z];rfl
 rw[zZ7 zB];by_cases hil:i<y.ds.length
 ·have hy:=zD6 hL zB hil;have c2:=dW (y.ds.getD i default) (h.db _ (zP y.ds i hil));have hsame:=fS hy;generalize y.ds.getD i default=d at *;generalize qZ pre x post=cs at *;refine zV c2 ?_;refine⟨n-1,zB,i+1,zB,?_⟩;rw[zZ7 zB]
  show(⟨_,[_,_,(1011,qK _ _ (.arr 17 (cs.set i (zI d)) ⟨false,true⟩)),_]⟩:St)=_
  rw[hsame,hfr _ _ Z];rfl
 have hie2:i=y.ds.length:=by omega
 subst hie2;generalize qZ pre x post=cs at *;refine zV k2 ?_;rw[hl2];refine wT (λn st=>∃i,n+i=y.sg.length/\st=(⟨[(34,iA i),(1,.ptr 1 0 0),(2,.ptr 2 0 0),(33,iA y.sg.length)],[(1,.box [zD wJ y.c.js,zD wK y.c.ags,iA y.c.per,iA y.c.cap,iA y.c.hold,iA y.c.lock,bA y.rf,iA y.now,.ref 1011 0 y.ds.length,.ref 1012 0 y.sg.length,zD wU y.sv,zD iA y.st,zD vO y.vw]),(2,.box [.s (.slice none 0 0),.s (.slice none 0 0),iA 0,iA 0,iA 0,iA 0,bA false,iA 0,.s (.slice none 0 0),.s (.slice none 0 0),.s (.slice none 0 0),.s (.slice none 0 0),.s (.slice none 0 0)]),(1011,.arr 17 cs ⟨false,true⟩),(1005,.arr 1 (x.dr.map qY) false),(1012,.arr 5 (y.sg.map wX) false)]⟩:St)) y.sg.length [1,2,1011,1005,1012] [34,1,2,33] Z ⟨0,zB,?_⟩ ?_
 ·show(⟨_,[_,_,(1011,qK _ _ (.arr 17 cs ⟨false,true⟩)),_,_]⟩:St)=_
  rw[hfr _ _ Z];rfl
 rintro n st ⟨i,hi2,rfl⟩;by_cases hil:i<y.sg.length
 ·have hy:=zM wX y.sg i hil;have hgb:=h.gb _ (zP y.sg i hil);have c2:=zCl (y.sg.getD i default) zB zB;have hsame:=fS hy;generalize y.sg.getD i default=d at *;generalize y.sg.map wX=xs at *;refine zV c2 ?_;refine⟨n-1,zB,i+1,zB,?_⟩
  show(⟨_,[_,_,(1011,qK _ _ (.arr 17 cs ⟨false,true⟩)),_,(1012,.arr 5 (xs.set i (wX d)) false)]⟩:St)=_
  rw[hsame,hfr _ _ Z];rfl
 have hie3:i=y.sg.length:=by omega
 subst hie3;refine zV k3 ?_;rw[hl3];refine wT (λn st=>∃i,n+i=y.sv.length/\st=(⟨[(55,iA i),(1,.ptr 1 0 0),(2,.ptr 2 0 0),(54,iA y.sv.length)],[(1,.box [zD wJ y.c.js,zD wK y.c.ags,iA y.c.per,iA y.c.cap,iA y.c.hold,iA y.c.lock,bA y.rf,iA y.now,.ref 1011 0 y.ds.length,.ref 1012 0 y.sg.length,.ref 1013 0 y.sv.length,zD iA y.st,zD vO y.vw]),(2,.box [.s (.slice none 0 0),.s (.slice none 0 0),iA 0,iA 0,iA 0,iA 0,bA false,iA 0,.s (.slice none 0 0),.s (.slice none 0 0),.s (.slice none 0 0),.s (.slice none 0 0),.s (.slice none 0 0)]),(1011,.arr 17 cs ⟨false,true⟩),(1005,.arr 1 (x.dr.map qY) false),(1012,.arr 5 (y.sg.map wX) false),(1013,.arr 3 (y.sv.map wU) false)]⟩:St)) y.sv.length [1,2,1011,1005,1012,1013] [55,1,2,54] Z ⟨0,zB,?_⟩ ?_
 ·show(⟨_,[_,_,(1011,qK _ _ (.arr 17 cs ⟨false,true⟩)),_,_,_]⟩:St)=_
  rw[hfr _ _ Z];rfl
 rintro n st ⟨i,hi3,rfl⟩;by_cases hil:i<y.sv.length
 ·have hy:=zM wU y.sv i hil;have hsb:=h.sb _ (zP y.sv i hil);have c2:=XW (y.sv.getD i default) ⟨zB⟩;have hsame:=fS hy;generalize y.sv.getD i default=d at *;generalize y.sv.map wU=xs at *;refine zV c2 ?_;refine⟨n-1,zB,i+1,zB,?_⟩
  show(⟨_,[_,_,(1011,qK _ _ (.arr 17 cs ⟨false,true⟩)),_,_,(1013,.arr 3 (xs.set i (wU d)) false)]⟩:St)=_
  rw[hsame,hfr _ _ Z];rfl
 have hie4:i=y.sv.length:=by omega
 subst hie4;refine yR (vH k4 k5) ?_;refine zK [1011,1005] Z Z ?_ ?_
 ·show AV.agg [zD wJ y.c.js,zD wK y.c.ags,iA y.c.per,iA y.c.cap,iA y.c.hold,iA y.c.lock,bA y.rf,iA y.now,.ref 1011 0 y.ds.length,.sl false (List.take y.sg.length (y.sg.map wX)),.sl false (List.take y.sv.length (y.sv.map wU)),.sl false (List.take (y.st.map iA).length (y.st.map iA)),zD vO y.vw]=_
  rw[yAj (yB7 hl2),yAj (yB7 hl3),yAf];rfl
 ·show [(1011,qK _ _ (.arr 17 cs ⟨false,true⟩)),(1005,_)]=_
  rw[hfr _ _ Z];rfl
def zGy {h:yC} {pre post:List yY} {x:yY} {b fl:Bool} (h1:h 1011=some (.arr 17 (qZ pre x post) ⟨b,true⟩)) (h2:h 1005=some (.arr 1 (x.dr.map qY) ⟨fl,false⟩)):
  wD [] h (.ref 1011 0 (qZ pre x post).length)=zD zI (pre++x::post):=by
 have e:wH [] h (qZ pre x post)=(pre++x::post).map zI:=by
  unfold qZ;rw[UQ,QF,wH,QF,yAi,yBb]
  congr 1
  congr 1
  have e2:uT [] h (.ref 1005 0 (x.dr.map qY).length)=zD qY x.dr:=by
   simp only[uT,h2]
   show AV.sl false (((x.dr.map qY).drop 0).take (x.dr.map qY).length)=_
   rw[yA9,yAf];rfl
  show AV.agg [_,_,_,_,_,_,_,_,_,_,_,_,_,_,_,uT [] h (.ref 1005 0 (x.dr.map qY).length),_]=_
  rw[e2];rfl
 have hl2:(qZ pre x post).length=((pre++x::post).map zI).length:=by rw[QG];simp;omega
 rw[hl2];simp only[wD,h1]
 show(bif xY (wH [] h (qZ pre x post))then AV.sl false (((wH [] h (qZ pre x post)).drop 0).take _)else .bot)=_
 rw[e,VY,yA9,yAf];rfl
def drD (d:yY) (x:List Int):yY:=⟨d.rg,d.rq,d.dr++[x],d.au⟩
def AI (y:Cy) (a:Int) (x:List Int):Cy:=if(0<=a/\a<(y.ds.length:Int))/\x.length=8/\(y.ds.getD a.toNat default).dr.length<8 then⟨y.c,false,y.now,y.ds.set a.toNat (drD (y.ds.getD a.toNat default) x),y.sg,y.sv,y.st,y.vw⟩else y
theorem zGz (y:Cy) (h:XS y) (a:Int) (d:List Int) (hd:BY d) (hd9:d.length<=1000000):∃y':Cy,XS y'/\y'=AI y a d/\zN 82 [uC y,iA a,zD yA d] [] (uC y') []:=by
 have hb:=h.b;have hrf:=h.rf;have hdl:=zA zI y.ds;have hdm:=zA yA d;have eC:uC y= .agg [zD wJ y.c.js,zD wK y.c.ags,iA y.c.per,iA y.c.cap,iA y.c.hold,iA y.c.lock,bA false,iA y.now,zD zI y.ds,zD wX y.sg,zD wU y.sv,zD iA y.st,zD vO y.vw]:=by rw[<-hrf];rfl
 by_cases ha:0<=a/\a<(y.ds.length:Int)
 case neg=>
  refine⟨y,h,by unfold AI;rw[zZ7 (λh=>ha h.1)],?_⟩;have k1:=bU y hb;rw[eC]at k1⊢;by_cases h0:a<0
  ·(refine eM call82 λF hF=>?_)
   refine zV k1 ?_;exact zJ
  ·(refine eM call82 λF hF=>?_)
   refine zV k1 ?_;exact zJ
 obtain⟨a0,a1⟩:=ha;by_cases h8:d.length=8
 case neg=>
  refine⟨y,h,by unfold AI;rw[zZ7 (λh=>h8 h.2.1)],?_⟩;have k1:=bU y hb;rw[eC]at k1⊢;refine eM call82 λF hF=>?_
  refine zV k1 ?_;exact zJ
 have hyd:=yI zI y.ds a a0 a1;have hI:=h.di _ (zP y.ds a.toNat zB);have hdn:=hI.dn;by_cases hr:(y.ds.getD a.toNat default).dr.length<8
 case neg=>
  refine⟨y,h,by unfold AI;rw[zZ7 (λh=>hr h.2.2)],?_⟩;have k1:=QS y hb;unfold zIu zIv bP at k1;rw[eC,hrf]at k1;rw[eC];generalize y.ds.getD a.toNat default=x at *;have hxl:=zA qY x.dr;unfold zI wC at hyd;refine eM call82 λF hF=>?_
  (have zc1:=k1;(repeat' (first|refine uL ?_|((first|apply xM|apply wA)<;>intro hc)|(refine zE ?_;first|(refine zA7 ?_;refine wG (jZ Z Z hyd) Z ?_))|fail))<;>clear zc1)
  refine zK [] Z Z ?_ Z
  show AV.agg [zD wJ y.c.js,zD wK y.c.ags,iA y.c.per,iA y.c.cap,iA y.c.hold,iA y.c.lock,bA false,iA y.now,.sl false (List.take (y.ds.map zI).length (y.ds.map zI)),.sl false (List.take (y.sg.map wX).length (y.sg.map wX)),.sl false (List.take (y.sv.map wU).length (y.sv.map wU)),.sl false (List.take (y.st.map iA).length (y.st.map iA)),zD vO y.vw]=_
  rw[yAf,yAf,yAf,yAf];rfl
 obtain⟨n,hn⟩:∃n:Nat,a=(n:Int):=⟨a.toNat,zB⟩;subst hn;have hnl:n<y.ds.length:=by omega
 rw[yAx]at hI hr hdn
 have hL:y.ds=y.ds.take n++y.ds.getD n default::y.ds.drop (n+1):=by
  rw[yAg,yAn hnl]
  show _=_++y.ds[n]::_
  rw[<-yCr hnl,yDq]
 have hpn:(y.ds.take n).length=n:=by rw[yA3];omega
 have k1:=zGx y hb (y.ds.take n) (y.ds.getD n default) (y.ds.drop (n+1)) hL;have k2:=wV d zB;have hat:=zNv (y.ds.take n) (y.ds.getD n default) (y.ds.drop (n+1));have hcl:=QG (y.ds.take n) (y.ds.getD n default) (y.ds.drop (n+1));rw[hpn]at hat hcl;have hcl2:(qZ (y.ds.take n) (y.ds.getD n default) (y.ds.drop (n+1))).length=y.ds.length:=by rw[hcl,yBh];omega
 have hset:∀D:List (List Int),(qZ (y.ds.take n) (y.ds.getD n default) (y.ds.drop (n+1))).set n (NI ⟨(y.ds.getD n default).rg,(y.ds.getD n default).rq,D,(y.ds.getD n default).au⟩)=qZ (y.ds.take n) ⟨(y.ds.getD n default).rg,(y.ds.getD n default).rq,D,(y.ds.getD n default).au⟩ (y.ds.drop (n+1)):=λD=>by
  unfold qZ;rw[yC4 _ _ (by rw[zZ9,hpn];exact yAb _),zZ9,hpn,yB9];rfl
 have hds:∀x':yY,y.ds.take n++x'::y.ds.drop (n+1)=y.ds.set n x':=λx'=>by
  rw[List.set_eq_take_append_cons_drop,zZ8 hnl]
 refine⟨⟨y.c,false,y.now,y.ds.set n ⟨(y.ds.getD n default).rg,(y.ds.getD n default).rq,(y.ds.getD n default).dr++[d],(y.ds.getD n default).au⟩,y.sg,y.sv,y.st,y.vw⟩,⟨h.v,rfl,h.n0,by dsimp only;rw[yBv];exact h.dl,λz hz=>?_,λi hi=>?_,λz hz=>?_,h.gl,h.sl,h.tl,h.wl,h.wb,h.j⟩,by unfold AI;rw[yAx,zZ8 ⟨⟨a0,a1⟩,h8,hr⟩];rfl,?_⟩
 ·rcases yDt hz with hz|rfl
  ·exact h.di z hz
  ·refine⟨hI.b,hI.v,hI.q,hI.lg,hI.a,hI.n,hI.t8,hI.br,hI.bb,hI.bl,hI.au,?_,λx hx=>?_,hI.vh⟩
   ·dsimp only;rw[yAd];simp only[yAl,yBr];omega
   ·rcases yAw.1 hx with hx|hx
    ·exact hI.dr x hx
    ·rw[yA8.1 hx];exact⟨h8,hd⟩
 ·dsimp only at hi⊢;rw[yBv]at hi;rw[UC _ _ _ _ hi];split
  ·rename_i e;rw[<-e];exact h.dg n hnl
  ·exact h.dg i hi
 ·rcases yDt hz with hz|rfl
  ·exact h.sc z hz
  ·exact h.sc (y.ds.getD n default) (zP y.ds n hnl)
 ·unfold zTe bP at k1;rw[eC,hrf]at k1;rw[eC,<-hds];have hfin:=λH fl h1 h2=>zGy (h:=H) (pre:=y.ds.take n) (post:=y.ds.drop (n+1)) (x:=⟨(y.ds.getD n default).rg,(y.ds.getD n default).rq,(y.ds.getD n default).dr++[d],(y.ds.getD n default).au⟩) (b:=false) (fl:=fl) h1 h2
  rw[<-hset]at hfin;clear hL hds hset hyd hI hcl;rw[show∀l:List yY,uC ⟨y.c,false,y.now,l,y.sg,y.sv,y.st,y.vw⟩= .agg [zD wJ y.c.js,zD wK y.c.ags,iA y.c.per,iA y.c.cap,iA y.c.hold,iA y.c.lock,bA false,iA y.now,zD zI l,zD wX y.sg,zD wU y.sv,zD iA y.st,zD vO y.vw]from λ_=>rfl];generalize y.ds.getD n default=x at *;generalize qZ (y.ds.take n) x (y.ds.drop (n+1))=cs at *;have hxl:=zA qY x.dr;unfold NI wC at hat;refine eM call82 λF hF=>?_
  (have zc1:=k1;have zc2:=k2;(repeat' (first|refine uL ?_|((first|apply xM|apply wA)<;>intro hc)|(refine zE ?_;first|(refine zA7 ?_;refine wG (jZ Z Z hat) Z ?_))|fail))<;>clear zc1 zc2)
  simp only[NI,yAi]at hfin;rw[yBv,hcl2]at hfin;refine zK [] Z Z ?_ Z;refine(yA6 (λw=>AV.agg [zD wJ y.c.js,zD wK y.c.ags,iA y.c.per,iA y.c.cap,iA y.c.hold,iA y.c.lock,bA false,iA y.now,XC w,zD wX y.sg,zD wU y.sv,zD iA y.st,zD vO y.vw]) (hfin _ true ?_ ?_)).trans ?_
  ·rfl
  ·rfl
  ·rfl
def inR (b:VZ) (k:Int):Bool:=decide (0<=k/\k<(b.ss.length:Int))
def ssF (e:Ev) (s:Ss):Ss:=if e.k=1 then(if s.op=true then s else⟨true,false,[],false⟩)else if e.k=2 then⟨false,false,[],false⟩else FX s e.y
def doS (b:VZ) (e:Ev):VZ:=if inR b e.s=true then⟨b.y,b.ss.set e.s.toNat (ssF e (b.ss.getD e.s.toNat default))⟩else b
def sd0:AV:= .agg [.sl false [],.sl false []]
def dyF (y:Cy) (e:Ev):Cy:=if e.k=4 then AI y e.a e.y else zD8 y e.a e.b
def GB (d:yY):Int×List Rq:=(d.rg.num,d.rq)
def zD7 {α:Type} {l:List α} {i:Nat} {x:α} (h:l[i]? =some x):l.set i x=l:=by
 apply yBi;intro j;rw[yB8];split
 ·rename_i e;subst e;have:=(yAu.1 h).1;rw[zZ8 this,h]
 ·rfl
def zG0 {y:Cy} (hrf:y.rf=false) (e:Ev):(dyF y e).c=y.c/\(dyF y e).now=y.now/\(dyF y e).sg=y.sg/\(dyF y e).sv=y.sv/\(dyF y e).vw=y.vw/\(dyF y e).ds.map GB=y.ds.map GB:=by
 unfold dyF;split
 ·unfold AI;split
  ·rename_i hc;refine⟨rfl,rfl,rfl,rfl,rfl,?_⟩
   show(y.ds.set _ _).map GB=_
   rw[yB4];refine zD7 (yAa.trans ?_);rw[yAg,yAn zB];rfl
  ·exact⟨rfl,rfl,rfl,rfl,rfl,rfl⟩
 ·unfold zD8
  split<;>exact⟨rfl,rfl,rfl,rfl,rfl,rfl⟩
section
variable (b:VZ) (h:AN b)
include h
def AJ:∃N:Nat,b.ss.length=N/\N<=8:=by
 have hw:=h.y.v.ag;have h1:=h.l;have h2:=kY hw b.y.c.ags.length (yAb _);have h3:=hw.1;exact⟨_,rfl,zB⟩
theorem zZb (e:Ev) (hk:e.k=1∨e.k=2∨e.k=3) (hb:BY e.y) (hl:e.y.length<=1000000):zN 45 [cB b,gD e] [] (.tup [cB (doS b e),sd0,bA false]) []:=by
 obtain⟨N,hN,hN8⟩:=AJ b h;have k1:=YC b h;have hs:=h.s;have hsl:=zA jE b.ss;obtain⟨y,ss⟩:=b;dsimp only at *;unfold doS inR;dsimp only;unfold cB UA at *;dsimp only at *;by_cases hr:0<=e.s/\e.s<(ss.length:Int)
 ·rw[zZ8 (yAe hr)];obtain⟨r0,r1⟩:=hr;have hy:=yI jE ss e.s r0 r1;have hI:=hs _ (zP ss e.s.toNat zB);have hIn:=hI.n;have ko:=zNz (ss.getD e.s.toNat default) zB;have kd:=zN0 (ss.getD e.s.toNat default);have kr:=zTg (ss.getD e.s.toNat default) hIn e.y hl;dsimp only;rw[show zD jE (ss.set e.s.toNat (ssF e (ss.getD e.s.toNat default)))= .sl false ((ss.map jE).set e.s.toNat (jE (ssF e (ss.getD e.s.toNat default)))) by unfold zD;rw[yB4]];unfold ssF;clear hI;obtain⟨ek,es,ea,en,eb⟩:=e;dsimp only at *;generalize ss.getD es.toNat default=s at*
  rcases hk with rfl|rfl|rfl
  ·rw[zZ8 Z];generalize (if s.op=true then s else⟨true,false,[],false⟩:Ss)=s1 at *;unfold gD;refine eM call45 λF hF=>?_
   refine yR (vH k1 ko) ?_;refine zK [] Z Z ?_ Z
   show AV.tup [AV.agg [zD wJ y.c.js,zD wK y.c.ags,iA y.c.per,iA y.c.cap,iA y.c.hold,iA y.c.lock,bA false,iA y.now,zD zI y.ds,zD wX y.sg,zD wU y.sv,zD iA y.st,zD vO y.vw,.sl false (List.take ss.length ((ss.map jE).set es.toNat (jE s1)))],sd0,bA false]=_
   rw[yAj zL3]
  ·rw[zZ7 xG,zZ8 Z];unfold gD;refine eM call45 λF hF=>?_
   refine yR (vH k1 kd) ?_;refine zK [] Z Z ?_ Z
   show AV.tup [AV.agg [zD wJ y.c.js,zD wK y.c.ags,iA y.c.per,iA y.c.cap,iA y.c.hold,iA y.c.lock,bA false,iA y.now,zD zI y.ds,zD wX y.sg,zD wU y.sv,zD iA y.st,zD vO y.vw,.sl false (List.take ss.length ((ss.map jE).set es.toNat (jE ⟨false,false,[],false⟩)))],sd0,bA false]=_
   rw[yAj zL3]
  ·rw[zZ7 xG,zZ7 xG];unfold gD;refine eM call45 λF hF=>?_
   refine yR (vH k1 kr) ?_;refine zK [] Z Z ?_ Z
   show AV.tup [AV.agg [zD wJ y.c.js,zD wK y.c.ags,iA y.c.per,iA y.c.cap,iA y.c.hold,iA y.c.lock,bA false,iA y.now,zD zI y.ds,zD wX y.sg,zD wU y.sv,zD iA y.st,zD vO y.vw,.sl false (List.take ss.length ((ss.map jE).set es.toNat (jE (FX s eb))))],sd0,bA false]=_
   rw[yAj zL3]
 ·rw[zZ7 (by rw[yAc];exact hr)];dsimp only;obtain⟨ek,es,ea,en,eb⟩:=e;dsimp only at*
  rcases hk with rfl|rfl|rfl
  all_goals
   unfold gD;dsimp only;by_cases h0:es<0
   ·(refine eM call45 λF hF=>?_)
    refine zV k1 ?_;refine zK [] Z Z ?_ Z
    show AV.tup [AV.agg [zD wJ y.c.js,zD wK y.c.ags,iA y.c.per,iA y.c.cap,iA y.c.hold,iA y.c.lock,bA false,iA y.now,zD zI y.ds,zD wX y.sg,zD wU y.sv,zD iA y.st,zD vO y.vw,.sl false (List.take ss.length (ss.map jE))],sd0,bA false]=_
    rw[yAj (yB7 hsl)];rfl
   ·(refine eM call45 λF hF=>?_)
    refine zV k1 ?_;refine zK [] Z Z ?_ Z
    show AV.tup [AV.agg [zD wJ y.c.js,zD wK y.c.ags,iA y.c.per,iA y.c.cap,iA y.c.hold,iA y.c.lock,bA false,iA y.now,zD zI y.ds,zD wX y.sg,zD wU y.sv,zD iA y.st,zD vO y.vw,.sl false (List.take ss.length (ss.map jE))],sd0,bA false]=_
    rw[yAj (yB7 hsl)];rfl
theorem zZc (e:Ev) (hk:e.k=4∨e.k=5) (hb:BY e.y) (hl:e.y.length<=1000000):∃y':Cy,XS y'/\y'=dyF b.y e/\zN 45 [cB b,gD e] [] (.tup [cB ⟨y',b.ss⟩,sd0,bA false]) []:=by
 obtain⟨N,hN,hN8⟩:=AJ b h;have k1:=YC b h;have hsl:=zA jE b.ss;obtain⟨y,ss⟩:=b;have hy:=h.y;dsimp only at *;obtain⟨ek,es,ea,en,eb⟩:=e;dsimp only at*
 rcases hk with rfl|rfl
 ·obtain⟨y',i1,i2,kd⟩:=zGz y hy ea eb hb hl;refine⟨y',i1,by rw[i2];rfl,?_⟩;have hrf:=hy.rf;have hrf':=i1.rf;have eC:uC y= .agg [zD wJ y.c.js,zD wK y.c.ags,iA y.c.per,iA y.c.cap,iA y.c.hold,iA y.c.lock,bA false,iA y.now,zD zI y.ds,zD wX y.sg,zD wU y.sv,zD iA y.st,zD vO y.vw]:=by rw[<-hrf];rfl
  have eC':uC y'= .agg [zD wJ y'.c.js,zD wK y'.c.ags,iA y'.c.per,iA y'.c.cap,iA y'.c.hold,iA y'.c.lock,bA false,iA y'.now,zD zI y'.ds,zD wX y'.sg,zD wU y'.sv,zD iA y'.st,zD vO y'.vw]:=by rw[<-hrf'];rfl
  rw[eC,eC']at kd;unfold cB UA at *;dsimp only at *;unfold gD;dsimp only;by_cases h0:es<0
  ·(refine eM call45 λF hF=>?_)
   refine yR (vH k1 kd) ?_;refine zK [] Z Z ?_ Z
   show AV.tup [AV.agg [zD wJ y'.c.js,zD wK y'.c.ags,iA y'.c.per,iA y'.c.cap,iA y'.c.hold,iA y'.c.lock,bA false,iA y'.now,zD zI y'.ds,zD wX y'.sg,zD wU y'.sv,zD iA y'.st,zD vO y'.vw,.sl false (List.take ss.length (ss.map jE))],sd0,bA false]=_
   rw[yAj (yB7 hsl)];rfl
  ·(refine eM call45 λF hF=>?_)
   refine yR (vH k1 kd) ?_;refine zK [] Z Z ?_ Z
   show AV.tup [AV.agg [zD wJ y'.c.js,zD wK y'.c.ags,iA y'.c.per,iA y'.c.cap,iA y'.c.hold,iA y'.c.lock,bA false,iA y'.now,zD zI y'.ds,zD wX y'.sg,zD wU y'.sv,zD iA y'.st,zD vO y'.vw,.sl false (List.take ss.length (ss.map jE))],sd0,bA false]=_
   rw[yAj (yB7 hsl)];rfl
 ·obtain⟨y',i1,i2,kd⟩:=zD9 y hy ea en;refine⟨y',i1,by rw[i2];rfl,?_⟩;have hrf:=hy.rf;have hrf':=i1.rf;have eC:uC y= .agg [zD wJ y.c.js,zD wK y.c.ags,iA y.c.per,iA y.c.cap,iA y.c.hold,iA y.c.lock,bA false,iA y.now,zD zI y.ds,zD wX y.sg,zD wU y.sv,zD iA y.st,zD vO y.vw]:=by rw[<-hrf];rfl
  have eC':uC y'= .agg [zD wJ y'.c.js,zD wK y'.c.ags,iA y'.c.per,iA y'.c.cap,iA y'.c.hold,iA y'.c.lock,bA false,iA y'.now,zD zI y'.ds,zD wX y'.sg,zD wU y'.sv,zD iA y'.st,zD vO y'.vw]:=by rw[<-hrf'];rfl
  rw[eC,eC']at kd;unfold cB UA at *;dsimp only at *;unfold gD;dsimp only;by_cases h0:es<0
  ·(refine eM call45 λF hF=>?_)
   refine yR (vH k1 kd) ?_;refine zK [] Z Z ?_ Z
   show AV.tup [AV.agg [zD wJ y'.c.js,zD wK y'.c.ags,iA y'.c.per,iA y'.c.cap,iA y'.c.hold,iA y'.c.lock,bA false,iA y'.now,zD zI y'.ds,zD wX y'.sg,zD wU y'.sv,zD iA y'.st,zD vO y'.vw,.sl false (List.take ss.length (ss.map jE))],sd0,bA false]=_
   rw[yAj (yB7 hsl)];rfl
  ·(refine eM call45 λF hF=>?_)
   refine yR (vH k1 kd) ?_;refine zK [] Z Z ?_ Z
   show AV.tup [AV.agg [zD wJ y'.c.js,zD wK y'.c.ags,iA y'.c.per,iA y'.c.cap,iA y'.c.hold,iA y'.c.lock,bA false,iA y'.now,zD zI y'.ds,zD wX y'.sg,zD wU y'.sv,zD iA y'.st,zD vO y'.vw,.sl false (List.take ss.length (ss.map jE))],sd0,bA false]=_
   rw[yAj (yB7 hsl)];rfl
theorem FD (ss:List Ss):dC ss ss.length=ss.map λs=>(XR s).1:=by
 unfold dC;apply yBi;intro j;rw[vQ,yAa];by_cases hj:j<ss.length
 ·rw[zZ8 hj,zZ8 hj,yAn hj];simp only[Option.map_some,yAg,yAn hj,yCd]
 ·rw[zZ7 hj,yAz zB];rfl
def zZd (hn:b.y.now<1000000000) (e:Ev) (hk:e.k=6):∃(y':Cy) (Td:List (List Ms)),MtP b.y y' (cC b.ss) Td/\zN 118 [uC b.y,zD jG (cC b.ss)] [] (.tup [uC y',tdO Td (NJ (b.y.now+1) y'.vw)]) (tdH Td)/\zN 45 [cB b,gD e] [] (.tup [cB ⟨y',dC b.ss b.ss.length⟩,sdA (Td.map TZ) (TZ [NJ (b.y.now+1) y'.vw]),bA true]) []:=by
 obtain⟨N,hN,hN8⟩:=AJ b h;have k1:=YC b h;have hlen:(cC b.ss).length=b.ss.length:=by unfold cC;rw[zZ9]
 obtain⟨y',Td,hM,km⟩:=zHb b.y h.y hn (cC b.ss) (by rw[hlen];exact h.l) (λi hi=>by
  unfold cC at hi;obtain⟨s,hs,rfl⟩:=yA5.1 hi
  exact(zHa (h.s s hs)).2)
 have kd:=zHf b h y' Td hM (zTi km);refine⟨y',Td,hM,km,?_⟩;have hsl:=zA jE b.ss;have hsl2:((dC b.ss b.ss.length).map jE).length=b.ss.length:=by unfold dC;rw[zZ9,wP]
 clear km;obtain⟨y,ss⟩:=b;obtain⟨ek,es,ea,en,eb⟩:=e;dsimp only at *;subst hk;unfold sdA at *;generalize Td.map TZ=S at *;generalize TZ [NJ (y.now+1) y'.vw]=fb at *;unfold cB UA at *;dsimp only at *;rw[show zD jE (dC ss ss.length)= .sl false ((dC ss ss.length).map jE)from Z];generalize (dC ss ss.length).map jE=X at *;unfold gD;dsimp only;by_cases h0:es<0
 ·(refine eM call45 λF hF=>?_)
  refine yR (vH k1 kd) ?_;refine zK [] Z Z ?_ Z
  show AV.tup [AV.agg [zD wJ y'.c.js,zD wK y'.c.ags,iA y'.c.per,iA y'.c.cap,iA y'.c.hold,iA y'.c.lock,bA false,iA y'.now,zD zI y'.ds,zD wX y'.sg,zD wU y'.sv,zD iA y'.st,zD vO y'.vw,.sl false (List.take ss.length X)],AV.agg [zD (zD yA) S,zD yA fb],bA true]=_
  rw[yAj (yB7 hsl2)]
 ·(refine eM call45 λF hF=>?_)
  refine yR (vH k1 kd) ?_;refine zK [] Z Z ?_ Z
  show AV.tup [AV.agg [zD wJ y'.c.js,zD wK y'.c.ags,iA y'.c.per,iA y'.c.cap,iA y'.c.hold,iA y'.c.lock,bA false,iA y'.now,zD zI y'.ds,zD wX y'.sg,zD wU y'.sv,zD iA y'.st,zD vO y'.vw,.sl false (List.take ss.length X)],AV.agg [zD (zD yA) S,zD yA fb],bA true]=_
  rw[yAj (yB7 hsl2)]
end
section
structure DoR where
 b:VZ
 S:List (List Int)
 f:List Int
 fl:Bool
structure zG1 (b:VZ) (e:Ev) (r:DoR):Prop where
 i:AN r.b
 c:r.b.y.c=b.y.c
 n:b.y.now<=r.b.y.now/\r.b.y.now<=b.y.now+1
 s:e.k=1∨e.k=2∨e.k=3->r=⟨doS b e,[],[],false⟩
 t:r.fl=true->r.S.length=b.ss.length
 f6:r.fl=true->e.k=6
 y:e.k=4∨e.k=5->r=⟨⟨dyF b.y e,b.ss⟩,[],[],false⟩
 t6:e.k=6->∃(y':Cy) (Td:List (List Ms)),MtP b.y y' (cC b.ss) Td/\r=⟨⟨y',dC b.ss b.ss.length⟩,Td.map TZ,TZ [NJ (b.y.now+1) y'.vw],true⟩/\zN 118 [uC b.y,zD jG (cC b.ss)] [] (.tup [uC y',tdO Td (NJ (b.y.now+1) y'.vw)]) (tdH Td)
 k:zN 45 [cB b,gD e] [] (.tup [cB r.b,sdA r.S r.f,bA r.fl]) []
def zW9 {e:Ev} (he:BY e.y) {s:Ss} (h:SsI s):SsI (ssF e s):=by
 unfold ssF;split
 ·split
  ·exact h
  ·exact⟨fP,yAp _⟩
 ·split
  ·exact⟨fP,yAp _⟩
  ·exact zTh h he
def zXa {b:VZ} (h:AN b) {e:Ev} (he:BY e.y):AN (doS b e):=by
 unfold doS;split
 ·refine⟨h.y,by dsimp only;rw[yBv];exact h.l,λs hs=>?_⟩;rename_i hr;unfold inR at hr;rw[yAc]at hr
  rcases yDt hs with hs|rfl
  ·exact h.s s hs
  ·exact zW9 he (h.s _ (zP b.ss _ zB))
 ·exact h
def zXb (b:VZ) (h:AN b) (hn:b.y.now<1000000000) (e:Ev) (he:FU e):∃r,zG1 b e r:=by
 have hk:=he.k;have hyn:=he.n;have hcs:(e.k=1∨e.k=2∨e.k=3)∨(e.k=4∨e.k=5)∨e.k=6:=by omega
 rcases hcs with hk|hk|hk
 ·have k:=zZb b h e hk he.y zB
  have e1:(doS b e).y=b.y:=by unfold doS;split<;>rfl
  exact⟨⟨doS b e,[],[],false⟩,zXa h he.y,by dsimp only;rw[e1],by dsimp only;rw[e1];omega,λ_=>rfl,λh=>(by cases h),λh=>(by cases h),λh=>zB,λh=>zB,k⟩
 ·obtain⟨y',i1,i3,k⟩:=zZc b h e hk he.y zB;obtain⟨i2,i4,_⟩:=zG0 h.y.rf e;rw[<-i3]at i2 i4;exact⟨⟨⟨y',b.ss⟩,[],[],false⟩,⟨i1,by dsimp only;rw[i2];exact h.l,h.s⟩,i2,by dsimp only;omega,λh=>zB,λh=>(by cases h),λh=>(by cases h),λ_=>by rw[i3],λh=>zB,k⟩
 ·obtain⟨y',Td,hM,km,k⟩:=zZd b h hn e hk;have hll:(cC b.ss).length=b.ss.length:=by unfold cC;rw[zZ9]
  refine⟨⟨⟨y',dC b.ss b.ss.length⟩,Td.map TZ,TZ [NJ (b.y.now+1) y'.vw],true⟩,⟨hM.i,?_,λs hs=>?_⟩,hM.c,by have:=hM.n;dsimp only;omega,λh=>zB,λ_=>by dsimp only;rw[zZ9,hM.l,hll],λ_=>hk,λh=>zB,λ_=>⟨y',Td,hM,rfl,km⟩,k⟩
  ·dsimp only;rw[hM.c,FD b h,zZ9];exact h.l
  ·dsimp only at hs;rw[FD b h]at hs;obtain⟨s0,hs0,rfl⟩:=yA5.1 hs;exact(zHa (h.s s0 hs0)).1
open Classical in
noncomputable def XM (b:VZ) (e:Ev):DoR:=if h:∃r,zG1 b e r then h.choose else⟨b,[],[],false⟩
def QH {b:VZ} (h:AN b) (hn:b.y.now<1000000000) {e:Ev} (he:FU e):zG1 b e (XM b e):=by
 have hx:=zXb b h hn e he;unfold XM;rw[dif_pos hx];exact hx.choose_spec
theorem zG1.st {b:VZ} (h:AN b) {e:Ev} {r:DoR} (he:FU e) (D:zG1 b e r) (hf:r.fl=false):r.b.y.now=b.y.now/\r.b.y.sg=b.y.sg/\r.b.y.sv=b.y.sv/\r.b.y.vw=b.y.vw/\r.b.y.ds.map GB=b.y.ds.map GB:=by
 have hk:=he.k;have hc:(e.k=1∨e.k=2∨e.k=3)∨(e.k=4∨e.k=5)∨e.k=6:=by omega
 rcases hc with hc|hc|hc
 ·have e1:(doS b e).y=b.y:=by unfold doS;split<;>rfl
  rw[D.s hc];dsimp only;rw[e1];exact⟨rfl,rfl,rfl,rfl,rfl⟩
 ·rw[D.y hc];exact(zG0 h.y.rf e).2
 ·obtain⟨_,_,_,e2,_⟩:=D.t6 hc;rw[e2]at hf;cases hf
noncomputable def aN:VZ->List Ev->VZ
 |b,[]=>b
 |b,e::l=>aN (XM b e).b l
noncomputable def rnS:VZ->List Ev->List (List (List Int)×List Int)
 |_,[]=>[]
 |b,e::l=>(if(XM b e).fl=true then [((XM b e).S,(XM b e).f)]else [])++rnS (XM b e).b l
def zNw (b:VZ) (l m:List Ev):aN b (l++m)=aN (aN b l) m:=by
 induction l generalizing b with
 |nil=>rfl
 |cons e l ih=>exact ih _
theorem zG2:∀(l:List Ev) {b:VZ},AN b->(∀e∈l,FU e)->b.y.now+(l.length:Int)<1000000000->AN (aN b l)/\(aN b l).y.c=b.y.c/\b.y.now<=(aN b l).y.now/\(aN b l).y.now<=b.y.now+(l.length:Int)/\(rnS b l).length<=l.length
 | [],b,h,_,_=>⟨h,rfl,yB6 _,by simp[aN],yAb _⟩
 | e::l,b,h,he,hn=>by
  rw[yAl]at hn;have k:=QH h zB (he e zU);have kn:=k.n;obtain⟨i1,i2,i3,i4,i5⟩:=zG2 l k.i (λx hx=>he x MD) zB;refine⟨i1,i2.trans k.c,?_,?_,?_⟩
  ·show b.y.now<=(aN (XM b e).b l).y.now
   omega
  ·show(aN (XM b e).b l).y.now<=_
   rw[yAl];omega
  ·show((if(XM b e).fl=true then [((XM b e).S,(XM b e).f)]else [])++rnS (XM b e).b l).length<=_
   rw[yAd,yAl];split
   ·simp only[yAl,yBr];omega
   ·simp only[yBr];omega
end
theorem KI:∀{pre l:List Lg},jR pre l=true->∀g∈l,NG g=true
 |_,[],_,_,h=>by cases h
 |pre,x::l,h,g,hg=>by
  unfold jR at h;simp only[yAk]at h
  rcases yBd.1 hg with rfl|hg
  ·exact h.1
  ·exact KI h.2.2 g hg
theorem SZ:∀{p0 pre post:List Lg} {g:Lg},jR p0 (pre++g::post)=true->∀y∈p0++pre,y.jn≠g.jn
 |p0,[],post,g,h,y,hy=>λe=>by
  rw[yBc]at hy;rw[yCo,zDa hy e]at h;cases h
 |p0,x::pre,post,g,h,y,hy=>by
  rw[yCu]at h;unfold jR at h;simp only[yAk]at h;exact SZ h.2.2 y (by simpa using hy)
def zB3 {k:Int} {ds:List yY} {x:Cl} (h:x∈vV k ds):∃d∈ds,∃r∈d.rq,∃g∈r.legs,g.jn=k/\g.sc≠ -1/\x=⟨d.rg.num,r.id,g.ph,r.cls,g.sc⟩:=by
 unfold vV at h;obtain⟨l1,h1,h2⟩:=yCn.1 h;obtain⟨d,hd,rfl⟩:=yA5.1 h1;unfold gR at h2;obtain⟨l2,h3,h4⟩:=yCn.1 h2;obtain⟨r,hr,rfl⟩:=yA5.1 h3;unfold NL at h4;split at h4
 ·cases h4
 ·rename_i h5;split at h4
  ·cases h4
  ·rename_i h6
   have ha:(r.legs.any λg:Lg=>g.jn==k)=true:=by
    cases ha:(r.legs.any λg:Lg=>g.jn==k)with
    |true=>rfl
    |false=>exact absurd (by unfold YS;rw[ha,zZ7 yAs];decide) h5
   have hlt:=II ha;have ei:(YS (λg:Lg=>g.jn==k) r.legs).toNat=r.legs.findIdx λg:Lg=>g.jn==k:=by unfold YS;rw[zZ8 ha,yAx]
   have hfi:(r.legs.findIdx λg:Lg=>g.jn==k)<r.legs.length:=by omega
   have hg:=List.findIdx_getElem (w:=hfi);rw[ei]at h4 h6
   have eg:r.legs.getD (r.legs.findIdx λg:Lg=>g.jn==k) default=r.legs[r.legs.findIdx λg:Lg=>g.jn==k]:=by
    rw[yAg,yAn hfi];rfl
   rw[eg]at h4 h6;exact⟨d,hd,r,hr,_,yCv hfi,by simpa using hg,h6,yA8.1 h4⟩
def zG3 {k:Int} {ds:List yY} {d:yY} {r:Rq} {g:Lg} (hd:d∈ds) (hr:r∈d.rq) (hg:g∈r.legs) (hv:NW r.legs=true) (hk:g.jn=k) (hs:g.sc≠ -1):⟨d.rg.num,r.id,g.ph,r.cls,g.sc⟩∈vV k ds:=by
 obtain⟨pre,post,e⟩:=yE7 hg;unfold NW at hv;rw[yAk,e]at hv;have hne:=SZ hv.2;rw[yCo]at hne;have hit:=WF (p:=λg:Lg=>g.jn==k) e (λy hy=>by have:=hne y hy;rw[hk]at this;simpa using this) (by simpa using hk)
 have hgd:r.legs.getD pre.length default=g:=by
  rw[e,yAg,yA1 (yAb _),yB9];rfl
 refine yCn.2 ⟨_,yA5.2 ⟨d,hd,rfl⟩,yCn.2 ⟨_,yA5.2 ⟨r,hr,rfl⟩,?_⟩⟩;unfold NL;rw[hit,zZ7 zB,yAx,hgd,zZ7 hs];exact yA8.2 Z
def RA (l:List Ag):Nat->Int
 |0=>0
 |i+1=>RA l i+(l.getD i default).req
theorem zB4 {k:Int} {ds:List yY} {ags:List Ag} (hl:ds.length=ags.length) (h:∀a,a<ds.length->((ds.getD a default).rq.length:Int)<=(ags.getD a default).req):∀i,i<=ds.length->((vV k (ds.take i)).length:Int)<=RA ags i
 |0,_=>by simp[vV,RA]
 | i+1,hi=>by
  have ih:=zB4 (k:=k) hl h i zB;have h1:=h i zB;have h2:=fQ (ds.getD i default).rg.num k (ds.getD i default).rq
  have e:ds.take (i+1)=ds.take i++[ds.getD i default]:=by
   rw[yAg,yAn zB];exact(yEf zB).symm
  rw[e,UE,yAd]
  show _<=RA ags i+(ags.getD i default).req
  omega
def zTf {k:Int} {a b:List yY} (h:a.map GB=b.map GB):vV k a=vV k b:=by
 have e:∀l:List yY,vV k l=((l.map GB).map λq=>gR q.1 k q.2).flatten:=λl=>by
  unfold vV;rw[yE9];rfl
 rw[e,e,h]
structure AK (y:Cy):Prop where
 w:∀k,k<y.c.js.length->WJ (y.c.js.getD k default) (y.sg.getD k default) (y.sv.getD k default)
 n:∀a,a<y.ds.length->(y.ds.getD a default).rg.num=(a:Int)
def zG4 {y:Cy} (h:XS y) {k:Nat} (hk:k<y.c.js.length):∀x∈vV (k:Int) y.ds,(0<=x.ph/\x.ph<((y.c.js.getD k default).ph.length:Int))/\0<=x.k:=λx hx=>by
 obtain⟨d,hd,r,hr,g,hg,e1,e2,rfl⟩:=zB3 hx;have hI:=h.di d hd;have ho:=hI.v.ok r hr;have hv:=ho.lg;unfold NW at hv;rw[yAk]at hv;have hlv:=KI hv.2 g hg;unfold NG at hlv;rw[yAc]at hlv;have hlg:=(hI.lg r hr g hg).2;rw[e1,yAx]at hlg;exact⟨⟨hlv.2.2.1,hlg⟩,ho.c0⟩
theorem zG5 (c:Cf) (k:Nat):∀(ks:List Int) (sg:List Sg),k<sg.length->(XT c sg ks).getD k default=sg.getD k default∨((sg.getD k default).lat=true/\(XT c sg ks).getD k default=jI (c.js.getD k default))
 | [],_,_=> .inl Z
 | x::ks,sg,hl=>by
  have ih:=zG5 c k ks (sg.set x.toNat (srF (c.js.getD x.toNat default) (sg.getD x.toNat default))) (by rw[yBv];exact hl);rw[UC _ _ _ _ hl]at ih;have e:XT c sg (x::ks)=XT c (sg.set x.toNat (srF (c.js.getD x.toNat default) (sg.getD x.toNat default))) ks:=rfl;rw[e];by_cases hx:x.toNat=k
  ·rw[zZ8 hx,hx]at ih;rw[hx];unfold srF at ih⊢;by_cases hlat:(sg.getD k default).lat=true
   ·rw[zZ8 hlat]at ih⊢
    right
    rcases ih with ih|ih
    ·exact⟨hlat,ih⟩
    ·exact⟨hlat,ih.2⟩
   ·rw[zZ7 hlat]at ih⊢
    rcases ih with ih|ih
    ·exact .inl ih
    ·exact absurd ih.1 hlat
  ·rw[zZ7 hx]at ih;exact ih
theorem WJ.new {j:Jn} {s:Sg} {v:Sv} (W:WJ j s v) (hl:s.lat=true):WJ j (jI j) v:=by
 have:=W.l hl;have h0:=W.p0;have h1:=W.p1;exact⟨h0,h1,λh=>(by cases h),λ_ h2=>by omega⟩
def zG6 (y:Cy) (R:Nat->DR) (k:Nat):SA y R k=cF y.c (y.c.js.getD k default) ((XT y.c y.sg (aQ R y.ds.length)).getD k default) (y.sv.getD k default) (vV (k:Int) (qI y R).ds) (y.st.getD k default) (y.now+1):=rfl
def AL {y:Cy} (h:XS y) (R:Nat->DR) {k:Nat} (hk:k<y.c.js.length):(qI y R).sg.getD k default=(SA y R k).1/\(qI y R).sv.getD k default=(SA y R k).2/\(qI y R).vw.getD k default=MS (y.c.js.getD k default) (SA y R k).1 (SA y R k).2:=by
 have hg:=(MM h.v (sv:=y.sv) (now:=y.now) (aQ R y.ds.length) y.sg h.gl h.j).1;have hs:=h.sl;refine⟨zB9 _ _ _ _ hk zB,zCa _ _ _ _ hk zB,?_⟩
 show(stU y.c.js (SA y R) y.c.js.length).getD k default=_
 unfold stU;rw[yAg,yAa,yA4 hk];rfl
theorem AK.tick {y:Cy} (h:XS y) (W:AK y) {ins:List In} {R:Nat->DR} (hR:TkR y ins R):AK (qI y R):=by
 have hZ:=MN h hR;refine⟨λk hk=>?_,λa ha=>?_⟩
 ·have hk:k<y.c.js.length:=hk;obtain⟨e1,e2,_⟩:=AL h R hk;rw[e1,e2,zG6];have hw:=W.w k hk;have J:=h.v.jv _ (zP y.c.js k hk);have C:=((MM h.v (sv:=y.sv) (now:=y.now) (aQ R y.ds.length) y.sg h.gl h.j).2 k hk).c;have hl:=λx hx=>(zG4 hZ (k:=k) hk x hx).1
  rcases zG5 y.c k (aQ R y.ds.length) y.sg (by have:=h.gl;omega)with e|⟨e3,e⟩
  ·rw[e]at C⊢;exact WJ.step J C hw hl
  ·rw[e]at C⊢;exact WJ.step J C (hw.new e3) hl
 ·have ha':a<y.ds.length:=by rw[<-cD (y.now+1) y.ds R];exact ha
  show((TL (y.now+1) y.ds R y.ds.length).getD a default).rg.num=_
  rw[aO ha',(hR a ha').1.num];exact W.n a ha'
def FE {y:Cy} (h:XS y) (W:AK y) {ins:List In} {R:Nat->DR} (hR:TkR y ins R) {d:yY} (hd:d∈(qI y R).ds) {r:Rq} (hr:r∈d.rq) {g:Lg} (hg:g∈r.legs) (hs:g.sc≠ -1) (hn:g.sc<=y.now):
  ∃d0∈y.ds,d0.rg.num=d.rg.num/\∃r0∈d0.rq,r0.id=r.id/\NW r0.legs=true/\∃g0∈r0.legs,g0.jn=g.jn/\g0.ph=g.ph/\g0.sc=g.sc:=by
 obtain⟨a,ha,rfl⟩:=aP hd;obtain⟨H,_⟩:=hR a ha;have hm:=zP y.ds a ha
 rcases H.sp r hr g hg with h1|h1|⟨r0,h1,h2,g0,h3,h4⟩
 ·exact absurd h1 hs
 ·omega
 ·have hr0:r0∈(y.ds.getD a default).rq:=(yC5.1 h1).1;exact⟨_,hm,by rw[H.num];rfl,r0,hr0,h2,((h.di _ hm).v.ok r0 hr0).lg,g0,h3,h4⟩
def zG7 {y:Cy} (h:XS y) (W:AK y) {ins:List In} {R:Nat->DR} (hR:TkR y ins R) (k:Int):∀x∈vV k (qI y R).ds,x.si<=y.now->∃z∈vV k y.ds,z.ph=x.ph/\z.si=x.si:=λx hx hn=>by
 obtain⟨d,hd,r,hr,g,hg,e1,e2,rfl⟩:=zB3 hx;obtain⟨d0,h0,_,r0,h2,_,h3,g0,h4,h5,h6,h7⟩:=FE h W hR hd hr hg e2 hn;exact⟨_,zG3 h0 h2 h4 h3 (h5.trans e1) (by rw[h7];exact e2),h6,h7⟩
end Av
end Go.Proofs.YteajjdidebfcjaaGreat
