/- Part 31. -/
import Derived.Test.YteajjdidebfcjaaGreatN30
namespace Go.Proofs.YteajjdidebfcjaaGreat
namespace Av
open Tryz
set_option linter.all false
set_option maxRecDepth 4000
set_option maxHeartbeats 8000000
def zEz (v:AV):(XO v).cells=v.cells.map XO:=by
 cases v with
 |agg cs=>show wkL cs=cs.map XO;exact zD5 cs
 |s v=>
  show(XO (.s v)).cells=[XO (.s v)]
  unfold XO
  split<;>rfl
 |_=>rfl
theorem xG.wkl {w:World} {D:Nat->Prop} {nn:Bool} {xs:List AV} {c:Value} (hv:xG w D (.sl nn xs) c):xG w D (.sl nn (xs.map XO)) c:=by
 cases hv with
 |nil a cap=>exact .nil a cap
 |nil1 a cap=>exact .nil1 a cap
 | sl _ _ b o sz cap f hx hL hc h=>
  have hl:(xs.map XO).length=xs.length:=yBe ..
  have hk:∀(i:Nat) (x:AV),(xs.map XO)[i]? =some x->∃y,xs[i]? =some y/\x.cells=y.cells.map XO:=λi x hx=>by
   rw[yBh,yBs]at hx;obtain⟨y,hy,rfl⟩:=hx;exact⟨y,hy,zEz y⟩
  have hL':Lay w D (xs.map XO) b o sz f:=by
   refine⟨hL.lt,hL.nd,hL.pos,by rw[hl];exact hL.max,λi x hx=>?_,λi j hi hj=>hL.cell i j (by rw[hl]at hi;exact hi) hj,λi j hi hj=>hL.one i j (by rw[hl]at hi;exact hi) hj⟩;obtain⟨y,hy,he⟩:=hk i x hx;rw[he,yBe];exact hL.wide i y hy
  have:=xG.sl nn (xs.map XO) b o sz cap f (by simpa using hx) hL' (by rw[hl];exact hc) (λi x j v hi hj=>by
   obtain⟨y,hy,he⟩:=hk i x hi;rw[he,yBh,yBs]at hj;obtain⟨u,hu,rfl⟩:=hj
   exact(h i y j u hy hu).wk)
  rw[hl]at this;exact this
section
variable {P:Program} {K0:List Nat} {F:Fr K0} {m:Nat} {ops:Array Oper} {rest:List Oper} {fs:List FP} {tm:List (Nat×AV)} {h:List (Nat×xM)}
theorem xY.wkL {a:Act} {w:World} (R:xY F m ⟨tm,h⟩ a w) (t:Nat) {nn:Bool} {xs ys:List AV} (hv:zG tm t= .sl nn xs) (he:xs.map XO=ys):xY F m ⟨(t,.sl nn ys)::tm,h⟩ a w:=by
 obtain⟨⟨X,β,hX,H,Ht,KK,hJ,hD⟩,nd,gs,hl⟩:=R;refine⟨⟨X,β,hX,H,λj=>?_,KK,λi hi=>?_,hD⟩,nd,gs,hl⟩
 ·rw[yE];split
  ·rename_i hj;subst hj;have:=Ht j;dsimp only at this;rw[hv]at this
   cases this with
   |fz _ _ hf=>exact .fz _ _ (he▸hf.wkl)
  ·exact Ht j
 ·rw[yE]at hi;split at hi
  ·cases hi
  ·exact hJ i hi
def zX3 {Q:List FP->St->Prop} (t:Nat) {nn:Bool} {xs ys:List AV} (hv:zG tm t= .sl nn xs) (he:xs.map XO=ys) (hk:zX P F m ops false rest ⟨(t,.sl nn ys)::tm,h⟩ fs Q):zX P F m ops false rest ⟨tm,h⟩ fs Q:=
 ⟨λa w R=>hk.run a w (R.wkL t hv he)⟩
end
def zHm (c:Cf) (hw:FD c.ags) (n:Nat) (hn:n<=c.ags.length):zO 77 [wN c,iA n] [] (iA (jP c.ags n)) []:=by
 have hl:=zA vB c.ags;have h4:=hw.1;have hb:=jG hw;unfold wN;refine eM call77 λF hF=>?_
 refine WW ?_;refine zN (n) [] [] [1,9,10] [5,11,1,9,10] Z (λi T U=>⟨(5,iA (jP c.ags i))::(11,iA i)::T,U⟩) ?_;(conv=>whnf);refine⟨by rfl,?_,?_⟩
 ·intro i hi;have hy:=zM vB c.ags i zB;have h1:=hw.at (i:=i) zB;have h2:=hb i zB;rw[show jP c.ags (i+1)=jP c.ags i+(c.ags.getD i default).ses from Z];clear hb;generalize jP c.ags i=s at *;generalize c.ags.getD i default=a at *;refine WW ?_;rfl
 ·by_cases h9:n<c.ags.length
  ·have hy:=zM vB c.ags n h9;generalize c.ags.getD n default=a at *;refine WW ?_;exact zJ
  ·(refine WW ?_)
   exact zJ
def zSe:AV:= .agg [bA false,bA false,.s (.slice none 0 0),bA false]
def QW (ss:List Ss) (i:Nat):List AV:=(List.range ss.length).map λk=>if k<i then jN (ss.getD k default)else zSe
def zE0 (ss:List Ss):QW ss 0=List.replicate ss.length zSe:=by
 unfold QW;apply yCs;intro j;rw[yBh,yC7];by_cases hj:j<ss.length
 ·rw[yCe hj,yBd hj];simp
 ·rw[yBc hj,yB6 wU];rfl
def zHn (ss:List Ss):QW ss ss.length=ss.map jN:=by
 unfold QW;rw[eI];apply yCs;intro j;rw[yBh,yBh];by_cases hj:j<ss.length
 ·rw[yCe hj,yBu hj];simp only[Option.map_some,yBl,yBu hj,yDi]
 ·rw[yB6 wU,yB6 zB];rfl
def YS (b:WK) (h:BrI b):zO 78 [dU b] [] (YT b.y (.ref 1021 0 b.ss.length)) [(1021,.arr 4 (b.ss.map jN) false)]:=by
 obtain⟨y,ss⟩:=b;have hy:=h.y;have hs:=h.s;have hl:=h.l;dsimp only at *;have hw:=hy.v.ag;have hrf:=hy.rf
 have hsb:ss.length<=8:=by
  have:=jG hw y.c.ags.length (yBg _);have:=hw.1;omega
 have eC:uB y= .agg [zD wE y.c.js,zD vB y.c.ags,iA y.c.per,iA y.c.cap,iA y.c.hold,iA y.c.lock,bA false,iA y.now,zD zI y.ds,zD wY y.sg,zD wV y.sv,zD iA y.st,zD vQ y.vw]:=by rw[<-hrf];rfl
 have k1:=aN y hy.b;rw[eC]at k1;have hsl:=zA jN ss;unfold dU YT;dsimp only;refine eM call78 λF hF=>?_
 (repeat' (first|refine uC ?_|((first|apply xE|apply xV)<;>intro hc)|(refine zE ?_;first|(refine hH ?_;refine dD 1021 tok Z Z Z Z Z Z Z Z Z Z Z Z Z zB zB Z Z Z ?_))|fail))
 rw[hsl];have hn:∀i,(QW ss i).length=ss.length:=λi=>by unfold QW;rw[yBe,yCy]
 refine zN (ss.length) [1021,1,2] [1,2] [1,2,3,11,12] [13,1,2,3,11,12] Z (λi T U=>⟨(13,iA i)::T,(1021,.arr 4 (QW ss i) false)::U⟩) ?_;(conv=>whnf);refine⟨by(rw[zE0];rfl),?_,?_⟩
 ·intro i hi;have hy:=zM jN ss i hi;have hyc:(QW ss i)[i]? =some zSe:=cF _ _ _ _ hi;have e1:QW ss (i+1)=(QW ss i).set i (jN (ss.getD i default)):=eE _ _ _ _ hi;have hI:=hs _ (zS ss i hi);have kx:=JY (ss.getD i default) (by have:=hI.n;omega);have h1:=hn i;rw[e1];clear e1 hs hI k1;unfold zSe at hyc;generalize QW ss i=X at *;generalize ss.getD i default=s at *;refine zW kx ?_;rfl
 ·rw[zHn];refine zW k1 ?_;exact zK [1021] Z Z Z Z
def qB (c:Cf):WK:=⟨aH c,List.replicate (jP c.ags c.ags.length).toNat ⟨false,false,[],false⟩⟩
def zX4 {α β:Type} [Inhabited α] [Inhabited β] (f:α->β) (l:List α) (k:Nat) (hk:k<l.length):(l.map f).getD k default=f (l.getD k default):=by
 rw[yBl,yBh,yBu hk,yBl,yBu hk];rfl
def zS0 (c:Cf) (h:RU c):WM (aH c):=by
 have ha:=h.a;have hdl:(NU c c.ags.length).length=c.ags.length:=by simp[NU]
 have hmem:∀d∈NU c c.ags.length,∃k:Nat,k<c.ags.length/\d=NG (k:Int) (c.ags.getD k default) (c.ags.getD k default).ses.toNat:=λd hd=>by
  unfold NU at hd;obtain⟨k,hk,rfl⟩:=yCc.1 hd;exact⟨k,yBz.1 hk,rfl⟩
 refine⟨h,rfl,yC8 _,hdl,λd hd=>?_,λa ha=>?_,λd hd=>?_,by simp[aH],by simp[aH],by simp[aH],by simp[aH],λw hw=>?_,λk hk=>?_⟩
 ·obtain⟨k,hk,rfl⟩:=hmem d hd;exact zXm (h.av _ (zS c.ags k hk)) k zB
 ·have ha':a<c.ags.length:=by rw[<-hdl];exact ha
  show((NU c c.ags.length).getD a default).rg.ag=_
  unfold NU;rw[yBl,yBh,yCe ha'];rfl
 ·obtain⟨k,hk,rfl⟩:=hmem d hd;exact λr hr=>by cases hr
 ·unfold aH at hw;obtain⟨j,hj,rfl⟩:=yCc.1 hw;exact zS3 j (h.jv j hj) _ _
 ·have hk':k<c.js.length:=hk;have J:=h.jv _ (zS c.js k hk')
  show JI (c.js.getD k default) ((c.js.map jT).getD k default) ((c.js.map RD).getD k default) 0
  rw[zX4 jT c.js k hk',zX4 RD c.js k hk'];refine⟨zJs J,by simp[RD,zPg],λe he=>?_,yC8 _⟩;rw[(yFa.1 he).2]
  decide
def EC (c:Cf) (h:RU c):BrI (qB c):=by
 have hb:=jG h.ag c.ags.length (yBg _);refine⟨zS0 c h,?_,λs hs=>?_⟩
 ·show((List.replicate _ _).length:Int)=_
  rw[yCw]
  show((jP c.ags c.ags.length).toNat:Int)=jP c.ags c.ags.length
  omega
 ·rw[(yFa.1 hs).2];exact⟨kU,yBt _⟩
def zCn (c:Cf) (h:RU c):zO 44 [wN c] [] (dU (qB c)) []:=by
 have k1:=zU1 c h;have hrf:=(zS0 c h).rf;have hw:=h.ag;have k2:=zHm c hw c.ags.length (yBg _);have hal:=zA vB c.ags;have hb:=jG hw c.ags.length (yBg _);have h4:=hw.1;have eC:uB (aH c)= .agg [zD wE (aH c).c.js,zD vB (aH c).c.ags,iA (aH c).c.per,iA (aH c).c.cap,iA (aH c).c.hold,iA (aH c).c.lock,bA false,iA (aH c).now,zD zI (aH c).ds,zD wY (aH c).sg,zD wV (aH c).sv,zD iA (aH c).st,zD vQ (aH c).vw]:=by rw[<-hrf];rfl
 rw[eC]at k1;obtain⟨N,hN⟩:∃N:Nat,jP c.ags c.ags.length=(N:Int):=⟨(jP c.ags c.ags.length).toNat,zB⟩;rw[hN]at k2 hb;rw[<-hal]at k2
 have eB:dU (qB c)= .agg [zD wE (aH c).c.js,zD vB (aH c).c.ags,iA (aH c).c.per,iA (aH c).c.cap,iA (aH c).c.hold,iA (aH c).c.lock,bA false,iA (aH c).now,zD zI (aH c).ds,zD wY (aH c).sg,zD wV (aH c).sv,zD iA (aH c).st,zD vQ (aH c).vw,.sl false (List.replicate N (.agg [bA false,bA false,zD yA [],bA false]))]:=by
  unfold dU YT qB;dsimp only;rw[hN];unfold zD;rw[yEy];rfl
 rw[eB];generalize aH c=z at *;refine eM call44 λF hF=>?_
 (have zc1:=k1;have zc2:=k2;(repeat' (first|refine uC ?_|((first|apply xE|apply xV)<;>intro hc)|(refine zE ?_;first|(refine hH ?_;refine dD 1021 tok Z Z Z Z Z Z Z Z Z Z Z Z Z zB zB Z Z Z ?_;refine uO [1,2,3] [1,2,3,16] Z ?_;(conv=>whnf);(try simp only[yCg]);refine zX3 16 Z Z ?_))|fail))<;>clear zc1 zc2)
 refine zH [] Z Z ?_ Z
 show AV.agg [zD wE z.c.js,zD vB z.c.ags,iA z.c.per,iA z.c.cap,iA z.c.hold,iA z.c.lock,bA false,iA z.now,zD zI z.ds,zD wY z.sg,zD wV z.sv,zD iA z.st,zD vQ z.vw,.sl false (List.map XO (List.take N (List.replicate N zSe)))]=_
 rw[yBo (by rw[yCw];exact yBg _),yEy];rfl
def zHo (l:List (List Int)) (hl:l.length<=1073741824):zO 168 [zD kI l] [] (.ref 1005 0 (l.map kI).length) [(1005,.arr 1 (l.map kI) false)]:=by
 have hll:=zA kI l;refine eM call168 λF hF=>?_
 refine yY 0 Z (λcap hx=>?_) ?_
 ·have:l=[]:=by simpa using hx
  subst this
  (repeat' (first|refine WZN ?_|((first|apply xE|apply xV)<;>intro hc)|fail))
  refine uL 2 1005 1 Z Z Z (yZ ?_);exact zK [1005] Z Z Z Z
 ·repeat' (first|(refine zE ?_;first|refine vV tok Z Z ?_|(refine wO ?_;refine wK (xK tok (.inl ⟨rfl,rfl⟩) Z Z Z Z) Z ?_)|(refine yR ?_;refine qA (nw:=[1005]) (yJ tok 1005 (xs:=[]) Z Z Z Z Z Z Z Z Z) Z Z Z ?_)|(refine yM ?_;refine wJ tok Z Z Z Z Z Z Z (yV _ _ (λ_=>rfl)) Z Z Z zB Z ?_)|refine qR ?_)|(first|refine xT ?_|refine xI ?_|refine vJ Z ?_|refine zZ Z ?_|refine zV Z ?_|refine xQ Z (λhc=>?_) λhc=>?_|refine xD ?_|refine yZ ?_|refine xJ ?_|refine yX ?_))
  exact zK [1005] Z Z Z Z
def MA (d:xH):AV:=wF d.rg (zD yI d.rq) (.ref 1005 0 (d.dr.map kI).length) (zD bA d.au)
def zHp (d:xH) (hb:fY d):zO 127 [zI d] [] (MA d) [(1005,.arr 1 (d.dr.map kI) false)]:=by
 have k1:=GL d.rg hb.rg;have hq:=hb.q;have hdn:=hb.n;have hau:=hb.a;have k2:=XT d.rq zB;have k3:=zHo d.dr zB;have k4:=AG d.au zB;have hlq:=zA yI d.rq;have hld:=zA kI d.dr;unfold MA zI wF;unfold uZ at k1;refine eM call127 λF hF=>?_
 refine yS (vH k1 k2) ?_;refine zN ((d.rq.map yI).length) [1001,1,2] [1,2] [1,2,15] [16,1,2,15] Z (λi T U=>⟨(16,iA i)::T,(1001,.arr 5 (kV i (d.rq.map yI)) false)::U⟩) ?_;(conv=>whnf);refine⟨by rfl,?_,?_⟩
 ·intro i hi;have hi':i<d.rq.length:=by omega
  have hy:(kV i (d.rq.map yI))[i]? =some (yI (d.rq.getD i default)):=zM yI d.rq i hi';have e:=qZ yI d.rq i hi';have c2:=cI (d.rq.getD i default).legs (hb.g (d.rq.getD i default) bS);generalize (d.rq.getD i default)=t at *;generalize kV i (d.rq.map yI)=xs at *;generalize kV (i+1) (d.rq.map yI)=ys at *;subst e;refine zW c2 ?_;rfl
 ·(refine zW k3 ?_)
  refine zN ((d.dr.map kI).length) [1005,1,2,1001] [1,2,1001] [1,2,38] [39,1,2,38] Z (λi T U=>⟨(39,iA i)::T,(1005,.arr 1 (kV i (d.dr.map kI)) false)::U⟩) ?_;(conv=>whnf);refine⟨by rfl,?_,?_⟩
  ·intro i hi;have hi':i<d.dr.length:=by omega
   have hy:(kV i (d.dr.map kI))[i]? =some (kI (d.dr.getD i default)):=zM kI d.dr i hi';have e:=qZ kI d.dr i hi';have c2:=wX (d.dr.getD i default) (by have:=hb.e (d.dr.getD i default) bS;omega);generalize (d.dr.getD i default)=t at *;generalize kV i (d.dr.map kI)=xs at *;generalize kV (i+1) (d.dr.map kI)=ys at *;subst e;refine zW c2 ?_;rfl
  ·(refine zW k4 ?_)
   refine zH [1005] Z Z ?_ Z
   show wF d.rg (.sl false ((d.rq.map yI).take (d.rq.map yI).length)) (.ref 1005 0 (d.dr.map kI).length) (zD bA d.au)=_
   rw[yBj];rfl
theorem KY (K:List Nat) (h:yD):∀l:List xH,uS K h (l.map zI)=l.map zI
 | []=>rfl
 |r::l=>by rw[yCh,uS,KY K h l];rfl
theorem QX (K:List Nat) (h:yD):∀l:List xH,wL K h (l.map zI)=l.map zI
 | []=>rfl
 |r::l=>by rw[yCh,wL,QX K h l];rfl
theorem UN:∀l:List xH,wD (l.map zI)=true
 | []=>rfl
 |r::l=>by rw[yCh,wD,UN l];rfl
def kJ (pre:List xH) (x:xH) (post:List xH):List AV:=pre.map zI++MA x::post.map zI
def QY (pre:List xH) (x:xH) (post:List xH):(kJ pre x post).length=pre.length+1+post.length:=by simp[kJ];omega
def zHq {K:List Nat} (hK:K.contains 1005=true) (h:yD) (pre:List xH) (x:xH) (post:List xH) (b:Bool):qK K h (.arr 17 (kJ pre x post) ⟨b,true⟩)= .arr 17 (kJ pre x post) ⟨b,true⟩:=by
 have e:uS K h (kJ pre x post)=kJ pre x post:=by
  unfold kJ;rw[PX,KY,uS,KY]
  congr 2
  have er:wH K h (.ref 1005 0 (x.dr.map kI).length)= .ref 1005 0 (x.dr.map kI).length:=by
   unfold wH;rw[hK];rfl
  show AV.agg [_,_,_,_,_,_,_,_,_,_,_,_,_,_,_,wH K h (.ref 1005 0 (x.dr.map kI).length),_]=_
  rw[er];rfl
 have e2:wD (kJ pre x post)=false:=by
  unfold kJ;rw[XF,UN,wD];rfl
 show xM.arr 17 (uS K h (kJ pre x post)) ⟨b,!wD (uS K h (kJ pre x post))⟩=_
 rw[e,e2];rfl
def zOp (pre:List xH) (x:xH) (post:List xH):(kJ pre x post)[pre.length]? =some (MA x):=by
 unfold kJ;rw[yB9 zQ,yBe,yDh];rfl
def zCo {pre:List xH} {x:xH} {post l:List xH} (hL:l=pre++x::post):(l.map zI).set pre.length (MA x)=kJ pre x post:=by
 subst hL;unfold kJ;rw[yBn,yCh,yEa _ _ zQ,yBe,yDh];rfl
def zE1 {pre:List xH} {x:xH} {post l:List xH} (hL:l=pre++x::post) {i:Nat} (h1:pre.length<i) (h2:i<l.length):(kJ pre x post)[i]? =some (zI (l.getD i default)):=by
 subst hL;rw[<-zCo Z,yFj zB];exact zM zI _ i h2
def zUe (y:Cy) (pre:List xH) (x:xH) (post:List xH):AV:=aI y.c y.rf y.now (.ref 1011 0 y.ds.length) (zD wY y.sg) (zD wV y.sv) (zD iA y.st) (zD vQ y.vw)
theorem zHr (y:Cy) (h:CyB y) (pre:List xH) (x:xH) (post:List xH) (hL:y.ds=pre++x::post):zO 116 [uB y] [] (zUe y pre x post) [(1011,.arr 17 (kJ pre x post) ⟨false,true⟩),(1005,.arr 1 (x.dr.map kI) false)]:=by
 have k1:=aJ y.ds (by have:=h.d;omega);have k2:=aK y.sg (by have:=h.g;omega);have k3:=aL y.sv (by have:=h.s;omega);have k4:=aM y.st (by have:=h.t;omega);have k5:=UW y.vw h.v h.vb;have hl1:=zA zI y.ds;have hl2:=zA wY y.sg;have hl3:=zA wV y.sv;have hl4:=zA iA y.st;have hd:=h.d;have hg:=h.g;have hs:=h.s;have hlen:y.ds.length=pre.length+1+post.length:=by rw[hL];simp;omega
 have hcl:=QY pre x post;have hfr:∀(K:List Nat) (H:yD),K.contains 1005=true->qK K H (.arr 17 (kJ pre x post) ⟨false,true⟩)= .arr 17 (kJ pre x post) ⟨false,true⟩:=λK H hK=>zHq hK H pre x post false
 unfold uB zUe aI;refine eM call116 λF hF=>?_
 refine zW k1 ?_;rw[hl1]
 refine wW (λn st=>∃i,n+i=y.ds.length/\st=if i<=pre.length then(⟨[(13,iA i),(1,.ptr 1 0 0),(2,.ptr 2 0 0),(12,iA y.ds.length)],[(1,.box [zD wE y.c.js,zD vB y.c.ags,iA y.c.per,iA y.c.cap,iA y.c.hold,iA y.c.lock,bA y.rf,iA y.now,.ref 1011 0 y.ds.length,zD wY y.sg,zD wV y.sv,zD iA y.st,zD vQ y.vw]),(2,.box [.s (.slice none 0 0),.s (.slice none 0 0),iA 0,iA 0,iA 0,iA 0,bA false,iA 0,.s (.slice none 0 0),.s (.slice none 0 0),.s (.slice none 0 0),.s (.slice none 0 0),.s (.slice none 0 0)]),(1011,.arr 17 (y.ds.map zI) false)]⟩:St)
  else⟨[(13,iA i),(1,.ptr 1 0 0),(2,.ptr 2 0 0),(12,iA y.ds.length)],[(1,.box [zD wE y.c.js,zD vB y.c.ags,iA y.c.per,iA y.c.cap,iA y.c.hold,iA y.c.lock,bA y.rf,iA y.now,.ref 1011 0 y.ds.length,zD wY y.sg,zD wV y.sv,zD iA y.st,zD vQ y.vw]),(2,.box [.s (.slice none 0 0),.s (.slice none 0 0),iA 0,iA 0,iA 0,iA 0,bA false,iA 0,.s (.slice none 0 0),.s (.slice none 0 0),.s (.slice none 0 0),.s (.slice none 0 0),.s (.slice none 0 0)]),(1011,.arr 17 (kJ pre x post) ⟨false,true⟩),(1005,.arr 1 (x.dr.map kI) false)]⟩) y.ds.length [1,2,1011,1005] [13,1,2,12] Z ⟨0,zB,by rw[yBd (yBt _)];rfl⟩ ?_
 rintro n st ⟨i,hi,rfl⟩;by_cases hip:i<pre.length
 ·rw[yBd zB];have hil:i<y.ds.length:=by omega
  have hy:=zM zI y.ds i hil;have c2:=cQ (y.ds.getD i default) (h.db _ (zS y.ds i hil));have e:=qZ zI y.ds i hil;generalize y.ds.getD i default=d at *;generalize y.ds.map zI=xs at *;have hsame:=dG hy;refine zW c2 ?_;refine⟨n-1,zB,i+1,zB,?_⟩;rw[yBd zB]
  show(⟨_,[_,_,(1011,.arr 17 (xs.set i (zI d)) false)]⟩:St)=_
  rw[hsame];rfl
 by_cases hie:i=pre.length
 ·rw[yBd zB];subst hie;have hil:pre.length<y.ds.length:=by omega
  have hx:y.ds.getD pre.length default=x:=by rw[hL,yBl,yB9 (yBg _),yDh];rfl
  have hy:=zM zI y.ds pre.length hil;have c2:=zHp (y.ds.getD pre.length default) (h.db _ (zS y.ds pre.length hil));rw[hx]at hy c2;have hof:=zCo hL;generalize y.ds.map zI=xs at *;refine OS 1011 Z ?_;unfold MA at c2;refine zW c2 ?_;refine⟨n-1,zB,pre.length+1,zB,?_⟩;rw[yBc zB]
  show(⟨_,[_,_,(1011,qK _ _ (.arr 17 (xs.set pre.length (MA x)) ⟨false,true⟩)),_]⟩:St)=_
  rw[hof,hfr _ _ Z];rfl
 rw[yBc zB];by_cases hil:i<y.ds.length
 ·have hy:=zE1 hL zB hil;have c2:=cQ (y.ds.getD i default) (h.db _ (zS y.ds i hil));have hsame:=dG hy;generalize y.ds.getD i default=d at *;generalize kJ pre x post=cs at *;refine zW c2 ?_;refine⟨n-1,zB,i+1,zB,?_⟩;rw[yBc zB]
  show(⟨_,[_,_,(1011,qK _ _ (.arr 17 (cs.set i (zI d)) ⟨false,true⟩)),_]⟩:St)=_
  rw[hsame,hfr _ _ Z];rfl
 have hie2:i=y.ds.length:=by omega
 subst hie2;generalize kJ pre x post=cs at *;refine zW k2 ?_;rw[hl2];refine wW (λn st=>∃i,n+i=y.sg.length/\st=(⟨[(34,iA i),(1,.ptr 1 0 0),(2,.ptr 2 0 0),(33,iA y.sg.length)],[(1,.box [zD wE y.c.js,zD vB y.c.ags,iA y.c.per,iA y.c.cap,iA y.c.hold,iA y.c.lock,bA y.rf,iA y.now,.ref 1011 0 y.ds.length,.ref 1012 0 y.sg.length,zD wV y.sv,zD iA y.st,zD vQ y.vw]),(2,.box [.s (.slice none 0 0),.s (.slice none 0 0),iA 0,iA 0,iA 0,iA 0,bA false,iA 0,.s (.slice none 0 0),.s (.slice none 0 0),.s (.slice none 0 0),.s (.slice none 0 0),.s (.slice none 0 0)]),(1011,.arr 17 cs ⟨false,true⟩),(1005,.arr 1 (x.dr.map kI) false),(1012,.arr 5 (y.sg.map wY) false)]⟩:St)) y.sg.length [1,2,1011,1005,1012] [34,1,2,33] Z ⟨0,zB,?_⟩ ?_
 ·show(⟨_,[_,_,(1011,qK _ _ (.arr 17 cs ⟨false,true⟩)),_,_]⟩:St)=_
  rw[hfr _ _ Z];rfl
 rintro n st ⟨i,hi2,rfl⟩;by_cases hil:i<y.sg.length
 ·have hy:=zM wY y.sg i hil;have hgb:=h.gb _ (zS y.sg i hil);have c2:=zDb (y.sg.getD i default) zB zB;have hsame:=dG hy;generalize y.sg.getD i default=d at *;generalize y.sg.map wY=xs at *;refine zW c2 ?_;refine⟨n-1,zB,i+1,zB,?_⟩
  show(⟨_,[_,_,(1011,qK _ _ (.arr 17 cs ⟨false,true⟩)),_,(1012,.arr 5 (xs.set i (wY d)) false)]⟩:St)=_
  rw[hsame,hfr _ _ Z];rfl
 have hie3:i=y.sg.length:=by omega
 subst hie3;refine zW k3 ?_;rw[hl3];refine wW (λn st=>∃i,n+i=y.sv.length/\st=(⟨[(55,iA i),(1,.ptr 1 0 0),(2,.ptr 2 0 0),(54,iA y.sv.length)],[(1,.box [zD wE y.c.js,zD vB y.c.ags,iA y.c.per,iA y.c.cap,iA y.c.hold,iA y.c.lock,bA y.rf,iA y.now,.ref 1011 0 y.ds.length,.ref 1012 0 y.sg.length,.ref 1013 0 y.sv.length,zD iA y.st,zD vQ y.vw]),(2,.box [.s (.slice none 0 0),.s (.slice none 0 0),iA 0,iA 0,iA 0,iA 0,bA false,iA 0,.s (.slice none 0 0),.s (.slice none 0 0),.s (.slice none 0 0),.s (.slice none 0 0),.s (.slice none 0 0)]),(1011,.arr 17 cs ⟨false,true⟩),(1005,.arr 1 (x.dr.map kI) false),(1012,.arr 5 (y.sg.map wY) false),(1013,.arr 3 (y.sv.map wV) false)]⟩:St)) y.sv.length [1,2,1011,1005,1012,1013] [55,1,2,54] Z ⟨0,zB,?_⟩ ?_
 ·show(⟨_,[_,_,(1011,qK _ _ (.arr 17 cs ⟨false,true⟩)),_,_,_]⟩:St)=_
  rw[hfr _ _ Z];rfl
 rintro n st ⟨i,hi3,rfl⟩;by_cases hil:i<y.sv.length
 ·have hy:=zM wV y.sv i hil;have hsb:=h.sb _ (zS y.sv i hil);have c2:=WR (y.sv.getD i default) ⟨zB⟩;have hsame:=dG hy;generalize y.sv.getD i default=d at *;generalize y.sv.map wV=xs at *;refine zW c2 ?_;refine⟨n-1,zB,i+1,zB,?_⟩
  show(⟨_,[_,_,(1011,qK _ _ (.arr 17 cs ⟨false,true⟩)),_,_,(1013,.arr 3 (xs.set i (wV d)) false)]⟩:St)=_
  rw[hsame,hfr _ _ Z];rfl
 have hie4:i=y.sv.length:=by omega
 subst hie4;refine yS (vH k4 k5) ?_;refine zH [1011,1005] Z Z ?_ ?_
 ·show AV.agg [zD wE y.c.js,zD vB y.c.ags,iA y.c.per,iA y.c.cap,iA y.c.hold,iA y.c.lock,bA y.rf,iA y.now,.ref 1011 0 y.ds.length,.sl false (List.take y.sg.length (y.sg.map wY)),.sl false (List.take y.sv.length (y.sv.map wV)),.sl false (List.take (y.st.map iA).length (y.st.map iA)),zD vQ y.vw]=_
  rw[yBo (yDd hl2),yBo (yDd hl3),yBj];rfl
 ·show [(1011,qK _ _ (.arr 17 cs ⟨false,true⟩)),(1005,_)]=_
  rw[hfr _ _ Z];rfl
def zHs {h:yD} {pre post:List xH} {x:xH} {b fl:Bool} (h1:h 1011=some (.arr 17 (kJ pre x post) ⟨b,true⟩)) (h2:h 1005=some (.arr 1 (x.dr.map kI) ⟨fl,false⟩)):
  wH [] h (.ref 1011 0 (kJ pre x post).length)=zD zI (pre++x::post):=by
 have e:wL [] h (kJ pre x post)=(pre++x::post).map zI:=by
  unfold kJ;rw[TF,QX,wL,QX,yBn,yCh]
  congr 1
  congr 1
  have e2:uU [] h (.ref 1005 0 (x.dr.map kI).length)=zD kI x.dr:=by
   simp only[uU,h2]
   show AV.sl false (((x.dr.map kI).drop 0).take (x.dr.map kI).length)=_
   rw[yCg,yBj];rfl
  show AV.agg [_,_,_,_,_,_,_,_,_,_,_,_,_,_,_,uU [] h (.ref 1005 0 (x.dr.map kI).length),_]=_
  rw[e2];rfl
 have hl2:(kJ pre x post).length=((pre++x::post).map zI).length:=by rw[QY];simp;omega
 rw[hl2];simp only[wH,h1]
 show(bif wD (wL [] h (kJ pre x post))then AV.sl false (((wL [] h (kJ pre x post)).drop 0).take _)else .bot)=_
 rw[e,UN,yCg,yBj];rfl
def drD (d:xH) (x:List Int):xH:=⟨d.rg,d.rq,d.dr++[x],d.au⟩
def zAe (y:Cy) (a:Int) (x:List Int):Cy:=if(0<=a/\a<(y.ds.length:Int))/\x.length=8/\(y.ds.getD a.toNat default).dr.length<8 then⟨y.c,false,y.now,y.ds.set a.toNat (drD (y.ds.getD a.toNat default) x),y.sg,y.sv,y.st,y.vw⟩else y
theorem zHt (y:Cy) (h:WM y) (a:Int) (d:List Int) (hd:BY d) (hd9:d.length<=1000000):∃y':Cy,WM y'/\y'=zAe y a d/\zO 82 [uB y,iA a,zD yA d] [] (uB y') []:=by
 have hb:=h.b;have hrf:=h.rf;have hdl:=zA zI y.ds;have hdm:=zA yA d;have eC:uB y= .agg [zD wE y.c.js,zD vB y.c.ags,iA y.c.per,iA y.c.cap,iA y.c.hold,iA y.c.lock,bA false,iA y.now,zD zI y.ds,zD wY y.sg,zD wV y.sv,zD iA y.st,zD vQ y.vw]:=by rw[<-hrf];rfl
 by_cases ha:0<=a/\a<(y.ds.length:Int)
 case neg=>
  refine⟨y,h,by unfold zAe;rw[yBc (λh=>ha h.1)],?_⟩;have k1:=aN y hb;rw[eC]at k1⊢;by_cases h0:a<0
  ·(refine eM call82 λF hF=>?_)
   refine zW k1 ?_;exact zJ
  ·(refine eM call82 λF hF=>?_)
   refine zW k1 ?_;exact zJ
 obtain⟨a0,a1⟩:=ha;by_cases h8:d.length=8
 case neg=>
  refine⟨y,h,by unfold zAe;rw[yBc (λh=>h8 h.2.1)],?_⟩;have k1:=aN y hb;rw[eC]at k1⊢;refine eM call82 λF hF=>?_
  refine zW k1 ?_;exact zJ
 have hyd:=yL zI y.ds a a0 a1;have hI:=h.di _ (zS y.ds a.toNat zB);have hdn:=hI.dn;by_cases hr:(y.ds.getD a.toNat default).dr.length<8
 case neg=>
  refine⟨y,h,by unfold zAe;rw[yBc (λh=>hr h.2.2)],?_⟩;have k1:=PJ y hb;unfold zJm zJn aI at k1;rw[eC,hrf]at k1;rw[eC];generalize y.ds.getD a.toNat default=x at *;have hxl:=zA kI x.dr;unfold zI wF at hyd;refine eM call82 λF hF=>?_
  (have zc1:=k1;(repeat' (first|refine uC ?_|((first|apply xE|apply xV)<;>intro hc)|(refine zE ?_;first|(refine zBr ?_;refine wK (gN Z Z hyd) Z ?_))|fail))<;>clear zc1)
  refine zH [] Z Z ?_ Z
  show AV.agg [zD wE y.c.js,zD vB y.c.ags,iA y.c.per,iA y.c.cap,iA y.c.hold,iA y.c.lock,bA false,iA y.now,.sl false (List.take (y.ds.map zI).length (y.ds.map zI)),.sl false (List.take (y.sg.map wY).length (y.sg.map wY)),.sl false (List.take (y.sv.map wV).length (y.sv.map wV)),.sl false (List.take (y.st.map iA).length (y.st.map iA)),zD vQ y.vw]=_
  rw[yBj,yBj,yBj,yBj];rfl
 obtain⟨n,hn⟩:∃n:Nat,a=(n:Int):=⟨a.toNat,zB⟩;subst hn;have hnl:n<y.ds.length:=by omega
 rw[yB5]at hI hr hdn
 have hL:y.ds=y.ds.take n++y.ds.getD n default::y.ds.drop (n+1):=by
  rw[yBl,yBu hnl]
  show _=_++y.ds[n]::_
  rw[<-yDx hnl,yEz]
 have hpn:(y.ds.take n).length=n:=by rw[yB4];omega
 have k1:=zHr y hb (y.ds.take n) (y.ds.getD n default) (y.ds.drop (n+1)) hL;have k2:=wX d zB;have hat:=zOp (y.ds.take n) (y.ds.getD n default) (y.ds.drop (n+1));have hcl:=QY (y.ds.take n) (y.ds.getD n default) (y.ds.drop (n+1));rw[hpn]at hat hcl;have hcl2:(kJ (y.ds.take n) (y.ds.getD n default) (y.ds.drop (n+1))).length=y.ds.length:=by rw[hcl,yCj];omega
 have hset:∀D:List (List Int),(kJ (y.ds.take n) (y.ds.getD n default) (y.ds.drop (n+1))).set n (MA ⟨(y.ds.getD n default).rg,(y.ds.getD n default).rq,D,(y.ds.getD n default).au⟩)=kJ (y.ds.take n) ⟨(y.ds.getD n default).rg,(y.ds.getD n default).rq,D,(y.ds.getD n default).au⟩ (y.ds.drop (n+1)):=λD=>by
  unfold kJ;rw[yEa _ _ (by rw[yBe,hpn];exact yBg _),yBe,hpn,yDh];rfl
 have hds:∀x':xH,y.ds.take n++x'::y.ds.drop (n+1)=y.ds.set n x':=λx'=>by
  rw[List.set_eq_take_append_cons_drop,yBd hnl]
 refine⟨⟨y.c,false,y.now,y.ds.set n ⟨(y.ds.getD n default).rg,(y.ds.getD n default).rq,(y.ds.getD n default).dr++[d],(y.ds.getD n default).au⟩,y.sg,y.sv,y.st,y.vw⟩,⟨h.v,rfl,h.n0,by dsimp only;rw[yC3];exact h.dl,λz hz=>?_,λi hi=>?_,λz hz=>?_,h.gl,h.sl,h.tl,h.wl,h.wb,h.j⟩,by unfold zAe;rw[yB5,yBd ⟨⟨a0,a1⟩,h8,hr⟩];rfl,?_⟩
 ·rcases yEk hz with hz|rfl
  ·exact h.di z hz
  ·refine⟨hI.b,hI.v,hI.q,hI.lg,hI.a,hI.n,hI.t8,hI.br,hI.bb,hI.bl,hI.au,?_,λx hx=>?_,hI.vh⟩
   ·dsimp only;rw[yBf];simp only[yBp,yCr];omega
   ·rcases yBy.1 hx with hx|hx
    ·exact hI.dr x hx
    ·rw[yCf.1 hx];exact⟨h8,hd⟩
 ·dsimp only at hi⊢;rw[yC3]at hi;rw[UP _ _ _ _ hi];split
  ·rename_i e;rw[<-e];exact h.dg n hnl
  ·exact h.dg i hi
 ·rcases yEk hz with hz|rfl
  ·exact h.sc z hz
  ·exact h.sc (y.ds.getD n default) (zS y.ds n hnl)
 ·unfold zUe aI at k1;rw[eC,hrf]at k1;rw[eC,<-hds];have hfin:=λH fl h1 h2=>zHs (h:=H) (pre:=y.ds.take n) (post:=y.ds.drop (n+1)) (x:=⟨(y.ds.getD n default).rg,(y.ds.getD n default).rq,(y.ds.getD n default).dr++[d],(y.ds.getD n default).au⟩) (b:=false) (fl:=fl) h1 h2
  rw[<-hset]at hfin;clear hL hds hset hyd hI hcl;rw[show∀l:List xH,uB ⟨y.c,false,y.now,l,y.sg,y.sv,y.st,y.vw⟩= .agg [zD wE y.c.js,zD vB y.c.ags,iA y.c.per,iA y.c.cap,iA y.c.hold,iA y.c.lock,bA false,iA y.now,zD zI l,zD wY y.sg,zD wV y.sv,zD iA y.st,zD vQ y.vw]from λ_=>rfl];generalize y.ds.getD n default=x at *;generalize kJ (y.ds.take n) x (y.ds.drop (n+1))=cs at *;have hxl:=zA kI x.dr;unfold MA wF at hat;refine eM call82 λF hF=>?_
  (have zc1:=k1;have zc2:=k2;(repeat' (first|refine uC ?_|((first|apply xE|apply xV)<;>intro hc)|(refine zE ?_;first|(refine zBr ?_;refine wK (gN Z Z hat) Z ?_))|fail))<;>clear zc1 zc2)
  simp only[MA,yBn]at hfin;rw[yC3,hcl2]at hfin;refine zH [] Z Z ?_ Z;refine(yB8 (λw=>AV.agg [zD wE y.c.js,zD vB y.c.ags,iA y.c.per,iA y.c.cap,iA y.c.hold,iA y.c.lock,bA false,iA y.now,XO w,zD wY y.sg,zD wV y.sv,zD iA y.st,zD vQ y.vw]) (hfin _ true ?_ ?_)).trans ?_
  ·rfl
  ·rfl
  ·rfl
def inR (b:WK) (k:Int):Bool:=decide (0<=k/\k<(b.ss.length:Int))
def ssF (e:Ev) (s:Ss):Ss:=if e.k=1 then(if s.op=true then s else⟨true,false,[],false⟩)else if e.k=2 then⟨false,false,[],false⟩else EZ s e.y
def AU (b:WK) (e:Ev):WK:=if inR b e.s=true then⟨b.y,b.ss.set e.s.toNat (ssF e (b.ss.getD e.s.toNat default))⟩else b
def sd0:AV:= .agg [.sl false [],.sl false []]
def dyF (y:Cy) (e:Ev):Cy:=if e.k=4 then zAe y e.a e.y else zE3 y e.a e.b
def GY (d:xH):Int×List Rq:=(d.rg.num,d.rq)
def zE2 {α:Type} {l:List α} {i:Nat} {x:α} (h:l[i]? =some x):l.set i x=l:=by
 apply yCs;intro j;rw[yDe];split
 ·rename_i e;subst e;have:=(yB0.1 h).1;rw[yBd this,h]
 ·rfl
def zHu {y:Cy} (hrf:y.rf=false) (e:Ev):(dyF y e).c=y.c/\(dyF y e).now=y.now/\(dyF y e).sg=y.sg/\(dyF y e).sv=y.sv/\(dyF y e).vw=y.vw/\(dyF y e).ds.map GY=y.ds.map GY:=by
 unfold dyF;split
 ·unfold zAe;split
  ·rename_i hc;refine⟨rfl,rfl,rfl,rfl,rfl,?_⟩
   show(y.ds.set _ _).map GY=_
   rw[yDa];refine zE2 (yBh.trans ?_);rw[yBl,yBu zB];rfl
  ·exact⟨rfl,rfl,rfl,rfl,rfl,rfl⟩
 ·unfold zE3
  split<;>exact⟨rfl,rfl,rfl,rfl,rfl,rfl⟩
section
variable (b:WK) (h:BrI b)
include h
def zAf:∃N:Nat,b.ss.length=N/\N<=8:=by
 have hw:=h.y.v.ag;have h1:=h.l;have h2:=jG hw b.y.c.ags.length (yBg _);have h3:=hw.1;exact⟨_,rfl,zB⟩
theorem yAd (e:Ev) (hk:e.k=1∨e.k=2∨e.k=3) (hb:BY e.y) (hl:e.y.length<=1000000):zO 45 [dU b,uY e] [] (.tup [dU (AU b e),sd0,bA false]) []:=by
 obtain⟨N,hN,hN8⟩:=zAf b h;have k1:=YS b h;have hs:=h.s;have hsl:=zA jN b.ss;obtain⟨y,ss⟩:=b;dsimp only at *;unfold AU inR;dsimp only;unfold dU YT at *;dsimp only at *;by_cases hr:0<=e.s/\e.s<(ss.length:Int)
 ·rw[yBd (yBk hr)];obtain⟨r0,r1⟩:=hr;have hy:=yL jN ss e.s r0 r1;have hI:=hs _ (zS ss e.s.toNat zB);have hIn:=hI.n;have ko:=zOt (ss.getD e.s.toNat default) zB;have kd:=zOu (ss.getD e.s.toNat default);have kr:=zUg (ss.getD e.s.toNat default) hIn e.y hl;dsimp only;rw[show zD jN (ss.set e.s.toNat (ssF e (ss.getD e.s.toNat default)))= .sl false ((ss.map jN).set e.s.toNat (jN (ssF e (ss.getD e.s.toNat default)))) by unfold zD;rw[yDa]];unfold ssF;clear hI;obtain⟨ek,es,ea,en,eb⟩:=e;dsimp only at *;generalize ss.getD es.toNat default=s at*
  rcases hk with rfl|rfl|rfl
  ·rw[yBd Z];generalize (if s.op=true then s else⟨true,false,[],false⟩:Ss)=s1 at *;unfold uY;refine eM call45 λF hF=>?_
   refine yS (vH k1 ko) ?_;refine zH [] Z Z ?_ Z
   show AV.tup [AV.agg [zD wE y.c.js,zD vB y.c.ags,iA y.c.per,iA y.c.cap,iA y.c.hold,iA y.c.lock,bA false,iA y.now,zD zI y.ds,zD wY y.sg,zD wV y.sv,zD iA y.st,zD vQ y.vw,.sl false (List.take ss.length ((ss.map jN).set es.toNat (jN s1)))],sd0,bA false]=_
   rw[yBo zMf]
  ·rw[yBc xO,yBd Z];unfold uY;refine eM call45 λF hF=>?_
   refine yS (vH k1 kd) ?_;refine zH [] Z Z ?_ Z
   show AV.tup [AV.agg [zD wE y.c.js,zD vB y.c.ags,iA y.c.per,iA y.c.cap,iA y.c.hold,iA y.c.lock,bA false,iA y.now,zD zI y.ds,zD wY y.sg,zD wV y.sv,zD iA y.st,zD vQ y.vw,.sl false (List.take ss.length ((ss.map jN).set es.toNat (jN ⟨false,false,[],false⟩)))],sd0,bA false]=_
   rw[yBo zMf]
  ·rw[yBc xO,yBc xO];unfold uY;refine eM call45 λF hF=>?_
   refine yS (vH k1 kr) ?_;refine zH [] Z Z ?_ Z
   show AV.tup [AV.agg [zD wE y.c.js,zD vB y.c.ags,iA y.c.per,iA y.c.cap,iA y.c.hold,iA y.c.lock,bA false,iA y.now,zD zI y.ds,zD wY y.sg,zD wV y.sv,zD iA y.st,zD vQ y.vw,.sl false (List.take ss.length ((ss.map jN).set es.toNat (jN (EZ s eb))))],sd0,bA false]=_
   rw[yBo zMf]
 ·rw[yBc (by rw[yBi];exact hr)];dsimp only;obtain⟨ek,es,ea,en,eb⟩:=e;dsimp only at*
  rcases hk with rfl|rfl|rfl
  all_goals
   unfold uY;dsimp only;by_cases h0:es<0
   ·(refine eM call45 λF hF=>?_)
    refine zW k1 ?_;refine zH [] Z Z ?_ Z
    show AV.tup [AV.agg [zD wE y.c.js,zD vB y.c.ags,iA y.c.per,iA y.c.cap,iA y.c.hold,iA y.c.lock,bA false,iA y.now,zD zI y.ds,zD wY y.sg,zD wV y.sv,zD iA y.st,zD vQ y.vw,.sl false (List.take ss.length (ss.map jN))],sd0,bA false]=_
    rw[yBo (yDd hsl)];rfl
   ·(refine eM call45 λF hF=>?_)
    refine zW k1 ?_;refine zH [] Z Z ?_ Z
    show AV.tup [AV.agg [zD wE y.c.js,zD vB y.c.ags,iA y.c.per,iA y.c.cap,iA y.c.hold,iA y.c.lock,bA false,iA y.now,zD zI y.ds,zD wY y.sg,zD wV y.sv,zD iA y.st,zD vQ y.vw,.sl false (List.take ss.length (ss.map jN))],sd0,bA false]=_
    rw[yBo (yDd hsl)];rfl
theorem yAe (e:Ev) (hk:e.k=4∨e.k=5) (hb:BY e.y) (hl:e.y.length<=1000000):∃y':Cy,WM y'/\y'=dyF b.y e/\zO 45 [dU b,uY e] [] (.tup [dU ⟨y',b.ss⟩,sd0,bA false]) []:=by
 obtain⟨N,hN,hN8⟩:=zAf b h;have k1:=YS b h;have hsl:=zA jN b.ss;obtain⟨y,ss⟩:=b;have hy:=h.y;dsimp only at *;obtain⟨ek,es,ea,en,eb⟩:=e;dsimp only at*
 rcases hk with rfl|rfl
 ·obtain⟨y',i1,i2,kd⟩:=zHt y hy ea eb hb hl;refine⟨y',i1,by rw[i2];rfl,?_⟩;have hrf:=hy.rf;have hrf':=i1.rf;have eC:uB y= .agg [zD wE y.c.js,zD vB y.c.ags,iA y.c.per,iA y.c.cap,iA y.c.hold,iA y.c.lock,bA false,iA y.now,zD zI y.ds,zD wY y.sg,zD wV y.sv,zD iA y.st,zD vQ y.vw]:=by rw[<-hrf];rfl
  have eC':uB y'= .agg [zD wE y'.c.js,zD vB y'.c.ags,iA y'.c.per,iA y'.c.cap,iA y'.c.hold,iA y'.c.lock,bA false,iA y'.now,zD zI y'.ds,zD wY y'.sg,zD wV y'.sv,zD iA y'.st,zD vQ y'.vw]:=by rw[<-hrf'];rfl
  rw[eC,eC']at kd;unfold dU YT at *;dsimp only at *;unfold uY;dsimp only;by_cases h0:es<0
  ·(refine eM call45 λF hF=>?_)
   refine yS (vH k1 kd) ?_;refine zH [] Z Z ?_ Z
   show AV.tup [AV.agg [zD wE y'.c.js,zD vB y'.c.ags,iA y'.c.per,iA y'.c.cap,iA y'.c.hold,iA y'.c.lock,bA false,iA y'.now,zD zI y'.ds,zD wY y'.sg,zD wV y'.sv,zD iA y'.st,zD vQ y'.vw,.sl false (List.take ss.length (ss.map jN))],sd0,bA false]=_
   rw[yBo (yDd hsl)];rfl
  ·(refine eM call45 λF hF=>?_)
   refine yS (vH k1 kd) ?_;refine zH [] Z Z ?_ Z
   show AV.tup [AV.agg [zD wE y'.c.js,zD vB y'.c.ags,iA y'.c.per,iA y'.c.cap,iA y'.c.hold,iA y'.c.lock,bA false,iA y'.now,zD zI y'.ds,zD wY y'.sg,zD wV y'.sv,zD iA y'.st,zD vQ y'.vw,.sl false (List.take ss.length (ss.map jN))],sd0,bA false]=_
   rw[yBo (yDd hsl)];rfl
 ·obtain⟨y',i1,i2,kd⟩:=zE4 y hy ea en;refine⟨y',i1,by rw[i2];rfl,?_⟩;have hrf:=hy.rf;have hrf':=i1.rf;have eC:uB y= .agg [zD wE y.c.js,zD vB y.c.ags,iA y.c.per,iA y.c.cap,iA y.c.hold,iA y.c.lock,bA false,iA y.now,zD zI y.ds,zD wY y.sg,zD wV y.sv,zD iA y.st,zD vQ y.vw]:=by rw[<-hrf];rfl
  have eC':uB y'= .agg [zD wE y'.c.js,zD vB y'.c.ags,iA y'.c.per,iA y'.c.cap,iA y'.c.hold,iA y'.c.lock,bA false,iA y'.now,zD zI y'.ds,zD wY y'.sg,zD wV y'.sv,zD iA y'.st,zD vQ y'.vw]:=by rw[<-hrf'];rfl
  rw[eC,eC']at kd;unfold dU YT at *;dsimp only at *;unfold uY;dsimp only;by_cases h0:es<0
  ·(refine eM call45 λF hF=>?_)
   refine yS (vH k1 kd) ?_;refine zH [] Z Z ?_ Z
   show AV.tup [AV.agg [zD wE y'.c.js,zD vB y'.c.ags,iA y'.c.per,iA y'.c.cap,iA y'.c.hold,iA y'.c.lock,bA false,iA y'.now,zD zI y'.ds,zD wY y'.sg,zD wV y'.sv,zD iA y'.st,zD vQ y'.vw,.sl false (List.take ss.length (ss.map jN))],sd0,bA false]=_
   rw[yBo (yDd hsl)];rfl
  ·(refine eM call45 λF hF=>?_)
   refine yS (vH k1 kd) ?_;refine zH [] Z Z ?_ Z
   show AV.tup [AV.agg [zD wE y'.c.js,zD vB y'.c.ags,iA y'.c.per,iA y'.c.cap,iA y'.c.hold,iA y'.c.lock,bA false,iA y'.now,zD zI y'.ds,zD wY y'.sg,zD wV y'.sv,zD iA y'.st,zD vQ y'.vw,.sl false (List.take ss.length (ss.map jN))],sd0,bA false]=_
   rw[yBo (yDd hsl)];rfl
theorem ED (ss:List Ss):dV ss ss.length=ss.map λs=>(WH s).1:=by
 unfold dV;apply yCs;intro j;rw[uP,yBh];by_cases hj:j<ss.length
 ·rw[yBd hj,yBd hj,yBu hj];simp only[Option.map_some,yBl,yBu hj,yDi]
 ·rw[yBc hj,yB6 zB];rfl
def yAf (hn:b.y.now<1000000000) (e:Ev) (hk:e.k=6):∃(y':Cy) (Td:List (List Ms)),MtP b.y y' (eK b.ss) Td/\zO 118 [uB b.y,zD jR (eK b.ss)] [] (.tup [uB y',tdO Td (PA (b.y.now+1) y'.vw)]) (tdH Td)/\zO 45 [dU b,uY e] [] (.tup [dU ⟨y',dV b.ss b.ss.length⟩,sdA (Td.map XX) (XX [PA (b.y.now+1) y'.vw]),bA true]) []:=by
 obtain⟨N,hN,hN8⟩:=zAf b h;have k1:=YS b h;have hlen:(eK b.ss).length=b.ss.length:=by unfold eK;rw[yBe]
 obtain⟨y',Td,hM,km⟩:=zH4 b.y h.y hn (eK b.ss) (by rw[hlen];exact h.l) (λi hi=>by
  unfold eK at hi;obtain⟨s,hs,rfl⟩:=yCc.1 hi
  exact(zH3 (h.s s hs)).2)
 have kd:=zH8 b h y' Td hM (zUi km);refine⟨y',Td,hM,km,?_⟩;have hsl:=zA jN b.ss;have hsl2:((dV b.ss b.ss.length).map jN).length=b.ss.length:=by unfold dV;rw[yBe,vA]
 clear km;obtain⟨y,ss⟩:=b;obtain⟨ek,es,ea,en,eb⟩:=e;dsimp only at *;subst hk;unfold sdA at *;generalize Td.map XX=S at *;generalize XX [PA (y.now+1) y'.vw]=fb at *;unfold dU YT at *;dsimp only at *;rw[show zD jN (dV ss ss.length)= .sl false ((dV ss ss.length).map jN)from Z];generalize (dV ss ss.length).map jN=X at *;unfold uY;dsimp only;by_cases h0:es<0
 ·(refine eM call45 λF hF=>?_)
  refine yS (vH k1 kd) ?_;refine zH [] Z Z ?_ Z
  show AV.tup [AV.agg [zD wE y'.c.js,zD vB y'.c.ags,iA y'.c.per,iA y'.c.cap,iA y'.c.hold,iA y'.c.lock,bA false,iA y'.now,zD zI y'.ds,zD wY y'.sg,zD wV y'.sv,zD iA y'.st,zD vQ y'.vw,.sl false (List.take ss.length X)],AV.agg [zD (zD yA) S,zD yA fb],bA true]=_
  rw[yBo (yDd hsl2)]
 ·(refine eM call45 λF hF=>?_)
  refine yS (vH k1 kd) ?_;refine zH [] Z Z ?_ Z
  show AV.tup [AV.agg [zD wE y'.c.js,zD vB y'.c.ags,iA y'.c.per,iA y'.c.cap,iA y'.c.hold,iA y'.c.lock,bA false,iA y'.now,zD zI y'.ds,zD wY y'.sg,zD wV y'.sv,zD iA y'.st,zD vQ y'.vw,.sl false (List.take ss.length X)],AV.agg [zD (zD yA) S,zD yA fb],bA true]=_
  rw[yBo (yDd hsl2)]
end
section
structure DoR where
 b:WK
 S:List (List Int)
 f:List Int
 fl:Bool
structure zHv (b:WK) (e:Ev) (r:DoR):Prop where
 i:BrI r.b
 c:r.b.y.c=b.y.c
 n:b.y.now<=r.b.y.now/\r.b.y.now<=b.y.now+1
 s:e.k=1∨e.k=2∨e.k=3->r=⟨AU b e,[],[],false⟩
 t:r.fl=true->r.S.length=b.ss.length
 f6:r.fl=true->e.k=6
 y:e.k=4∨e.k=5->r=⟨⟨dyF b.y e,b.ss⟩,[],[],false⟩
 t6:e.k=6->∃(y':Cy) (Td:List (List Ms)),MtP b.y y' (eK b.ss) Td/\r=⟨⟨y',dV b.ss b.ss.length⟩,Td.map XX,XX [PA (b.y.now+1) y'.vw],true⟩/\zO 118 [uB b.y,zD jR (eK b.ss)] [] (.tup [uB y',tdO Td (PA (b.y.now+1) y'.vw)]) (tdH Td)
 k:zO 45 [dU b,uY e] [] (.tup [dU r.b,sdA r.S r.f,bA r.fl]) []
def zX5 {e:Ev} (he:BY e.y) {s:Ss} (h:SsI s):SsI (ssF e s):=by
 unfold ssF;split
 ·split
  ·exact h
  ·exact⟨kU,yBt _⟩
 ·split
  ·exact⟨kU,yBt _⟩
  ·exact zUh h he
def zX6 {b:WK} (h:BrI b) {e:Ev} (he:BY e.y):BrI (AU b e):=by
 unfold AU;split
 ·refine⟨h.y,by dsimp only;rw[yC3];exact h.l,λs hs=>?_⟩;rename_i hr;unfold inR at hr;rw[yBi]at hr
  rcases yEk hs with hs|rfl
  ·exact h.s s hs
  ·exact zX5 he (h.s _ (zS b.ss _ zB))
 ·exact h
def zX7 (b:WK) (h:BrI b) (hn:b.y.now<1000000000) (e:Ev) (he:UR e):∃r,zHv b e r:=by
 have hk:=he.k;have hyn:=he.n;have hcs:(e.k=1∨e.k=2∨e.k=3)∨(e.k=4∨e.k=5)∨e.k=6:=by omega
 rcases hcs with hk|hk|hk
 ·have k:=yAd b h e hk he.y zB
  have e1:(AU b e).y=b.y:=by unfold AU;split<;>rfl
  exact⟨⟨AU b e,[],[],false⟩,zX6 h he.y,by dsimp only;rw[e1],by dsimp only;rw[e1];omega,λ_=>rfl,λh=>(by cases h),λh=>(by cases h),λh=>zB,λh=>zB,k⟩
 ·obtain⟨y',i1,i3,k⟩:=yAe b h e hk he.y zB;obtain⟨i2,i4,_⟩:=zHu h.y.rf e;rw[<-i3]at i2 i4;exact⟨⟨⟨y',b.ss⟩,[],[],false⟩,⟨i1,by dsimp only;rw[i2];exact h.l,h.s⟩,i2,by dsimp only;omega,λh=>zB,λh=>(by cases h),λh=>(by cases h),λ_=>by rw[i3],λh=>zB,k⟩
 ·obtain⟨y',Td,hM,km,k⟩:=yAf b h hn e hk;have hll:(eK b.ss).length=b.ss.length:=by unfold eK;rw[yBe]
  refine⟨⟨⟨y',dV b.ss b.ss.length⟩,Td.map XX,XX [PA (b.y.now+1) y'.vw],true⟩,⟨hM.i,?_,λs hs=>?_⟩,hM.c,by have:=hM.n;dsimp only;omega,λh=>zB,λ_=>by dsimp only;rw[yBe,hM.l,hll],λ_=>hk,λh=>zB,λ_=>⟨y',Td,hM,rfl,km⟩,k⟩
  ·dsimp only;rw[hM.c,ED b h,yBe];exact h.l
  ·dsimp only at hs;rw[ED b h]at hs;obtain⟨s0,hs0,rfl⟩:=yCc.1 hs;exact(zH3 (h.s s0 hs0)).1
open Classical in
noncomputable def aC (b:WK) (e:Ev):DoR:=if h:∃r,zHv b e r then h.choose else⟨b,[],[],false⟩
def aD {b:WK} (h:BrI b) (hn:b.y.now<1000000000) {e:Ev} (he:UR e):zHv b e (aC b e):=by
 have hx:=zX7 b h hn e he;unfold aC;rw[yHl hx];exact hx.choose_spec
theorem zHv.st {b:WK} (h:BrI b) {e:Ev} {r:DoR} (he:UR e) (D:zHv b e r) (hf:r.fl=false):r.b.y.now=b.y.now/\r.b.y.sg=b.y.sg/\r.b.y.sv=b.y.sv/\r.b.y.vw=b.y.vw/\r.b.y.ds.map GY=b.y.ds.map GY:=by
 have hk:=he.k;have hc:(e.k=1∨e.k=2∨e.k=3)∨(e.k=4∨e.k=5)∨e.k=6:=by omega
 rcases hc with hc|hc|hc
 ·have e1:(AU b e).y=b.y:=by unfold AU;split<;>rfl
  rw[D.s hc];dsimp only;rw[e1];exact⟨rfl,rfl,rfl,rfl,rfl⟩
 ·rw[D.y hc];exact(zHu h.y.rf e).2
 ·obtain⟨_,_,_,e2,_⟩:=D.t6 hc;rw[e2]at hf;cases hf
noncomputable def gJ:WK->List Ev->WK
 |b,[]=>b
 |b,e::l=>gJ (aC b e).b l
noncomputable def GZ:WK->List Ev->List (List (List Int)×List Int)
 |_,[]=>[]
 |b,e::l=>(if(aC b e).fl=true then [((aC b e).S,(aC b e).f)]else [])++GZ (aC b e).b l
def zCp (b:WK) (l m:List Ev):gJ b (l++m)=gJ (gJ b l) m:=by
 induction l generalizing b with
 |nil=>rfl
 |cons e l ih=>exact ih _
def zOq (b:WK) (l m:List Ev):GZ b (l++m)=GZ b l++GZ (gJ b l) m:=by
 induction l generalizing b with
 |nil=>rfl
 |cons e l ih=>
  show _++GZ _ (l++m)=_
  rw[ih,<-yCa];rfl
theorem zCq:∀(l:List Ev) {b:WK},BrI b->(∀e∈l,UR e)->b.y.now+(l.length:Int)<1000000000->BrI (gJ b l)/\(gJ b l).y.c=b.y.c/\b.y.now<=(gJ b l).y.now/\(gJ b l).y.now<=b.y.now+(l.length:Int)/\(GZ b l).length<=l.length
 | [],b,h,_,_=>⟨h,rfl,yC8 _,by simp[gJ],yBg _⟩
 | e::l,b,h,he,hn=>by
  rw[yBp]at hn;have k:=aD h zB (he e zQ);have kn:=k.n;obtain⟨i1,i2,i3,i4,i5⟩:=zCq l k.i (λx hx=>he x MT) zB;refine⟨i1,i2.trans k.c,?_,?_,?_⟩
  ·show b.y.now<=(gJ (aC b e).b l).y.now
   omega
  ·show(gJ (aC b e).b l).y.now<=_
   rw[yBp];omega
  ·show((if(aC b e).fl=true then [((aC b e).S,(aC b e).f)]else [])++GZ (aC b e).b l).length<=_
   rw[yBf,yBp];split
   ·simp only[yBp,yCr];omega
   ·simp only[yCr];omega
def sdP (p:List (List Int)×List Int):AV:=sdA p.1 p.2
def zX8 (c:Cf) (hc:RU c) (l:List Ev) (hl:l.length<=1000000) (he:∀e∈l,UR e):zO 20 [wN c,zD uY l] [] (zD sdP (GZ (qB c) (l.take 400))) []:=by
 have k1:=zCn c hc;have hb:=EC c hc;have hll:=zA uY l;have h0:(qB c).y.now=0:=rfl;have ht4:(l.take 400).length<=400:=by rw[yB4];omega
 have hm4:∀e∈l.take 400,UR e:=λe h=>he e (yDb h)
 unfold dU YT at k1;refine eM call20 λF hF=>?_
 refine zW k1 ?_
 have tk4:l.take (min ((l.map uY).length:Int) 400).toNat=l.take 400:=by
  rw[yBe];by_cases h:l.length<=400
  ·rw[yBo zB,yBo zB]
  ·congr 1
   omega
 rw[tk4];have hl4:=zA uY (l.take 400);generalize l.take 400=l4 at *;refine xC 6 1001 2 Z Z Z ?_;refine yO (l4) [5,1001] [] [5,18,19] [6,20,5,18,19] Z (λi pre T U=>⟨(6,.ref 1001 0 ((GZ (qB c) pre).map sdP).length)::(20,iA i)::T,(5,.box [zD wE (gJ (qB c) pre).y.c.js,zD vB (gJ (qB c) pre).y.c.ags,iA (gJ (qB c) pre).y.c.per,iA (gJ (qB c) pre).y.c.cap,iA (gJ (qB c) pre).y.c.hold,iA (gJ (qB c) pre).y.c.lock,bA false,iA (gJ (qB c) pre).y.now,zD zI (gJ (qB c) pre).y.ds,zD wY (gJ (qB c) pre).y.sg,zD wV (gJ (qB c) pre).y.sv,zD iA (gJ (qB c) pre).y.st,zD vQ (gJ (qB c) pre).y.vw,zD jN (gJ (qB c) pre).ss])::(1001,.arr 2 ((GZ (qB c) pre).map sdP) true)::U⟩) ?_;(conv=>whnf);refine⟨by rfl,?_,?_⟩
 ·intro i pre x post hx hi;have hy:=xL uY hx hi;have hlt:=yQ hx hi;have hpm:∀e∈pre,UR e:=λe h=>hm4 e (by rw[hx];simp[h])
  have hpl:pre.length<=l4.length:=by rw[hx];simp
  have hxe:=hm4 x (by rw[hx];simp);obtain⟨p1,p2,p3,p4,p5⟩:=zCq pre hb hpm (by rw[h0];omega);have D:=aD p1 zB hxe;have kd:=D.k;have e1:gJ (qB c) (pre++[x])=(aC (gJ (qB c) pre) x).b:=zCp _ _ _
  have e2:GZ (qB c) (pre++[x])=GZ (qB c) pre++(if(aC (gJ (qB c) pre) x).fl=true then [((aC (gJ (qB c) pre) x).S,(aC (gJ (qB c) pre) x).f)]else []):=by
   rw[zOq]
   congr 1
   show _++[]=_
   rw[yCd]
  rw[e1,e2,yBn];have hsm:=zA sdP (GZ (qB c) pre);clear D e1 e2 hx hpm;generalize (GZ (qB c) pre).map sdP=X at *;unfold dU YT uY sdA at kd;unfold uY at hy;generalize aC (gJ (qB c) pre) x=r at *;generalize gJ (qB c) pre=b0 at *;obtain⟨rb,S,f,fl⟩:=r;dsimp only at *;cases fl
  ·rw[yBc yBw,yD2,yCd];refine zW kd ?_;rfl
  ·rw[yBd Z,show [(S,f)].map sdP=[.agg [zD (zD yA) S,zD yA f]]from Z];refine zW kd ?_;rfl
 ·(refine WW ?_)
  exact zH [] Z Z (yB8 (AV.sl false) yBj) Z
end
theorem KZ:∀{pre l:List Lg},gC pre l=true->∀g∈l,NY g=true
 |_,[],_,_,h=>by cases h
 |pre,x::l,h,g,hg=>by
  unfold gC at h;simp only[yBq]at h
  rcases yCk.1 hg with rfl|hg
  ·exact h.1
  ·exact KZ h.2.2 g hg
theorem RQ:∀{p0 pre post:List Lg} {g:Lg},gC p0 (pre++g::post)=true->∀y∈p0++pre,y.jn≠g.jn
 |p0,[],post,g,h,y,hy=>λe=>by
  rw[yCd]at hy;rw[yDk,zDw hy e]at h;cases h
 |p0,x::pre,post,g,h,y,hy=>by
  rw[yD0]at h;unfold gC at h;simp only[yBq]at h;exact RQ h.2.2 y (by simpa using hy)
def zCr {k:Int} {ds:List xH} {x:Cl} (h:x∈vU k ds):∃d∈ds,∃r∈d.rq,∃g∈r.legs,g.jn=k/\g.sc≠ -1/\x=⟨d.rg.num,r.id,g.ph,r.cls,g.sc⟩:=by
 unfold vU at h;obtain⟨l1,h1,h2⟩:=yDt.1 h;obtain⟨d,hd,rfl⟩:=yCc.1 h1;unfold fI at h2;obtain⟨l2,h3,h4⟩:=yDt.1 h2;obtain⟨r,hr,rfl⟩:=yCc.1 h3;unfold MC at h4;split at h4
 ·cases h4
 ·rename_i h5;split at h4
  ·cases h4
  ·rename_i h6
   have ha:(r.legs.any λg:Lg=>g.jn==k)=true:=by
    cases ha:(r.legs.any λg:Lg=>g.jn==k)with
    |true=>rfl
    |false=>exact absurd (by unfold XE;rw[ha,yBc yBw];decide) h5
   have hlt:=IU ha;have ei:(XE (λg:Lg=>g.jn==k) r.legs).toNat=r.legs.findIdx λg:Lg=>g.jn==k:=by unfold XE;rw[yBd ha,yB5]
   have hfi:(r.legs.findIdx λg:Lg=>g.jn==k)<r.legs.length:=by omega
   have hg:=List.findIdx_getElem (w:=hfi);rw[ei]at h4 h6
   have eg:r.legs.getD (r.legs.findIdx λg:Lg=>g.jn==k) default=r.legs[r.legs.findIdx λg:Lg=>g.jn==k]:=by
    rw[yBl,yBu hfi];rfl
   rw[eg]at h4 h6;exact⟨d,hd,r,hr,_,yD1 hfi,by simpa using hg,h6,yCf.1 h4⟩
def zHw {k:Int} {ds:List xH} {d:xH} {r:Rq} {g:Lg} (hd:d∈ds) (hr:r∈d.rq) (hg:g∈r.legs) (hv:MM r.legs=true) (hk:g.jn=k) (hs:g.sc≠ -1):⟨d.rg.num,r.id,g.ph,r.cls,g.sc⟩∈vU k ds:=by
 obtain⟨pre,post,e⟩:=yGf hg;unfold MM at hv;rw[yBq,e]at hv;have hne:=RQ hv.2;rw[yDk]at hne;have hit:=VF (p:=λg:Lg=>g.jn==k) e (λy hy=>by have:=hne y hy;rw[hk]at this;simpa using this) (by simpa using hk)
 have hgd:r.legs.getD pre.length default=g:=by
  rw[e,yBl,yB9 (yBg _),yDh];rfl
 refine yDt.2 ⟨_,yCc.2 ⟨d,hd,rfl⟩,yDt.2 ⟨_,yCc.2 ⟨r,hr,rfl⟩,?_⟩⟩;unfold MC;rw[hit,yBc zB,yB5,hgd,yBc hs];exact yCf.2 Z
def NN (l:List Ag):Nat->Int
 |0=>0
 |i+1=>NN l i+(l.getD i default).req
theorem zCs {k:Int} {ds:List xH} {ags:List Ag} (hl:ds.length=ags.length) (h:∀a,a<ds.length->((ds.getD a default).rq.length:Int)<=(ags.getD a default).req):∀i,i<=ds.length->((vU k (ds.take i)).length:Int)<=NN ags i
 |0,_=>by simp[vU,NN]
 | i+1,hi=>by
  have ih:=zCs (k:=k) hl h i zB;have h1:=h i zB;have h2:=eO (ds.getD i default).rg.num k (ds.getD i default).rq
  have e:ds.take (i+1)=ds.take i++[ds.getD i default]:=by
   rw[yBl,yBu zB];exact(yFp zB).symm
  rw[e,US,yBf]
  show _<=NN ags i+(ags.getD i default).req
  omega
def zUf {k:Int} {a b:List xH} (h:a.map GY=b.map GY):vU k a=vU k b:=by
 have e:∀l:List xH,vU k l=((l.map GY).map λq=>fI q.1 k q.2).flatten:=λl=>by
  unfold vU;rw[yGh];rfl
 rw[e,e,h]
structure CyW (y:Cy):Prop where
 w:∀k,k<y.c.js.length->WJ (y.c.js.getD k default) (y.sg.getD k default) (y.sv.getD k default)
 n:∀a,a<y.ds.length->(y.ds.getD a default).rg.num=(a:Int)
def zHx {y:Cy} (h:WM y) {k:Nat} (hk:k<y.c.js.length):∀x∈vU (k:Int) y.ds,(0<=x.ph/\x.ph<((y.c.js.getD k default).ph.length:Int))/\0<=x.k:=λx hx=>by
 obtain⟨d,hd,r,hr,g,hg,e1,e2,rfl⟩:=zCr hx;have hI:=h.di d hd;have ho:=hI.v.ok r hr;have hv:=ho.lg;unfold MM at hv;rw[yBq]at hv;have hlv:=KZ hv.2 g hg;unfold NY at hlv;rw[yBi]at hlv;have hlg:=(hI.lg r hr g hg).2;rw[e1,yB5]at hlg;exact⟨⟨hlv.2.2.1,hlg⟩,ho.c0⟩
theorem zHy (c:Cf) (k:Nat):∀(ks:List Int) (sg:List Sg),k<sg.length->(WN c sg ks).getD k default=sg.getD k default∨((sg.getD k default).lat=true/\(WN c sg ks).getD k default=jT (c.js.getD k default))
 | [],_,_=> .inl Z
 | x::ks,sg,hl=>by
  have ih:=zHy c k ks (sg.set x.toNat (srF (c.js.getD x.toNat default) (sg.getD x.toNat default))) (by rw[yC3];exact hl);rw[UP _ _ _ _ hl]at ih;have e:WN c sg (x::ks)=WN c (sg.set x.toNat (srF (c.js.getD x.toNat default) (sg.getD x.toNat default))) ks:=rfl;rw[e];by_cases hx:x.toNat=k
  ·rw[yBd hx,hx]at ih;rw[hx];unfold srF at ih⊢;by_cases hlat:(sg.getD k default).lat=true
   ·rw[yBd hlat]at ih⊢
    right
    rcases ih with ih|ih
    ·exact⟨hlat,ih⟩
    ·exact⟨hlat,ih.2⟩
   ·rw[yBc hlat]at ih⊢
    rcases ih with ih|ih
    ·exact .inl ih
    ·exact absurd ih.1 hlat
  ·rw[yBc hx]at ih;exact ih
theorem WJ.new {j:Jn} {s:Sg} {v:Sv} (W:WJ j s v) (hl:s.lat=true):WJ j (jT j) v:=by
 have:=W.l hl;have h0:=W.p0;have h1:=W.p1;exact⟨h0,h1,λh=>(by cases h),λ_ h2=>by omega⟩
def zHz (y:Cy) (R:Nat->DR) (k:Nat):RC y R k=cU y.c (y.c.js.getD k default) ((WN y.c y.sg (ZI R y.ds.length)).getD k default) (y.sv.getD k default) (vU (k:Int) (qO y R).ds) (y.st.getD k default) (y.now+1):=rfl
def zAg {y:Cy} (h:WM y) (R:Nat->DR) {k:Nat} (hk:k<y.c.js.length):(qO y R).sg.getD k default=(RC y R k).1/\(qO y R).sv.getD k default=(RC y R k).2/\(qO y R).vw.getD k default=LJ (y.c.js.getD k default) (RC y R k).1 (RC y R k).2:=by
 have hg:=(LD h.v (sv:=y.sv) (now:=y.now) (ZI R y.ds.length) y.sg h.gl h.j).1;have hs:=h.sl;refine⟨zCy _ _ _ _ hk zB,zCz _ _ _ _ hk zB,?_⟩
 show(stU y.c.js (RC y R) y.c.js.length).getD k default=_
 unfold stU;rw[yBl,yBh,yCe hk];rfl
theorem CyW.tick {y:Cy} (h:WM y) (W:CyW y) {ins:List In} {R:Nat->DR} (hR:TkR y ins R):CyW (qO y R):=by
 have hZ:=LE h hR;refine⟨λk hk=>?_,λa ha=>?_⟩
 ·have hk:k<y.c.js.length:=hk;obtain⟨e1,e2,_⟩:=zAg h R hk;rw[e1,e2,zHz];have hw:=W.w k hk;have J:=h.v.jv _ (zS y.c.js k hk);have C:=((LD h.v (sv:=y.sv) (now:=y.now) (ZI R y.ds.length) y.sg h.gl h.j).2 k hk).c;have hl:=λx hx=>(zHx hZ (k:=k) hk x hx).1
  rcases zHy y.c k (ZI R y.ds.length) y.sg (by have:=h.gl;omega)with e|⟨e3,e⟩
  ·rw[e]at C⊢;exact WJ.step J C hw hl
  ·rw[e]at C⊢;exact WJ.step J C (hw.new e3) hl
 ·have ha':a<y.ds.length:=by rw[<-cT (y.now+1) y.ds R];exact ha
  show((SF (y.now+1) y.ds R y.ds.length).getD a default).rg.num=_
  rw[ZG ha',(hR a ha').1.num];exact W.n a ha'
def EE {y:Cy} (h:WM y) (W:CyW y) {ins:List In} {R:Nat->DR} (hR:TkR y ins R) {d:xH} (hd:d∈(qO y R).ds) {r:Rq} (hr:r∈d.rq) {g:Lg} (hg:g∈r.legs) (hs:g.sc≠ -1) (hn:g.sc<=y.now):
  ∃d0∈y.ds,d0.rg.num=d.rg.num/\∃r0∈d0.rq,r0.id=r.id/\MM r0.legs=true/\∃g0∈r0.legs,g0.jn=g.jn/\g0.ph=g.ph/\g0.sc=g.sc:=by
 obtain⟨a,ha,rfl⟩:=ZH hd;obtain⟨H,_⟩:=hR a ha;have hm:=zS y.ds a ha
 rcases H.sp r hr g hg with h1|h1|⟨r0,h1,h2,g0,h3,h4⟩
 ·exact absurd h1 hs
 ·omega
 ·have hr0:r0∈(y.ds.getD a default).rq:=(yEd.1 h1).1;exact⟨_,hm,by rw[H.num];rfl,r0,hr0,h2,((h.di _ hm).v.ok r0 hr0).lg,g0,h3,h4⟩
def zH0 {y:Cy} (h:WM y) (W:CyW y) {ins:List In} {R:Nat->DR} (hR:TkR y ins R) (k:Int):∀x∈vU k (qO y R).ds,x.si<=y.now->∃z∈vU k y.ds,z.ph=x.ph/\z.si=x.si:=λx hx hn=>by
 obtain⟨d,hd,r,hr,g,hg,e1,e2,rfl⟩:=zCr hx;obtain⟨d0,h0,_,r0,h2,_,h3,g0,h4,h5,h6,h7⟩:=EE h W hR hd hr hg e2 hn;exact⟨_,zHw h0 h2 h4 h3 (h5.trans e1) (by rw[h7];exact e2),h6,h7⟩
end Av
end Go.Proofs.YteajjdidebfcjaaGreat
