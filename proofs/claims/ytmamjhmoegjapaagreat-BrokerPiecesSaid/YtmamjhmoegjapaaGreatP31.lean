/- Part 31. -/
import Derived.Test.YtmamjhmoegjapaaGreatP30
import Derived.Test.YtmamjhmoegjapaaGreatP27
namespace Go.Proofs.YtmamjhmoegjapaaGreat
namespace Av
open Tryz
set_option linter.unusedSimpArgs false
set_option linter.unusedVariables false
set_option linter.unusedSectionVars false
set_option maxRecDepth 4000
set_option maxHeartbeats 8000000
theorem zC7 (v:AV):(WN v).cells=v.cells.map WN:=by
 cases v with
 |agg cs=>show wkL cs=cs.map WN;exact zCr cs
 |s v=>
  show(WN (.s v)).cells=[WN (.s v)]
  unfold WN
  split<;>rfl
 |_=>rfl
theorem xG.wkl {w:World} {D:Nat->Prop} {nn:Bool} {xs:List AV} {c:Value} (hv:xG w D (.sl nn xs) c):xG w D (.sl nn (xs.map WN)) c:=by
 cases hv with
 |nil a cap=>exact .nil a cap
 |nil1 a cap=>exact .nil1 a cap
 | sl _ _ b o sz cap f hx hL hc h=>
  have hl:(xs.map WN).length=xs.length:=zX2 ..
  have hk:∀(i:Nat) (x:AV),(xs.map WN)[i]? =some x->∃y,xs[i]? =some y/\x.cells=y.cells.map WN:=λi x hx=>by
   rw[zX4,zYg]at hx;obtain⟨y,hy,rfl⟩:=hx;exact⟨y,hy,zC7 y⟩
  have hL':Lay w D (xs.map WN) b o sz f:=by
   refine⟨hL.lt,hL.nd,hL.pos,by rw[hl];exact hL.max,λi x hx=>?_,λi j hi hj=>hL.cell i j (by rw[hl]at hi;exact hi) hj,λi j hi hj=>hL.one i j (by rw[hl]at hi;exact hi) hj⟩;obtain⟨y,hy,he⟩:=hk i x hx;rw[he,zX2];exact hL.wide i y hy
  have:=xG.sl nn (xs.map WN) b o sz cap f (by simpa using hx) hL' (by rw[hl];exact hc) (λi x j v hi hj=>by
   obtain⟨y,hy,he⟩:=hk i x hi;rw[he,zX4,zYg]at hj;obtain⟨u,hu,rfl⟩:=hj
   exact(h i y j u hy hu).wk)
  rw[hl]at this;exact this
section
variable {P:Program} {K0:List Nat} {F:Fr K0} {m:Nat} {ops:Array Oper} {rest:List Oper} {fs:List FP} {tm:List (Nat×AV)} {h:List (Nat×xN)}
theorem wK.wkL {a:Act} {w:World} (R:wK F m ⟨tm,h⟩ a w) (t:Nat) {nn:Bool} {xs ys:List AV} (hv:zG tm t= .sl nn xs) (he:xs.map WN=ys):wK F m ⟨(t,.sl nn ys)::tm,h⟩ a w:=by
 obtain⟨⟨X,β,hX,H,Ht,KK,hJ,hD⟩,nd,gs,hl⟩:=R;refine⟨⟨X,β,hX,H,λj=>?_,KK,λi hi=>?_,hD⟩,nd,gs,hl⟩
 ·rw[yP];split
  ·rename_i hj;subst hj;have:=Ht j;dsimp only at this;rw[hv]at this
   cases this with
   |fz _ _ hf=>exact .fz _ _ (he▸hf.wkl)
  ·exact Ht j
 ·rw[yP]at hi;split at hi
  ·cases hi
  ·exact hJ i hi
theorem zUw {Q:List FP->St->Prop} (t:Nat) {nn:Bool} {xs ys:List AV} (hv:zG tm t= .sl nn xs) (he:xs.map WN=ys) (hk:yC P F m ops false rest ⟨(t,.sl nn ys)::tm,h⟩ fs Q):yC P F m ops false rest ⟨tm,h⟩ fs Q:=
 ⟨λa w R=>hk.run a w (R.wkL t hv he)⟩
end
theorem zE3 (c:Cf) (hw:MX c.ags) (n:Nat) (hn:n<=c.ags.length):zN 41 [wP c,iA n] [] (iA (qX c.ags n)) []:=by
 have hl:=zA vC c.ags;have h4:=hw.1;have hb:=qS hw;unfold wP;refine eM call41 λF hF=>?_
 refine WW ?_;refine zP (n) [] [] [1,9,10] [5,11,1,9,10] rfl (λi T U=>⟨(5,iA (qX c.ags i))::(11,iA i)::T,U⟩) ?_;(conv=>whnf);refine⟨by rfl,?_,?_⟩
 ·intro i hi;have hy:=zM vC c.ags i zB;have h1:=hw.at (i:=i) zB;have h2:=hb i zB;rw[show qX c.ags (i+1)=qX c.ags i+(c.ags.getD i default).ses from rfl];clear hb;generalize qX c.ags i=s at *;generalize c.ags.getD i default=a at *;refine WW ?_;rfl
 ·by_cases h9:n<c.ags.length
  ·have hy:=zM vC c.ags n h9;generalize c.ags.getD n default=a at *;refine WW ?_;exact zJ
  ·(refine WW ?_)
   exact zJ
def zSe:AV:= .agg [bA false,bA false,.s (.slice none 0 0),bA false]
def QL (ss:List Ss) (i:Nat):List AV:=(List.range ss.length).map λk=>if k<i then kJ (ss.getD k default)else zSe
theorem zC8 (ss:List Ss):QL ss 0=List.replicate ss.length zSe:=by
 unfold QL;apply zZf;intro j;rw[zX4,zZs];by_cases hj:j<ss.length
 ·rw[zYx hj,zX1 hj];simp
 ·rw[zX0 hj,zYt wQ];rfl
theorem zE4 (ss:List Ss):QL ss ss.length=ss.map kJ:=by
 unfold QL;rw[eP];apply zZf;intro j;rw[zX4,zX4];by_cases hj:j<ss.length
 ·rw[zYx hj,zYi hj];simp only[Option.map_some,zX5,zYi hj,zZ3]
 ·rw[zYt wQ,zYt zB];rfl
theorem XD (b:aE) (h:GT b):zN 51 [kG b] [] (cN b.y (.ref 1021 0 b.ss.length)) [(1021,.arr 4 (b.ss.map kJ) false)]:=by
 obtain⟨y,ss⟩:=b;have hy:=h.y;have hs:=h.s;have hl:=h.l;dsimp only at *;have hw:=hy.v.ag;have hrf:=hy.rf
 have hsb:ss.length<=8:=by
  have:=qS hw y.c.ags.length (zX6 _);have:=hw.1;omega
 have eC:uF y= .agg [zD wH y.c.js,zD vC y.c.ags,iA y.c.per,iA y.c.cap,iA y.c.hold,iA y.c.lock,bA false,iA y.now,zD zK y.ds,zD wV y.sg,zD wT y.sv,zD iA y.st,zD vM y.vw]:=by rw[<-hrf];rfl
 have k1:=aW y hy.b;rw[eC]at k1;have hsl:=zA kJ ss;unfold kG cN;dsimp only;refine eM call51 λF hF=>?_
 (repeat' (first|refine qB ?_|refine xO (λhc=>?_) (λhc=>?_)|refine wB (λhc=>?_)|(refine zE ?_;first|(refine gU ?_;refine cK 1021 tok rfl rfl rfl rfl rfl rfl rfl rfl rfl rfl rfl rfl rfl zB zB rfl rfl rfl ?_))|fail))
 rw[hsl];have hn:∀i,(QL ss i).length=ss.length:=λi=>by unfold QL;rw[zX2,zZk]
 refine zP (ss.length) [1021,1,2] [1,2] [1,2,3,11,12] [13,1,2,3,11,12] rfl (λi T U=>⟨(13,iA i)::T,(1021,.arr 4 (QL ss i) false)::U⟩) ?_;(conv=>whnf);refine⟨by(rw[zC8];rfl),?_,?_⟩
 ·intro i hi;have hy:=zM kJ ss i hi;have hyc:(QL ss i)[i]? =some zSe:=cO _ _ _ _ hi;have e1:QL ss (i+1)=(QL ss i).set i (kJ (ss.getD i default)):=eO _ _ _ _ hi;have hI:=hs _ (zZ ss i hi);have kx:=KV (ss.getD i default) (by have:=hI.n;omega);have h1:=hn i;rw[e1];clear e1 hs hI k1;unfold zSe at hyc;generalize QL ss i=X at *;generalize ss.getD i default=s at *;refine zU kx ?_;rfl
 ·rw[zE4];refine zU k1 ?_;exact zL [1021] rfl rfl rfl rfl
def wS (c:Cf):aE:=⟨aP c,List.replicate (qX c.ags c.ags.length).toNat ⟨false,false,[],false⟩⟩
theorem zUx {α β:Type} [Inhabited α] [Inhabited β] (f:α->β) (l:List α) (k:Nat) (hk:k<l.length):(l.map f).getD k default=f (l.getD k default):=by
 rw[zX5,zX4,zYi hk,zX5,zYi hk];rfl
theorem zP2 (c:Cf) (h:GY c):GO (aP c):=by
 have ha:=h.a;have hdl:(KQ c c.ags.length).length=c.ags.length:=by simp[KQ]
 have hmem:∀d∈KQ c c.ags.length,∃k:Nat,k<c.ags.length/\d=PV (k:Int) (c.ags.getD k default) (c.ags.getD k default).ses.toNat:=λd hd=>by
  unfold KQ at hd;obtain⟨k,hk,rfl⟩:=zZj.1 hd;exact⟨k,zYr.1 hk,rfl⟩
 refine⟨h,rfl,zZ8 _,hdl,λd hd=>?_,λa ha=>?_,λd hd=>?_,by simp[aP],by simp[aP],by simp[aP],by simp[aP],λw hw=>?_,λk hk=>?_⟩
 ·obtain⟨k,hk,rfl⟩:=hmem d hd;exact zSp (h.av _ (zZ c.ags k hk)) k zB
 ·have ha':a<c.ags.length:=by rw[<-hdl];exact ha
  show((KQ c c.ags.length).getD a default).rg.ag=_
  unfold KQ;rw[zX5,zX4,zYx ha'];rfl
 ·obtain⟨k,hk,rfl⟩:=hmem d hd;exact λr hr=>by cases hr
 ·unfold aP at hw;obtain⟨j,hj,rfl⟩:=zZj.1 hw;exact zP8 j (h.jv j hj) _ _
 ·have hk':k<c.js.length:=hk;have J:=h.jv _ (zZ c.js k hk')
  show JI (c.js.getD k default) ((c.js.map kS).getD k default) ((c.js.map QU).getD k default) 0
  rw[zUx kS c.js k hk',zUx QU c.js k hk'];refine⟨FN J,by simp[QU,zMf],λe he=>?_,zZ8 _⟩;rw[(yB6.1 he).2]
  decide
theorem VA (c:Cf) (h:GY c):GT (wS c):=by
 have hb:=qS h.ag c.ags.length (zX6 _);refine⟨zP2 c h,?_,λs hs=>?_⟩
 ·show((List.replicate _ _).length:Int)=_
  rw[zZd]
  show((qX c.ags c.ags.length).toNat:Int)=qX c.ags c.ags.length
  omega
 ·rw[(yB6.1 hs).2];exact⟨kD,zYe _⟩
theorem RK (c:Cf) (h:GY c):zN 13 [wP c] [] (kG (wS c)) []:=by
 have k1:=zRe c h;have hrf:=(zP2 c h).rf;have hw:=h.ag;have k2:=zE3 c hw c.ags.length (zX6 _);have hal:=zA vC c.ags;have hb:=qS hw c.ags.length (zX6 _);have h4:=hw.1;have eC:uF (aP c)= .agg [zD wH (aP c).c.js,zD vC (aP c).c.ags,iA (aP c).c.per,iA (aP c).c.cap,iA (aP c).c.hold,iA (aP c).c.lock,bA false,iA (aP c).now,zD zK (aP c).ds,zD wV (aP c).sg,zD wT (aP c).sv,zD iA (aP c).st,zD vM (aP c).vw]:=by rw[<-hrf];rfl
 rw[eC]at k1;obtain⟨N,hN⟩:∃N:Nat,qX c.ags c.ags.length=(N:Int):=⟨(qX c.ags c.ags.length).toNat,zB⟩;rw[hN]at k2 hb;rw[<-hal]at k2
 have eB:kG (wS c)= .agg [zD wH (aP c).c.js,zD vC (aP c).c.ags,iA (aP c).c.per,iA (aP c).c.cap,iA (aP c).c.hold,iA (aP c).c.lock,bA false,iA (aP c).now,zD zK (aP c).ds,zD wV (aP c).sg,zD wT (aP c).sv,zD iA (aP c).st,zD vM (aP c).vw,.sl false (List.replicate N (.agg [bA false,bA false,zD yA [],bA false]))]:=by
  unfold kG cN wS;dsimp only;rw[hN];unfold zD;rw[yBi];rfl
 rw[eB];generalize aP c=z at *;refine eM call13 λF hF=>?_
 (have zc1:=k1;have zc2:=k2;(repeat' (first|refine qB ?_|refine xO (λhc=>?_) (λhc=>?_)|refine wB (λhc=>?_)|(refine zE ?_;first|(refine gU ?_;refine cK 1021 tok rfl rfl rfl rfl rfl rfl rfl rfl rfl rfl rfl rfl rfl zB zB rfl rfl rfl ?_;refine jG [1,2,3] [1,2,3,16] rfl ?_;(conv=>whnf);(try simp only[zY2]);refine zUw 16 rfl rfl ?_))|fail))<;>clear zc1 zc2)
 refine zI [] rfl rfl ?_ rfl
 show AV.agg [zD wH z.c.js,zD vC z.c.ags,iA z.c.per,iA z.c.cap,iA z.c.hold,iA z.c.lock,bA false,iA z.now,zD zK z.ds,zD wV z.sg,zD wT z.sv,zD iA z.st,zD vM z.vw,.sl false (List.map WN (List.take N (List.replicate N zSe)))]=_
 rw[zYb (by rw[zZd];exact zX6 _),yBi];rfl
theorem zE5 (l:List (List Int)) (hl:l.length<=1073741824):zN 153 [zD kH l] [] (.ref 1005 0 (l.map kH).length) [(1005,.arr 1 (l.map kH) false)]:=by
 have hll:=zA kH l;refine eM call153 λF hF=>?_
 refine xA 0 rfl (λcap hx=>?_) ?_
 ·have:l=[]:=by simpa using hx
  subst this
  (repeat' (first|refine WZN ?_|refine xO (λhc=>?_) (λhc=>?_)|refine wB (λhc=>?_)|fail))
  refine uM 2 1005 1 rfl rfl rfl (yU ?_);exact zL [1005] rfl rfl rfl rfl
 ·repeat' (first|(refine zE ?_;first|refine vN tok rfl rfl ?_|(refine wW ?_;refine xI (yX tok (.inl ⟨rfl,rfl⟩) rfl rfl rfl rfl) rfl ?_)|(refine yS ?_;refine uN (nw:=[1005]) (yL tok 1005 (xs:=[]) rfl rfl rfl rfl rfl rfl rfl rfl rfl) rfl rfl rfl ?_)|(refine yV ?_;refine wO tok rfl rfl rfl rfl rfl rfl rfl (xT _ _ (λ_=>rfl)) rfl rfl rfl zB rfl ?_)|refine qF ?_)|(first|refine xS ?_|refine xD ?_|refine vD rfl ?_|refine zX rfl ?_|refine zQ rfl ?_|refine xK rfl (λhc=>?_) (λhc=>?_)|refine yY ?_|refine yU ?_|refine xE ?_|refine yT ?_))
  exact zL [1005] rfl rfl rfl rfl
def NV (d:xQ):AV:=wI d.rg (zD yK d.rq) (.ref 1005 0 (d.dr.map kH).length) (zD bA d.au)
theorem zE6 (d:xQ) (hb:eE d):zN 102 [zK d] [] (NV d) [(1005,.arr 1 (d.dr.map kH) false)]:=by
 have k1:=JT d.rg hb.rg;have hq:=hb.q;have hdn:=hb.n;have hau:=hb.a;have k2:=XY d.rq zB;have k3:=zE5 d.dr zB;have k4:=EQ d.au zB;have hlq:=zA yK d.rq;have hld:=zA kH d.dr;unfold NV zK wI;unfold uX at k1;refine eM call102 λF hF=>?_
 refine yQ (wZ k1 k2) ?_;refine zP ((d.rq.map yK).length) [1001,1,2] [1,2] [1,2,15] [16,1,2,15] rfl (λi T U=>⟨(16,iA i)::T,(1001,.arr 5 (kY i (d.rq.map yK)) false)::U⟩) ?_;(conv=>whnf);refine⟨by rfl,?_,?_⟩
 ·intro i hi;have hi':i<d.rq.length:=by omega
  have hy:(kY i (d.rq.map yK))[i]? =some (yK (d.rq.getD i default)):=zM yK d.rq i hi';have e:=kO yK d.rq i hi';have c2:=cU (d.rq.getD i default).legs (hb.g (d.rq.getD i default) aI);generalize (d.rq.getD i default)=t at *;generalize kY i (d.rq.map yK)=xs at *;generalize kY (i+1) (d.rq.map yK)=ys at *;subst e;refine zU c2 ?_;rfl
 ·(refine zU k3 ?_)
  refine zP ((d.dr.map kH).length) [1005,1,2,1001] [1,2,1001] [1,2,38] [39,1,2,38] rfl (λi T U=>⟨(39,iA i)::T,(1005,.arr 1 (kY i (d.dr.map kH)) false)::U⟩) ?_;(conv=>whnf);refine⟨by rfl,?_,?_⟩
  ·intro i hi;have hi':i<d.dr.length:=by omega
   have hy:(kY i (d.dr.map kH))[i]? =some (kH (d.dr.getD i default)):=zM kH d.dr i hi';have e:=kO kH d.dr i hi';have c2:=vB (d.dr.getD i default) (by have:=hb.e (d.dr.getD i default) aI;omega);generalize (d.dr.getD i default)=t at *;generalize kY i (d.dr.map kH)=xs at *;generalize kY (i+1) (d.dr.map kH)=ys at *;subst e;refine zU c2 ?_;rfl
  ·(refine zU k4 ?_)
   refine zI [1005] rfl rfl ?_ rfl
   show wI d.rg (.sl false ((d.rq.map yK).take (d.rq.map yK).length)) (.ref 1005 0 (d.dr.map kH).length) (zD bA d.au)=_
   rw[zX7];rfl
theorem KJ (K:List Nat) (h:yJ):∀l:List xQ,uU K h (l.map zK)=l.map zK
 | []=>rfl
 |r::l=>by rw[zZl,uU,KJ K h l];rfl
theorem QM (K:List Nat) (h:yJ):∀l:List xQ,wF K h (l.map zK)=l.map zK
 | []=>rfl
 |r::l=>by rw[zZl,wF,QM K h l];rfl
theorem UQ:∀l:List xQ,wE (l.map zK)=true
 | []=>rfl
 |r::l=>by rw[zZl,wE,UQ l];rfl
def kR (pre:List xQ) (x:xQ) (post:List xQ):List AV:=pre.map zK++NV x::post.map zK
theorem QN (pre:List xQ) (x:xQ) (post:List xQ):(kR pre x post).length=pre.length+1+post.length:=by simp[kR];omega
theorem zE7 {K:List Nat} (hK:K.contains 1005=true) (h:yJ) (pre:List xQ) (x:xQ) (post:List xQ) (b:Bool):qU K h (.arr 17 (kR pre x post) ⟨b,true⟩)= .arr 17 (kR pre x post) ⟨b,true⟩:=by
 have e:uU K h (kR pre x post)=kR pre x post:=by
  unfold kR;rw[PZ,KJ,uU,KJ]
  congr 2
  have er:wN K h (.ref 1005 0 (x.dr.map kH).length)= .ref 1005 0 (x.dr.map kH).length:=by
   unfold wN;rw[hK];rfl
  show AV.agg [_,_,_,_,_,_,_,_,_,_,_,_,_,_,_,wN K h (.ref 1005 0 (x.dr.map kH).length),_]=_
  rw[er];rfl
 have e2:wE (kR pre x post)=false:=by
  unfold kR;rw[WB,UQ,wE];rfl
 show xN.arr 17 (uU K h (kR pre x post)) ⟨b,!wE (uU K h (kR pre x post))⟩=_
 rw[e,e2];rfl
theorem zLi (pre:List xQ) (x:xQ) (post:List xQ):(kR pre x post)[pre.length]? =some (NV x):=by
 unfold kR;rw[zYs zS,zX2,yAe];rfl
theorem zBa {pre:List xQ} {x:xQ} {post l:List xQ} (hL:l=pre++x::post):(l.map zK).set pre.length (NV x)=kR pre x post:=by
 subst hL;unfold kR;rw[zYc,zZl,yA0 _ _ zS,zX2,yAe];rfl
theorem zC9 {pre:List xQ} {x:xQ} {post l:List xQ} (hL:l=pre++x::post) {i:Nat} (h1:pre.length<i) (h2:i<l.length):(kR pre x post)[i]? =some (zK (l.getD i default)):=by
 subst hL;rw[<-zBa rfl,yCg zB];exact zM zK _ i h2
def zQ4 (y:Cy) (pre:List xQ) (x:xQ) (post:List xQ):AV:=aR y.c y.rf y.now (.ref 1011 0 y.ds.length) (zD wV y.sg) (zD wT y.sv) (zD iA y.st) (zD vM y.vw)
theorem zE8 (y:Cy) (h:CyB y) (pre:List xQ) (x:xQ) (post:List xQ) (hL:y.ds=pre++x::post):zN 60 [uF y] [] (zQ4 y pre x post) [(1011,.arr 17 (kR pre x post) ⟨false,true⟩),(1005,.arr 1 (x.dr.map kH) false)]:=by
 have k1:=aS y.ds (by have:=h.d;omega);have k2:=aT y.sg (by have:=h.g;omega);have k3:=aU y.sv (by have:=h.s;omega);have k4:=aV y.st (by have:=h.t;omega);have k5:=ZV y.vw h.v h.vb;have hl1:=zA zK y.ds;have hl2:=zA wV y.sg;have hl3:=zA wT y.sv;have hl4:=zA iA y.st;have hd:=h.d;have hg:=h.g;have hs:=h.s;have hlen:y.ds.length=pre.length+1+post.length:=by rw[hL];simp;omega
 have hcl:=QN pre x post;have hfr:∀(K:List Nat) (H:yJ),K.contains 1005=true->qU K H (.arr 17 (kR pre x post) ⟨false,true⟩)= .arr 17 (kR pre x post) ⟨false,true⟩:=λK H hK=>zE7 hK H pre x post false
 unfold uF zQ4 aR;refine eM call60 λF hF=>?_
 refine zU k1 ?_;rw[hl1]
 refine vA (λn st=>∃i,n+i=y.ds.length/\st=if i<=pre.length then(⟨[(13,iA i),(1,.ptr 1 0 0),(2,.ptr 2 0 0),(12,iA y.ds.length)],[(1,.box [zD wH y.c.js,zD vC y.c.ags,iA y.c.per,iA y.c.cap,iA y.c.hold,iA y.c.lock,bA y.rf,iA y.now,.ref 1011 0 y.ds.length,zD wV y.sg,zD wT y.sv,zD iA y.st,zD vM y.vw]),(2,.box [.s (.slice none 0 0),.s (.slice none 0 0),iA 0,iA 0,iA 0,iA 0,bA false,iA 0,.s (.slice none 0 0),.s (.slice none 0 0),.s (.slice none 0 0),.s (.slice none 0 0),.s (.slice none 0 0)]),(1011,.arr 17 (y.ds.map zK) false)]⟩:St)
  else⟨[(13,iA i),(1,.ptr 1 0 0),(2,.ptr 2 0 0),(12,iA y.ds.length)],[(1,.box [zD wH y.c.js,zD vC y.c.ags,iA y.c.per,iA y.c.cap,iA y.c.hold,iA y.c.lock,bA y.rf,iA y.now,.ref 1011 0 y.ds.length,zD wV y.sg,zD wT y.sv,zD iA y.st,zD vM y.vw]),(2,.box [.s (.slice none 0 0),.s (.slice none 0 0),iA 0,iA 0,iA 0,iA 0,bA false,iA 0,.s (.slice none 0 0),.s (.slice none 0 0),.s (.slice none 0 0),.s (.slice none 0 0),.s (.slice none 0 0)]),(1011,.arr 17 (kR pre x post) ⟨false,true⟩),(1005,.arr 1 (x.dr.map kH) false)]⟩) y.ds.length [1,2,1011,1005] [13,1,2,12] rfl ⟨0,zB,by rw[zX1 (zYe _)];rfl⟩ ?_
 rintro n st ⟨i,hi,rfl⟩;by_cases hip:i<pre.length
 ·rw[zX1 zB];have hil:i<y.ds.length:=by omega
  have hy:=zM zK y.ds i hil;have c2:=cS (y.ds.getD i default) (h.db _ (zZ y.ds i hil));have e:=kO zK y.ds i hil;generalize y.ds.getD i default=d at *;generalize y.ds.map zK=xs at *;have hsame:=dD hy;refine zU c2 ?_;refine⟨n-1,zB,i+1,zB,?_⟩;rw[zX1 zB]
  show(⟨_,[_,_,(1011,.arr 17 (xs.set i (zK d)) false)]⟩:St)=_
  rw[hsame];rfl
 by_cases hie:i=pre.length
 ·rw[zX1 zB];subst hie;have hil:pre.length<y.ds.length:=by omega
  have hx:y.ds.getD pre.length default=x:=by rw[hL,zX5,zYs (zX6 _),yAe];rfl
  have hy:=zM zK y.ds pre.length hil;have c2:=zE6 (y.ds.getD pre.length default) (h.db _ (zZ y.ds pre.length hil));rw[hx]at hy c2;have hof:=zBa hL;generalize y.ds.map zK=xs at *;refine NF 1011 rfl ?_;unfold NV at c2;refine zU c2 ?_;refine⟨n-1,zB,pre.length+1,zB,?_⟩;rw[zX0 zB]
  show(⟨_,[_,_,(1011,qU _ _ (.arr 17 (xs.set pre.length (NV x)) ⟨false,true⟩)),_]⟩:St)=_
  rw[hof,hfr _ _ rfl];rfl
 rw[zX0 zB];by_cases hil:i<y.ds.length
 ·have hy:=zC9 hL zB hil;have c2:=cS (y.ds.getD i default) (h.db _ (zZ y.ds i hil));have hsame:=dD hy;generalize y.ds.getD i default=d at *;generalize kR pre x post=cs at *;refine zU c2 ?_;refine⟨n-1,zB,i+1,zB,?_⟩;rw[zX0 zB]
  show(⟨_,[_,_,(1011,qU _ _ (.arr 17 (cs.set i (zK d)) ⟨false,true⟩)),_]⟩:St)=_
  rw[hsame,hfr _ _ rfl];rfl
 have hie2:i=y.ds.length:=by omega
 subst hie2;generalize kR pre x post=cs at *;refine zU k2 ?_;rw[hl2];refine vA (λn st=>∃i,n+i=y.sg.length/\st=(⟨[(34,iA i),(1,.ptr 1 0 0),(2,.ptr 2 0 0),(33,iA y.sg.length)],[(1,.box [zD wH y.c.js,zD vC y.c.ags,iA y.c.per,iA y.c.cap,iA y.c.hold,iA y.c.lock,bA y.rf,iA y.now,.ref 1011 0 y.ds.length,.ref 1012 0 y.sg.length,zD wT y.sv,zD iA y.st,zD vM y.vw]),(2,.box [.s (.slice none 0 0),.s (.slice none 0 0),iA 0,iA 0,iA 0,iA 0,bA false,iA 0,.s (.slice none 0 0),.s (.slice none 0 0),.s (.slice none 0 0),.s (.slice none 0 0),.s (.slice none 0 0)]),(1011,.arr 17 cs ⟨false,true⟩),(1005,.arr 1 (x.dr.map kH) false),(1012,.arr 5 (y.sg.map wV) false)]⟩:St)) y.sg.length [1,2,1011,1005,1012] [34,1,2,33] rfl ⟨0,zB,?_⟩ ?_
 ·show(⟨_,[_,_,(1011,qU _ _ (.arr 17 cs ⟨false,true⟩)),_,_]⟩:St)=_
  rw[hfr _ _ rfl];rfl
 rintro n st ⟨i,hi2,rfl⟩;by_cases hil:i<y.sg.length
 ·have hy:=zM wV y.sg i hil;have hgb:=h.gb _ (zZ y.sg i hil);have c2:=zBo (y.sg.getD i default) zB zB;have hsame:=dD hy;generalize y.sg.getD i default=d at *;generalize y.sg.map wV=xs at *;refine zU c2 ?_;refine⟨n-1,zB,i+1,zB,?_⟩
  show(⟨_,[_,_,(1011,qU _ _ (.arr 17 cs ⟨false,true⟩)),_,(1012,.arr 5 (xs.set i (wV d)) false)]⟩:St)=_
  rw[hsame,hfr _ _ rfl];rfl
 have hie3:i=y.sg.length:=by omega
 subst hie3;refine zU k3 ?_;rw[hl3];refine vA (λn st=>∃i,n+i=y.sv.length/\st=(⟨[(55,iA i),(1,.ptr 1 0 0),(2,.ptr 2 0 0),(54,iA y.sv.length)],[(1,.box [zD wH y.c.js,zD vC y.c.ags,iA y.c.per,iA y.c.cap,iA y.c.hold,iA y.c.lock,bA y.rf,iA y.now,.ref 1011 0 y.ds.length,.ref 1012 0 y.sg.length,.ref 1013 0 y.sv.length,zD iA y.st,zD vM y.vw]),(2,.box [.s (.slice none 0 0),.s (.slice none 0 0),iA 0,iA 0,iA 0,iA 0,bA false,iA 0,.s (.slice none 0 0),.s (.slice none 0 0),.s (.slice none 0 0),.s (.slice none 0 0),.s (.slice none 0 0)]),(1011,.arr 17 cs ⟨false,true⟩),(1005,.arr 1 (x.dr.map kH) false),(1012,.arr 5 (y.sg.map wV) false),(1013,.arr 3 (y.sv.map wT) false)]⟩:St)) y.sv.length [1,2,1011,1005,1012,1013] [55,1,2,54] rfl ⟨0,zB,?_⟩ ?_
 ·show(⟨_,[_,_,(1011,qU _ _ (.arr 17 cs ⟨false,true⟩)),_,_,_]⟩:St)=_
  rw[hfr _ _ rfl];rfl
 rintro n st ⟨i,hi3,rfl⟩;by_cases hil:i<y.sv.length
 ·have hy:=zM wT y.sv i hil;have hsb:=h.sb _ (zZ y.sv i hil);have c2:=VI (y.sv.getD i default) ⟨zB⟩;have hsame:=dD hy;generalize y.sv.getD i default=d at *;generalize y.sv.map wT=xs at *;refine zU c2 ?_;refine⟨n-1,zB,i+1,zB,?_⟩
  show(⟨_,[_,_,(1011,qU _ _ (.arr 17 cs ⟨false,true⟩)),_,_,(1013,.arr 3 (xs.set i (wT d)) false)]⟩:St)=_
  rw[hsame,hfr _ _ rfl];rfl
 have hie4:i=y.sv.length:=by omega
 subst hie4;refine yQ (wZ k4 k5) ?_;refine zI [1011,1005] rfl rfl ?_ ?_
 ·show AV.agg [zD wH y.c.js,zD vC y.c.ags,iA y.c.per,iA y.c.cap,iA y.c.hold,iA y.c.lock,bA y.rf,iA y.now,.ref 1011 0 y.ds.length,.sl false (List.take y.sg.length (y.sg.map wV)),.sl false (List.take y.sv.length (y.sv.map wT)),.sl false (List.take (y.st.map iA).length (y.st.map iA)),zD vM y.vw]=_
  rw[zYb (zZ1 hl2),zYb (zZ1 hl3),zX7];rfl
 ·show [(1011,qU _ _ (.arr 17 cs ⟨false,true⟩)),(1005,_)]=_
  rw[hfr _ _ rfl];rfl
theorem zE9 {h:yJ} {pre post:List xQ} {x:xQ} {b fl:Bool} (h1:h 1011=some (.arr 17 (kR pre x post) ⟨b,true⟩)) (h2:h 1005=some (.arr 1 (x.dr.map kH) ⟨fl,false⟩)):
  wN [] h (.ref 1011 0 (kR pre x post).length)=zD zK (pre++x::post):=by
 have e:wF [] h (kR pre x post)=(pre++x::post).map zK:=by
  unfold kR;rw[TG,QM,wF,QM,zYc,zZl]
  congr 1
  congr 1
  have e2:vQ [] h (.ref 1005 0 (x.dr.map kH).length)=zD kH x.dr:=by
   simp only[vQ,h2]
   show AV.sl false (((x.dr.map kH).drop 0).take (x.dr.map kH).length)=_
   rw[zY2,zX7];rfl
  show AV.agg [_,_,_,_,_,_,_,_,_,_,_,_,_,_,_,vQ [] h (.ref 1005 0 (x.dr.map kH).length),_]=_
  rw[e2];rfl
 have hl2:(kR pre x post).length=((pre++x::post).map zK).length:=by rw[QN];simp;omega
 rw[hl2];simp only[wN,h1]
 show(bif wE (wF [] h (kR pre x post))then AV.sl false (((wF [] h (kR pre x post)).drop 0).take _)else .bot)=_
 rw[e,UQ,zY2,zX7];rfl
theorem zFa (y:Cy) (h:GO y) (a:Int) (d:List Int) (hd:BY d) (hd9:d.length<=1000000):∃y':Cy,GO y'/\y'.c=y.c/\(y'.now=y.now/\y'.sg=y.sg)/\zN 55 [uF y,iA a,zD yA d] [] (uF y') []:=by
 have hb:=h.b;have hrf:=h.rf;have hdl:=zA zK y.ds;have hdm:=zA yA d;have eC:uF y= .agg [zD wH y.c.js,zD vC y.c.ags,iA y.c.per,iA y.c.cap,iA y.c.hold,iA y.c.lock,bA false,iA y.now,zD zK y.ds,zD wV y.sg,zD wT y.sv,zD iA y.st,zD vM y.vw]:=by rw[<-hrf];rfl
 by_cases ha:0<=a/\a<(y.ds.length:Int)
 case neg=>
  refine⟨y,h,rfl,⟨rfl,rfl⟩,?_⟩;have k1:=aW y hb;rw[eC]at k1⊢;by_cases h0:a<0
  ·(refine eM call55 λF hF=>?_)
   refine zU k1 ?_;exact zJ
  ·(refine eM call55 λF hF=>?_)
   refine zU k1 ?_;exact zJ
 obtain⟨a0,a1⟩:=ha;by_cases h8:d.length=8
 case neg=>
  refine⟨y,h,rfl,⟨rfl,rfl⟩,?_⟩;have k1:=aW y hb;rw[eC]at k1⊢;refine eM call55 λF hF=>?_
  refine zU k1 ?_;exact zJ
 have hyd:=yM zK y.ds a a0 a1;have hI:=h.di _ (zZ y.ds a.toNat zB);have hdn:=hI.dn;by_cases hr:(y.ds.getD a.toNat default).dr.length<8
 case neg=>
  refine⟨y,h,rfl,⟨rfl,rfl⟩,?_⟩;have k1:=QZ y hb;unfold zGa zGb aR at k1;rw[eC,hrf]at k1;rw[eC];generalize y.ds.getD a.toNat default=x at *;have hxl:=zA kH x.dr;unfold zK wI at hyd;refine eM call55 λF hF=>?_
  (have zc1:=k1;(repeat' (first|refine qB ?_|refine xO (λhc=>?_) (λhc=>?_)|refine wB (λhc=>?_)|(refine zE ?_;first|(refine zA1 ?_;refine xI (gQ rfl rfl hyd) rfl ?_))|fail))<;>clear zc1)
  refine zI [] rfl rfl ?_ rfl
  show AV.agg [zD wH y.c.js,zD vC y.c.ags,iA y.c.per,iA y.c.cap,iA y.c.hold,iA y.c.lock,bA false,iA y.now,.sl false (List.take (y.ds.map zK).length (y.ds.map zK)),.sl false (List.take (y.sg.map wV).length (y.sg.map wV)),.sl false (List.take (y.sv.map wT).length (y.sv.map wT)),.sl false (List.take (y.st.map iA).length (y.st.map iA)),zD vM y.vw]=_
  rw[zX7,zX7,zX7,zX7];rfl
 obtain⟨n,hn⟩:∃n:Nat,a=(n:Int):=⟨a.toNat,zB⟩;subst hn;have hnl:n<y.ds.length:=by omega
 rw[zZh]at hI hr hdn
 have hL:y.ds=y.ds.take n++y.ds.getD n default::y.ds.drop (n+1):=by
  rw[zX5,zYi hnl]
  show _=_++y.ds[n]::_
  rw[<-yAu hnl,yA9]
 have hpn:(y.ds.take n).length=n:=by rw[zYo];omega
 have k1:=zE8 y hb (y.ds.take n) (y.ds.getD n default) (y.ds.drop (n+1)) hL;have k2:=vB d zB;have hat:=zLi (y.ds.take n) (y.ds.getD n default) (y.ds.drop (n+1));have hcl:=QN (y.ds.take n) (y.ds.getD n default) (y.ds.drop (n+1));rw[hpn]at hat hcl;have hcl2:(kR (y.ds.take n) (y.ds.getD n default) (y.ds.drop (n+1))).length=y.ds.length:=by rw[hcl,zY4];omega
 have hset:∀D:List (List Int),(kR (y.ds.take n) (y.ds.getD n default) (y.ds.drop (n+1))).set n (NV ⟨(y.ds.getD n default).rg,(y.ds.getD n default).rq,D,(y.ds.getD n default).au⟩)=kR (y.ds.take n) ⟨(y.ds.getD n default).rg,(y.ds.getD n default).rq,D,(y.ds.getD n default).au⟩ (y.ds.drop (n+1)):=λD=>by
  unfold kR;rw[yA0 _ _ (by rw[zX2,hpn];exact zX6 _),zX2,hpn,yAe];rfl
 have hds:∀x':xQ,y.ds.take n++x'::y.ds.drop (n+1)=y.ds.set n x':=λx'=>by
  rw[List.set_eq_take_append_cons_drop,zX1 hnl]
 refine⟨⟨y.c,false,y.now,y.ds.set n ⟨(y.ds.getD n default).rg,(y.ds.getD n default).rq,(y.ds.getD n default).dr++[d],(y.ds.getD n default).au⟩,y.sg,y.sv,y.st,y.vw⟩,⟨h.v,rfl,h.n0,by dsimp only;rw[zZm];exact h.dl,λz hz=>?_,λi hi=>?_,λz hz=>?_,h.gl,h.sl,h.tl,h.wl,h.wb,h.j⟩,rfl,⟨rfl,rfl⟩,?_⟩
 ·rcases yA8 hz with hz|rfl
  ·exact h.di z hz
  ·refine⟨hI.b,hI.v,hI.q,hI.lg,hI.a,hI.n,hI.t8,hI.br,hI.bb,hI.bl,hI.au,?_,λx hx=>?_,hI.vh⟩
   ·dsimp only;rw[zX3];simp only[zYd,zZa];omega
   ·rcases zYl.1 hx with hx|hx
    ·exact hI.dr x hx
    ·rw[zYz.1 hx];exact⟨h8,hd⟩
 ·dsimp only at hi⊢;rw[zZm]at hi;rw[gI _ _ _ _ hi];split
  ·rename_i e;rw[<-e];exact h.dg n hnl
  ·exact h.dg i hi
 ·rcases yA8 hz with hz|rfl
  ·exact h.sc z hz
  ·exact h.sc (y.ds.getD n default) (zZ y.ds n hnl)
 ·unfold zQ4 aR at k1;rw[eC,hrf]at k1;rw[eC,<-hds];have hfin:=λH fl h1 h2=>zE9 (h:=H) (pre:=y.ds.take n) (post:=y.ds.drop (n+1)) (x:=⟨(y.ds.getD n default).rg,(y.ds.getD n default).rq,(y.ds.getD n default).dr++[d],(y.ds.getD n default).au⟩) (b:=false) (fl:=fl) h1 h2
  rw[<-hset]at hfin;clear hL hds hset hyd hI hcl;rw[show∀l:List xQ,uF ⟨y.c,false,y.now,l,y.sg,y.sv,y.st,y.vw⟩= .agg [zD wH y.c.js,zD vC y.c.ags,iA y.c.per,iA y.c.cap,iA y.c.hold,iA y.c.lock,bA false,iA y.now,zD zK l,zD wV y.sg,zD wT y.sv,zD iA y.st,zD vM y.vw]from λ_=>rfl];generalize y.ds.getD n default=x at *;generalize kR (y.ds.take n) x (y.ds.drop (n+1))=cs at *;have hxl:=zA kH x.dr;unfold NV wI at hat;refine eM call55 λF hF=>?_
  (have zc1:=k1;have zc2:=k2;(repeat' (first|refine qB ?_|refine xO (λhc=>?_) (λhc=>?_)|refine wB (λhc=>?_)|(refine zE ?_;first|(refine zA1 ?_;refine xI (gQ rfl rfl hat) rfl ?_))|fail))<;>clear zc1 zc2)
  simp only[NV,zYc]at hfin;rw[zZm,hcl2]at hfin;refine zI [] rfl rfl ?_ rfl;refine(zY0 (λw=>AV.agg [zD wH y.c.js,zD vC y.c.ags,iA y.c.per,iA y.c.cap,iA y.c.hold,iA y.c.lock,bA false,iA y.now,WN w,zD wV y.sg,zD wT y.sv,zD iA y.st,zD vM y.vw]) (hfin _ true ?_ ?_)).trans ?_
  ·rfl
  ·rfl
  ·rfl
def inR (b:aE) (k:Int):Bool:=decide (0<=k/\k<(b.ss.length:Int))
def ssF (e:Ev) (s:Ss):Ss:=if e.k=1 then(if s.op=true then s else⟨true,false,[],false⟩)else if e.k=2 then⟨false,false,[],false⟩else XJ s e.y
def XE (b:aE) (e:Ev):aE:=if inR b e.s=true then⟨b.y,b.ss.set e.s.toNat (ssF e (b.ss.getD e.s.toNat default))⟩else b
def sd0:AV:= .agg [.sl false [],.sl false []]
section
variable (b:aE) (h:GT b)
include h
theorem XF:∃N:Nat,b.ss.length=N/\N<=8:=by
 have hw:=h.y.v.ag;have h1:=h.l;have h2:=qS hw b.y.c.ags.length (zX6 _);have h3:=hw.1;exact⟨_,rfl,zB⟩
theorem zW3 (e:Ev) (hk:e.k=1∨e.k=2∨e.k=3) (hb:BY e.y) (hl:e.y.length<=1000000):zN 15 [kG b,vU e] [] (.tup [kG (XE b e),sd0,bA false]) []:=by
 obtain⟨N,hN,hN8⟩:=XF b h;have k1:=XD b h;have hs:=h.s;have hsl:=zA kJ b.ss;obtain⟨y,ss⟩:=b;dsimp only at *;unfold XE inR;dsimp only;unfold kG cN at *;dsimp only at *;by_cases hr:0<=e.s/\e.s<(ss.length:Int)
 ·rw[zX1 (zX8 hr)];obtain⟨r0,r1⟩:=hr;have hy:=yM kJ ss e.s r0 r1;have hI:=hs _ (zZ ss e.s.toNat zB);have hIn:=hI.n;have ko:=zLq (ss.getD e.s.toNat default) zB;have kd:=zLr (ss.getD e.s.toNat default);have kr:=zRc (ss.getD e.s.toNat default) hIn e.y hl;dsimp only;rw[show zD kJ (ss.set e.s.toNat (ssF e (ss.getD e.s.toNat default)))= .sl false ((ss.map kJ).set e.s.toNat (kJ (ssF e (ss.getD e.s.toNat default)))) by unfold zD;rw[zZ9]];unfold ssF;clear hI;obtain⟨ek,es,ea,en,eb⟩:=e;dsimp only at *;generalize ss.getD es.toNat default=s at*
  rcases hk with rfl|rfl|rfl
  ·rw[zX1 rfl];generalize (if s.op=true then s else⟨true,false,[],false⟩:Ss)=s1 at *;unfold vU;refine eM call15 λF hF=>?_
   refine yQ (wZ k1 ko) ?_;refine zI [] rfl rfl ?_ rfl
   show AV.tup [AV.agg [zD wH y.c.js,zD vC y.c.ags,iA y.c.per,iA y.c.cap,iA y.c.hold,iA y.c.lock,bA false,iA y.now,zD zK y.ds,zD wV y.sg,zD wT y.sv,zD iA y.st,zD vM y.vw,.sl false (List.take ss.length ((ss.map kJ).set es.toNat (kJ s1)))],sd0,bA false]=_
   rw[zYb zKu]
  ·rw[zX0 yZ,zX1 rfl];unfold vU;refine eM call15 λF hF=>?_
   refine yQ (wZ k1 kd) ?_;refine zI [] rfl rfl ?_ rfl
   show AV.tup [AV.agg [zD wH y.c.js,zD vC y.c.ags,iA y.c.per,iA y.c.cap,iA y.c.hold,iA y.c.lock,bA false,iA y.now,zD zK y.ds,zD wV y.sg,zD wT y.sv,zD iA y.st,zD vM y.vw,.sl false (List.take ss.length ((ss.map kJ).set es.toNat (kJ ⟨false,false,[],false⟩)))],sd0,bA false]=_
   rw[zYb zKu]
  ·rw[zX0 yZ,zX0 yZ];unfold vU;refine eM call15 λF hF=>?_
   refine yQ (wZ k1 kr) ?_;refine zI [] rfl rfl ?_ rfl
   show AV.tup [AV.agg [zD wH y.c.js,zD vC y.c.ags,iA y.c.per,iA y.c.cap,iA y.c.hold,iA y.c.lock,bA false,iA y.now,zD zK y.ds,zD wV y.sg,zD wT y.sv,zD iA y.st,zD vM y.vw,.sl false (List.take ss.length ((ss.map kJ).set es.toNat (kJ (XJ s eb))))],sd0,bA false]=_
   rw[zYb zKu]
 ·rw[zX0 (by rw[zX9];exact hr)];dsimp only;obtain⟨ek,es,ea,en,eb⟩:=e;dsimp only at*
  rcases hk with rfl|rfl|rfl
  all_goals
   unfold vU;dsimp only;by_cases h0:es<0
   ·(refine eM call15 λF hF=>?_)
    refine zU k1 ?_;refine zI [] rfl rfl ?_ rfl
    show AV.tup [AV.agg [zD wH y.c.js,zD vC y.c.ags,iA y.c.per,iA y.c.cap,iA y.c.hold,iA y.c.lock,bA false,iA y.now,zD zK y.ds,zD wV y.sg,zD wT y.sv,zD iA y.st,zD vM y.vw,.sl false (List.take ss.length (ss.map kJ))],sd0,bA false]=_
    rw[zYb (zZ1 hsl)];rfl
   ·(refine eM call15 λF hF=>?_)
    refine zU k1 ?_;refine zI [] rfl rfl ?_ rfl
    show AV.tup [AV.agg [zD wH y.c.js,zD vC y.c.ags,iA y.c.per,iA y.c.cap,iA y.c.hold,iA y.c.lock,bA false,iA y.now,zD zK y.ds,zD wV y.sg,zD wT y.sv,zD iA y.st,zD vM y.vw,.sl false (List.take ss.length (ss.map kJ))],sd0,bA false]=_
    rw[zYb (zZ1 hsl)];rfl
theorem zW4 (e:Ev) (hk:e.k=4∨e.k=5) (hb:BY e.y) (hl:e.y.length<=1000000):∃y':Cy,GO y'/\y'.c=b.y.c/\(y'.now=b.y.now/\y'.sg=b.y.sg)/\zN 15 [kG b,vU e] [] (.tup [kG ⟨y',b.ss⟩,sd0,bA false]) []:=by
 obtain⟨N,hN,hN8⟩:=XF b h;have k1:=XD b h;have hsl:=zA kJ b.ss;obtain⟨y,ss⟩:=b;have hy:=h.y;dsimp only at *;obtain⟨ek,es,ea,en,eb⟩:=e;dsimp only at*
 rcases hk with rfl|rfl
 ·obtain⟨y',i1,i2,i3,kd⟩:=zFa y hy ea eb hb hl;refine⟨y',i1,i2,i3,?_⟩;have hrf:=hy.rf;have hrf':=i1.rf;have eC:uF y= .agg [zD wH y.c.js,zD vC y.c.ags,iA y.c.per,iA y.c.cap,iA y.c.hold,iA y.c.lock,bA false,iA y.now,zD zK y.ds,zD wV y.sg,zD wT y.sv,zD iA y.st,zD vM y.vw]:=by rw[<-hrf];rfl
  have eC':uF y'= .agg [zD wH y'.c.js,zD vC y'.c.ags,iA y'.c.per,iA y'.c.cap,iA y'.c.hold,iA y'.c.lock,bA false,iA y'.now,zD zK y'.ds,zD wV y'.sg,zD wT y'.sv,zD iA y'.st,zD vM y'.vw]:=by rw[<-hrf'];rfl
  rw[eC,eC']at kd;unfold kG cN at *;dsimp only at *;unfold vU;dsimp only;by_cases h0:es<0
  ·(refine eM call15 λF hF=>?_)
   refine yQ (wZ k1 kd) ?_;refine zI [] rfl rfl ?_ rfl
   show AV.tup [AV.agg [zD wH y'.c.js,zD vC y'.c.ags,iA y'.c.per,iA y'.c.cap,iA y'.c.hold,iA y'.c.lock,bA false,iA y'.now,zD zK y'.ds,zD wV y'.sg,zD wT y'.sv,zD iA y'.st,zD vM y'.vw,.sl false (List.take ss.length (ss.map kJ))],sd0,bA false]=_
   rw[zYb (zZ1 hsl)];rfl
  ·(refine eM call15 λF hF=>?_)
   refine yQ (wZ k1 kd) ?_;refine zI [] rfl rfl ?_ rfl
   show AV.tup [AV.agg [zD wH y'.c.js,zD vC y'.c.ags,iA y'.c.per,iA y'.c.cap,iA y'.c.hold,iA y'.c.lock,bA false,iA y'.now,zD zK y'.ds,zD wV y'.sg,zD wT y'.sv,zD iA y'.st,zD vM y'.vw,.sl false (List.take ss.length (ss.map kJ))],sd0,bA false]=_
   rw[zYb (zZ1 hsl)];rfl
 ·obtain⟨y',i1,i2,i3,kd⟩:=zDa y hy ea en;refine⟨y',i1,i2,i3,?_⟩;have hrf:=hy.rf;have hrf':=i1.rf;have eC:uF y= .agg [zD wH y.c.js,zD vC y.c.ags,iA y.c.per,iA y.c.cap,iA y.c.hold,iA y.c.lock,bA false,iA y.now,zD zK y.ds,zD wV y.sg,zD wT y.sv,zD iA y.st,zD vM y.vw]:=by rw[<-hrf];rfl
  have eC':uF y'= .agg [zD wH y'.c.js,zD vC y'.c.ags,iA y'.c.per,iA y'.c.cap,iA y'.c.hold,iA y'.c.lock,bA false,iA y'.now,zD zK y'.ds,zD wV y'.sg,zD wT y'.sv,zD iA y'.st,zD vM y'.vw]:=by rw[<-hrf'];rfl
  rw[eC,eC']at kd;unfold kG cN at *;dsimp only at *;unfold vU;dsimp only;by_cases h0:es<0
  ·(refine eM call15 λF hF=>?_)
   refine yQ (wZ k1 kd) ?_;refine zI [] rfl rfl ?_ rfl
   show AV.tup [AV.agg [zD wH y'.c.js,zD vC y'.c.ags,iA y'.c.per,iA y'.c.cap,iA y'.c.hold,iA y'.c.lock,bA false,iA y'.now,zD zK y'.ds,zD wV y'.sg,zD wT y'.sv,zD iA y'.st,zD vM y'.vw,.sl false (List.take ss.length (ss.map kJ))],sd0,bA false]=_
   rw[zYb (zZ1 hsl)];rfl
  ·(refine eM call15 λF hF=>?_)
   refine yQ (wZ k1 kd) ?_;refine zI [] rfl rfl ?_ rfl
   show AV.tup [AV.agg [zD wH y'.c.js,zD vC y'.c.ags,iA y'.c.per,iA y'.c.cap,iA y'.c.hold,iA y'.c.lock,bA false,iA y'.now,zD zK y'.ds,zD wV y'.sg,zD wT y'.sv,zD iA y'.st,zD vM y'.vw,.sl false (List.take ss.length (ss.map kJ))],sd0,bA false]=_
   rw[zYb (zZ1 hsl)];rfl
theorem QO (ss:List Ss):eW ss ss.length=ss.map λs=>(dN s).1:=by
 unfold eW;apply zZf;intro j;rw[vO,zX4];by_cases hj:j<ss.length
 ·rw[zX1 hj,zX1 hj,zYi hj];simp only[Option.map_some,zX5,zYi hj,zZ3]
 ·rw[zX0 hj,zYt zB];rfl
theorem zW5 (hn:b.y.now<1000000000) (e:Ev) (hk:e.k=6):∃(y':Cy) (Td:List (List Ms)),MtP b.y y' (kC b.ss) Td/\zN 18 [uF b.y,zD kT (kC b.ss)] [] (.tup [uF y',tdO Td (RN (b.y.now+1) y'.vw)]) (tdH Td)/\zN 15 [kG b,vU e] [] (.tup [kG ⟨y',eW b.ss b.ss.length⟩,GD (Td.map dL) (dL [RN (b.y.now+1) y'.vw]),bA true]) []:=by
 obtain⟨N,hN,hN8⟩:=XF b h;have k1:=XD b h;have hlen:(kC b.ss).length=b.ss.length:=by unfold kC;rw[zX2]
 obtain⟨y',Td,hM,km⟩:=zFl b.y h.y hn (kC b.ss) (by rw[hlen];exact h.l) (λi hi=>by
  unfold kC at hi;obtain⟨s,hs,rfl⟩:=zZj.1 hi
  exact(zFt (h.s s hs)).2)
 have kd:=zFo b h y' Td hM (zQ7 km);refine⟨y',Td,hM,km,?_⟩;have hsl:=zA kJ b.ss;have hsl2:((eW b.ss b.ss.length).map kJ).length=b.ss.length:=by unfold eW;rw[zX2,wL]
 clear km;obtain⟨y,ss⟩:=b;obtain⟨ek,es,ea,en,eb⟩:=e;dsimp only at *;subst hk;unfold GD at *;generalize Td.map dL=S at *;generalize dL [RN (y.now+1) y'.vw]=fb at *;unfold kG cN at *;dsimp only at *;rw[show zD kJ (eW ss ss.length)= .sl false ((eW ss ss.length).map kJ)from rfl];generalize (eW ss ss.length).map kJ=X at *;unfold vU;dsimp only;by_cases h0:es<0
 ·(refine eM call15 λF hF=>?_)
  refine yQ (wZ k1 kd) ?_;refine zI [] rfl rfl ?_ rfl
  show AV.tup [AV.agg [zD wH y'.c.js,zD vC y'.c.ags,iA y'.c.per,iA y'.c.cap,iA y'.c.hold,iA y'.c.lock,bA false,iA y'.now,zD zK y'.ds,zD wV y'.sg,zD wT y'.sv,zD iA y'.st,zD vM y'.vw,.sl false (List.take ss.length X)],AV.agg [zD (zD yA) S,zD yA fb],bA true]=_
  rw[zYb (zZ1 hsl2)]
 ·(refine eM call15 λF hF=>?_)
  refine yQ (wZ k1 kd) ?_;refine zI [] rfl rfl ?_ rfl
  show AV.tup [AV.agg [zD wH y'.c.js,zD vC y'.c.ags,iA y'.c.per,iA y'.c.cap,iA y'.c.hold,iA y'.c.lock,bA false,iA y'.now,zD zK y'.ds,zD wV y'.sg,zD wT y'.sv,zD iA y'.st,zD vM y'.vw,.sl false (List.take ss.length X)],AV.agg [zD (zD yA) S,zD yA fb],bA true]=_
  rw[zYb (zZ1 hsl2)]
end
section
structure DoR where
 b:aE
 S:List (List Int)
 f:List Int
 fl:Bool
structure zQ5 (b:aE) (e:Ev) (r:DoR):Prop where
 i:GT r.b
 c:r.b.y.c=b.y.c
 n:b.y.now<=r.b.y.now/\r.b.y.now<=b.y.now+1
 s:e.k=1∨e.k=2∨e.k=3->r=⟨XE b e,[],[],false⟩
 t:r.fl=true->r.S.length=b.ss.length
 f6:r.fl=true->e.k=6
 g:r.fl=false->r.b.y.sg=b.y.sg
 t6:e.k=6->∃(y':Cy) (Td:List (List Ms)),MtP b.y y' (kC b.ss) Td/\r=⟨⟨y',eW b.ss b.ss.length⟩,Td.map dL,dL [RN (b.y.now+1) y'.vw],true⟩/\zN 18 [uF b.y,zD kT (kC b.ss)] [] (.tup [uF y',tdO Td (RN (b.y.now+1) y'.vw)]) (tdH Td)
 k:zN 15 [kG b,vU e] [] (.tup [kG r.b,GD r.S r.f,bA r.fl]) []
theorem zUy {e:Ev} (he:BY e.y) {s:Ss} (h:SsI s):SsI (ssF e s):=by
 unfold ssF;split
 ·split
  ·exact h
  ·exact⟨kD,zYe _⟩
 ·split
  ·exact⟨kD,zYe _⟩
  ·exact zRd h he
theorem zP3 {b:aE} (h:GT b) {e:Ev} (he:BY e.y):GT (XE b e):=by
 unfold XE;split
 ·refine⟨h.y,by dsimp only;rw[zZm];exact h.l,λs hs=>?_⟩;rename_i hr;unfold inR at hr;rw[zX9]at hr
  rcases yA8 hs with hs|rfl
  ·exact h.s s hs
  ·exact zUy he (h.s _ (zZ b.ss _ zB))
 ·exact h
theorem zUz (b:aE) (h:GT b) (hn:b.y.now<1000000000) (e:Ev) (he:cB e):∃r,zQ5 b e r:=by
 have hk:=he.k;have hyn:=he.n;have hcs:(e.k=1∨e.k=2∨e.k=3)∨(e.k=4∨e.k=5)∨e.k=6:=by omega
 rcases hcs with hk|hk|hk
 ·have k:=zW3 b h e hk he.y zB
  have e1:(XE b e).y=b.y:=by unfold XE;split<;>rfl
  exact⟨⟨XE b e,[],[],false⟩,zP3 h he.y,by dsimp only;rw[e1],by dsimp only;rw[e1];omega,λ_=>rfl,λh=>(by cases h),λh=>(by cases h),λ_=>by dsimp only;rw[e1],λh=>zB,k⟩
 ·obtain⟨y',i1,i2,i3,k⟩:=zW4 b h e hk he.y zB;exact⟨⟨⟨y',b.ss⟩,[],[],false⟩,⟨i1,by dsimp only;rw[i2];exact h.l,h.s⟩,i2,by have:=i3.1;dsimp only;omega,λh=>zB,λh=>(by cases h),λh=>(by cases h),λ_=>i3.2,λh=>zB,k⟩
 ·obtain⟨y',Td,hM,km,k⟩:=zW5 b h hn e hk;have hll:(kC b.ss).length=b.ss.length:=by unfold kC;rw[zX2]
  refine⟨⟨⟨y',eW b.ss b.ss.length⟩,Td.map dL,dL [RN (b.y.now+1) y'.vw],true⟩,⟨hM.i,?_,λs hs=>?_⟩,hM.c,by have:=hM.n;dsimp only;omega,λh=>zB,λ_=>by dsimp only;rw[zX2,hM.l,hll],λ_=>hk,λh=>(by cases h),λ_=>⟨y',Td,hM,rfl,km⟩,k⟩
  ·dsimp only;rw[hM.c,QO b h,zX2];exact h.l
  ·dsimp only at hs;rw[QO b h]at hs;obtain⟨s0,hs0,rfl⟩:=zZj.1 hs;exact(zFt (h.s s0 hs0)).1
open Classical in
noncomputable def dM (b:aE) (e:Ev):DoR:=if h:∃r,zQ5 b e r then h.choose else⟨b,[],[],false⟩
theorem jH {b:aE} (h:GT b) (hn:b.y.now<1000000000) {e:Ev} (he:cB e):zQ5 b e (dM b e):=by
 have hx:=zUz b h hn e he;unfold dM;rw[yDu hx];exact hx.choose_spec
noncomputable def uI:aE->List Ev->aE
 |b,[]=>b
 |b,e::l=>uI (dM b e).b l
noncomputable def ZR:aE->List Ev->List (List (List Int)×List Int)
 |_,[]=>[]
 |b,e::l=>(if(dM b e).fl=true then [((dM b e).S,(dM b e).f)]else [])++ZR (dM b e).b l
theorem dV (b:aE) (l m:List Ev):uI b (l++m)=uI (uI b l) m:=by
 induction l generalizing b with
 |nil=>rfl
 |cons e l ih=>exact ih _
theorem VB (b:aE) (l m:List Ev):ZR b (l++m)=ZR b l++ZR (uI b l) m:=by
 induction l generalizing b with
 |nil=>rfl
 |cons e l ih=>
  show _++ZR _ (l++m)=_
  rw[ih,<-zYv];rfl
theorem TU:∀(l:List Ev) {b:aE},GT b->(∀e∈l,cB e)->b.y.now+(l.length:Int)<1000000000->GT (uI b l)/\(uI b l).y.c=b.y.c/\b.y.now<=(uI b l).y.now/\(uI b l).y.now<=b.y.now+(l.length:Int)/\(ZR b l).length<=l.length
 | [],b,h,_,_=>⟨h,rfl,zZ8 _,by simp[uI],zX6 _⟩
 | e::l,b,h,he,hn=>by
  rw[zYd]at hn;have k:=jH h zB (he e zS);have kn:=k.n;obtain⟨i1,i2,i3,i4,i5⟩:=TU l k.i (λx hx=>he x ST) zB;refine⟨i1,i2.trans k.c,?_,?_,?_⟩
  ·show b.y.now<=(uI (dM b e).b l).y.now
   omega
  ·show(uI (dM b e).b l).y.now<=_
   rw[zYd];omega
  ·show((if(dM b e).fl=true then [((dM b e).S,(dM b e).f)]else [])++ZR (dM b e).b l).length<=_
   rw[zX3,zYd];split
   ·simp only[zYd,zZa];omega
   ·simp only[zZa];omega
def sdP (p:List (List Int)×List Int):AV:=GD p.1 p.2
theorem zBb (c:Cf) (hc:GY c) (l:List Ev) (hl:l.length<=1000000) (he:∀e∈l,cB e):zN 24 [wP c,zD vU l] [] (zD sdP (ZR (wS c) (l.take 400))) []:=by
 have k1:=RK c hc;have hb:=VA c hc;have hll:=zA vU l;have h0:(wS c).y.now=0:=rfl;have ht4:(l.take 400).length<=400:=by rw[zYo];omega
 have hm4:∀e∈l.take 400,cB e:=λe h=>he e (zZv h)
 unfold kG cN at k1;refine eM call24 λF hF=>?_
 refine zU k1 ?_
 have tk4:l.take (min ((l.map vU).length:Int) 400).toNat=l.take 400:=by
  rw[zX2];by_cases h:l.length<=400
  ·rw[zYb zB,zYb zB]
  ·congr 1
   omega
 rw[tk4];have hl4:=zA vU (l.take 400);generalize l.take 400=l4 at *;refine xC 6 1001 2 rfl rfl rfl ?_;refine zY (l4) [5,1001] [] [5,18,19] [6,20,5,18,19] rfl (λi pre T U=>⟨(6,.ref 1001 0 ((ZR (wS c) pre).map sdP).length)::(20,iA i)::T,(5,.box [zD wH (uI (wS c) pre).y.c.js,zD vC (uI (wS c) pre).y.c.ags,iA (uI (wS c) pre).y.c.per,iA (uI (wS c) pre).y.c.cap,iA (uI (wS c) pre).y.c.hold,iA (uI (wS c) pre).y.c.lock,bA false,iA (uI (wS c) pre).y.now,zD zK (uI (wS c) pre).y.ds,zD wV (uI (wS c) pre).y.sg,zD wT (uI (wS c) pre).y.sv,zD iA (uI (wS c) pre).y.st,zD vM (uI (wS c) pre).y.vw,zD kJ (uI (wS c) pre).ss])::(1001,.arr 2 ((ZR (wS c) pre).map sdP) true)::U⟩) ?_;(conv=>whnf);refine⟨by rfl,?_,?_⟩
 ·intro i pre x post hx hi;have hy:=yI vU hx hi;have hlt:=yB hx hi;have hpm:∀e∈pre,cB e:=λe h=>hm4 e zCu
  have hpl:pre.length<=l4.length:=by rw[hx];simp
  have hxe:=hm4 x OX;obtain⟨p1,p2,p3,p4,p5⟩:=TU pre hb hpm LU;have D:=jH p1 zB hxe;have kd:=D.k;have e1:uI (wS c) (pre++[x])=(dM (uI (wS c) pre) x).b:=dV _ _ _
  have e2:ZR (wS c) (pre++[x])=ZR (wS c) pre++(if(dM (uI (wS c) pre) x).fl=true then [((dM (uI (wS c) pre) x).S,(dM (uI (wS c) pre) x).f)]else []):=by
   rw[VB]
   congr 1
   show _++[]=_
   rw[zY5]
  rw[e1,e2,zYc];have hsm:=zA sdP (ZR (wS c) pre);clear D e1 e2 hx hpm;generalize (ZR (wS c) pre).map sdP=X at *;unfold kG cN vU GD at kd;unfold vU at hy;generalize dM (uI (wS c) pre) x=r at *;generalize uI (wS c) pre=b0 at *;obtain⟨rb,S,f,fl⟩:=r;dsimp only at *;cases fl
  ·rw[zX0 zYk,yAl,zY5];refine zU kd ?_;rfl
  ·rw[zX1 rfl,show [(S,f)].map sdP=[.agg [zD (zD yA) S,zD yA f]]from rfl];refine zU kd ?_;rfl
 ·(refine WW ?_)
  exact zI [] rfl rfl (zY0 (AV.sl false) zX7) rfl
end
theorem zLj (l:List (List (List Int)×List Int)) (hl:l.length<=1000000) (hS:∀p∈l,p.1.length<=1000):zN 23 [zD sdP l,zD sdP l] [] (bA true) []:=by
 have hll:=zA sdP l;refine eM call23 λF hF=>?_
 refine WW ?_;refine zY (l) [] [] [1,15,16] [17,1,15,16] rfl (λi pre T U=>⟨(17,iA i)::T,U⟩) ?_;(conv=>whnf);refine⟨by rfl,?_,?_⟩
 ·intro i pre x post hx hi;have hy:=yI sdP hx hi;have hlt:=yB hx hi;have h1:=hS x (xX hx);obtain⟨S,f⟩:=x;dsimp only at h1;have hSl:=zA (zD yA) S;unfold sdP GD at hy;dsimp only at hy;clear hx;have he:=xL f
  (repeat' (first|refine qB ?_|refine xO (λhc=>?_) (λhc=>?_)|refine wB (λhc=>?_)|(refine zE ?_;first|refine SM ?_)|fail))
  refine zP (S.length) [7] [7] [1,7,15,16,17,43,44] [45,1,7,15,16,17,43,44] rfl (λi T U=>⟨(45,iA i)::T,U⟩) ?_;(conv=>whnf);refine⟨by rfl,?_,?_⟩
  ·intro j hj;have hyS:=zM (zD yA) S j hj;have he2:=xL (S.getD j default);generalize S.getD j default=s at *;unfold zD at hyS
   (repeat' (first|refine qB ?_|refine xO (λhc=>?_) (λhc=>?_)|refine wB (λhc=>?_)|(refine zE ?_;first|refine SM ?_)|fail))
   rfl
  ·(repeat' (first|refine qB ?_|refine xO (λhc=>?_) (λhc=>?_)|refine wB (λhc=>?_)|(refine zE ?_;first|refine SM ?_)|fail))
   rfl
 ·(refine WW ?_)
  exact zJ
def XG (k:Int):Ev:=⟨k,0,0,0,[]⟩
theorem TW {k:Int} (h:1<=k/\k<=6):cB (XG k):=⟨h,by dsimp only[XG];omega,by dsimp only[XG];omega,by dsimp only[XG];omega,kD,zYe _⟩
theorem MS (c:Cf) (h:GY c):∃(S:List (List Int)) (f q1 q2:List Int),ZR (wS c) [XG 1,XG 6]=[(S,f)]/\0<S.length/\(S.length:Int)=qX c.ags c.ags.length/\S.getD 0 []=90::165::1::17::q1/\7<=q1.length/\f=90::165::1::21::q2/\7<=q2.length:=by
 have hb:=VA c h;have hw:=h.ag;have hsb:=qS hw c.ags.length (zX6 _);have hca:=h.a;have hnl:(wS c).ss.length=(qX c.ags c.ags.length).toNat:=by unfold wS;exact zZd
 have d1:=jH hb (by show(0:Int)<_;omega) (TW (k:=1) zB);have e1:=d1.s (.inl rfl)
 have hin:inR (wS c) (XG 1).s=true:=by
  unfold inR;rw[zX9];dsimp only[XG];omega
 have e2:XE (wS c) (XG 1)=⟨(wS c).y,(wS c).ss.set 0 ⟨true,false,[],false⟩⟩:=by
  unfold XE;rw[zX1 hin]
  have:(wS c).ss.getD 0 default=⟨false,false,[],false⟩:=by
   unfold wS;dsimp only;rw[zX5,zZs,zX1 zB];rfl
  show(⟨_,(wS c).ss.set 0 (ssF (XG 1) ((wS c).ss.getD 0 default))⟩:aE)=_
  rw[this];rfl
 have i1:=d1.i;rw[e1]at i1;dsimp only at i1;have hn1:(XE (wS c) (XG 1)).y.now=0:=by rw[e2];rfl
 have d2:=jH i1 (by rw[hn1];omega) (TW (k:=6) zB);obtain⟨y',Td,hM,e3,_⟩:=d2.t6 rfl
 have er:ZR (wS c) [XG 1,XG 6]=[(Td.map dL,dL [RN ((XE (wS c) (XG 1)).y.now+1) y'.vw])]:=by
  unfold ZR;rw[e1];dsimp only;rw[zX0 zYk,yAq];unfold ZR;rw[e3];dsimp only;rw[zX1 rfl];rfl
 have hll:(kC (XE (wS c) (XG 1)).ss).length=(wS c).ss.length:=by unfold kC;rw[zX2,e2,zZm]
 have hTl:=hM.l
 have hi0:(kC (XE (wS c) (XG 1)).ss).getD 0 default=⟨true,[]⟩:=by
  unfold kC;rw[e2,zX5,zX4,zZo zB];rfl
 obtain⟨l1,l2,d,t1,t2,t3⟩:=hM.on 0 zB (by rw[hi0]);rw[hi0]at t2;have t2':l1=[]:=zY1 t2;subst t2';rw[yAq]at t1;have b1:=(GQ _ t3).1.2 (by simp[UW,stM]);have b2:=(GQ _ hM.f).1.2 (by simp[RN]);obtain⟨q1,b1,b3⟩:=b1;obtain⟨q2,b2,b4⟩:=b2;refine⟨_,_,q1++dL l2,q2++[],er,by rw[zX2];omega,by rw[zX2,hTl,hll,hnl];omega,?_,by rw[zX3];omega,?_,by rw[zX3];omega⟩
 ·rw[zX5,zX4];rw[zX5]at t1
  cases hg:Td[0]? with
  |none=>
   rw[hg]at t1;cases t1
  |some x=>
   rw[hg]at t1;have t1:x=_:=t1
   show dL x=_
   rw[t1]
   show GC _++dL l2=_
   rw[b1];rfl
 ·show GC _++[]=_
  rw[b2];rfl
theorem UR:zN 10 [] [] (bA true) []:=by
 have kn:=OF [] zS;have kc:=cQ BD 63;have hv:=MV BD 63 zB
 have k:=zBb (XU BD 63) hv [XG 1,XG 6] zS (λe he=>by
  simp only[zZi,yBn,yCy]at he
  rcases he with rfl|rfl
  ·exact TW zB
  ·exact TW zB)
 obtain⟨S,f,q1,q2,h1,h2,h3,h4,h5,h6,h7⟩:=MS (XU BD 63) hv;rw[show([XG 1,XG 6]:List Ev).take 400=[XG 1,XG 6]from rfl,h1]at k;rw[show qX (XU BD 63).ags (XU BD 63).ags.length=1 by rfl]at h3;generalize XU BD 63=c at *;generalize cfD BD 63=e0 at*
 obtain⟨s0,S,rfl⟩:∃s0 S',S=s0::S':=by
  cases S with
  |nil=>cases h2
  |cons s S=>exact⟨s,S,rfl⟩
 have h4:s0=_:=h4;subst h4;subst h6;unfold wP at *;have hq1:=zA yA q1;have hq2:=zA yA q2;rw[show zD sdP [(((90::165::1::17::q1):List Int)::S,(90::165::1::21::q2:List Int))]= .sl false [.agg [.sl false (.sl false (yA 90::yA 165::yA 1::yA 17::q1.map yA)::S.map (zD yA)),.sl false (yA 90::yA 165::yA 1::yA 21::q2.map yA)]]from rfl]at k;have hSl:=zA (zD yA) S;generalize S.map (zD yA)=Sm at *;generalize q1.map yA=Q1 at *;generalize q2.map yA=Q2 at *;rw[zYd]at h2 h3;have hz0:Sm.length=0:=by omega
 have hz1:(AV.sl false (yA 90::yA 165::yA 1::yA 17::Q1)::Sm).length=1:=by rw[zYd,hz0]
 have hz2:(yA 90::yA 165::yA 1::yA 17::Q1).length=q1.length+4:=by simp only[zYd];omega
 have hz3:(yA 90::yA 165::yA 1::yA 21::Q2).length=q2.length+4:=by simp only[zYd];omega
 refine eM call10 λF hF=>?_
 (have zc1:=kn;have zc2:=kc;have zc3:=k;(repeat' (first|refine aL ?_|refine xO (λhc=>?_) (λhc=>?_)|refine wB (λhc=>?_)|(refine zE ?_;first|(refine yS ?_;refine UI 6 rfl rfl rfl ?_;refine UI 7 rfl rfl rfl ?_;refine qR tok rfl rfl ?_))|refine SB ?_|fail))<;>clear zc1 zc2 zc3)
 exact zJ
theorem zLk {b:aE} (h:GT b) (s a1 b1 a2 b2:Int) (x y:List Int):XE (XE b ⟨3,s,a1,b1,x⟩) ⟨3,s,a2,b2,y⟩=XE b ⟨3,s,a2,b2,x++y⟩:=by
 by_cases hr:inR b s=true
 ·have hr2:inR ⟨b.y,b.ss.set s.toNat (ssF ⟨3,s,a1,b1,x⟩ (b.ss.getD s.toNat default))⟩ s=true:=by
   unfold inR at hr⊢;rw[zZm];exact hr
  unfold inR at hr;rw[zX9]at hr;have hl:s.toNat<b.ss.length:=by omega
  have e1:XE b ⟨3,s,a1,b1,x⟩=⟨b.y,b.ss.set s.toNat (ssF ⟨3,s,a1,b1,x⟩ (b.ss.getD s.toNat default))⟩:=by
   unfold XE;rw[zX1 (by unfold inR;rw[zX9];exact hr)]
  rw[e1];unfold XE;rw[zX1 hr2,zX1 (by unfold inR;rw[zX9];exact hr)];dsimp only;rw[yB1,gI _ _ _ _ hl,zX1 rfl]
  congr 2
  show XJ (XJ _ x) y=XJ _ (x++y)
  exact zL0 (h.s _ (zZ b.ss _ hl)).n x y
 ·unfold XE;rw[zX0 hr,zX0 hr];rw[zX0 hr]
theorem rn3 {b:aE} (h:GT b) (hn:b.y.now<1000000000) {e:Ev} (he:cB e) (hk:e.k=3) (l:List Ev):uI b (e::l)=uI (XE b e) l/\ZR b (e::l)=ZR (XE b e) l:=by
 have k:=(jH h hn he).s (.inr (.inr hk));constructor
 ·show uI (dM b e).b l=_
  rw[k]
 ·show(if(dM b e).fl=true then _ else [])++ZR (dM b e).b l=_
  rw[k];rfl
theorem zQ6 {b:aE} (h:GT b) (hn:b.y.now<1000000000) {s a2 b2:Int} {x y:List Int} (h1:cB ⟨3,s,0,0,x⟩) (h2:cB ⟨3,s,a2,b2,y⟩) (h3:cB ⟨3,s,a2,b2,x++y⟩) (l:List Ev):
  uI b (⟨3,s,0,0,x⟩::⟨3,s,a2,b2,y⟩::l)=uI b (⟨3,s,a2,b2,x++y⟩::l)/\ZR b (⟨3,s,0,0,x⟩::⟨3,s,a2,b2,y⟩::l)=ZR b (⟨3,s,a2,b2,x++y⟩::l):=by
 obtain⟨p1,p2⟩:=rn3 h hn h1 rfl (⟨3,s,a2,b2,y⟩::l)
 have hn1:(XE b ⟨3,s,0,0,x⟩).y=b.y:=by unfold XE;split<;>rfl
 obtain⟨q1,q2⟩:=rn3 (zP3 h h1.y) (by rw[hn1];exact hn) h2 rfl l;obtain⟨r1,r2⟩:=rn3 h hn h3 rfl l;rw[zLk h]at q1 q2;exact⟨p1.trans (q1.trans r1.symm),p2.trans (q2.trans r2.symm)⟩
theorem zP4:∀(l:List Ev) {b:aE},GT b->(∀e∈l,cB e)->b.y.now+(l.length:Int)<1000000000->∀p∈ZR b l,p.1.length<=1000
 | [],_,_,_,_,p,hp=>by cases hp
 | e::l,b,h,he,hn,p,hp=>by
  rw[zYd]at hn;have k:=jH h zB (he e zS);have kn:=k.n;obtain⟨N,hN,hN8⟩:=XF b h
  rcases zYl.1 (show p∈(if(dM b e).fl=true then [((dM b e).S,(dM b e).f)]else [])++ZR (dM b e).b l from hp)with hp|hp
  ·split at hp
   ·rename_i hf;rw[zYz.1 hp];have:=k.t hf;dsimp only;omega
   ·cases hp
  ·exact zP4 l k.i (λx hx=>he x ST) zB p hp
structure PcR (c:Cf) (pre:List Ev) (x:Ev) (m:List Ev) (r:List Int):Prop where
 pm:∀e∈m,cB e
 pr:BY r
 pl:r.length<=x.y.length
 pb:uI (wS c) (m++[⟨x.k,x.s,x.a,x.b,r⟩])=uI (wS c) (pre++[x])
 ps:ZR (wS c) (m++[⟨x.k,x.s,x.a,x.b,r⟩])=ZR (wS c) (pre++[x])
theorem PcR.init {c:Cf} {pre m:List Ev} {x:Ev} (he:cB x) (hm:∀e∈m,cB e) (hb:uI (wS c) m=uI (wS c) pre) (hs:ZR (wS c) m=ZR (wS c) pre):PcR c pre x m x.y:=
 ⟨hm,he.y,zX6 _,by rw[dV,dV,hb],by rw[VB,VB,hb,hs]⟩
theorem PcR.cut {c:Cf} (hc:GY c) {pre m:List Ev} {x:Ev} {r:List Int} (h:PcR c pre x m r) (he:cB x) (hk:x.k=3) (n:Nat) (hn:n<r.length) (hl:m.length<=100000):PcR c pre x (m++[⟨3,x.s,0,0,r.take n⟩]) (r.drop n):=by
 obtain⟨k,s,a,b,y⟩:=x;dsimp only at hk;subst hk;have h0:(wS c).y.now=0:=rfl;obtain⟨p1,p2,p3,p4,p5⟩:=TU m (VA c hc) h.pm LU;have l1:=h.pl;have l2:=he.n;dsimp only at l1 l2;have hs:=he.s;have ha:=he.a;have hb:=he.b;dsimp only at hs ha hb;have y1:BY (r.take n):=λz hz=>h.pr z (zZv hz)
 have y2:BY (r.drop n):=λz hz=>h.pr z (zZe hz)
 have e1:cB ⟨3,s,0,0,r.take n⟩:=KW zB hs zB zB y1 (by rw[zYo];omega);have e2:cB ⟨3,s,a,b,r.drop n⟩:=KW zB hs ha hb y2 HB
 have e3:cB ⟨3,s,a,b,r.take n++r.drop n⟩:=by
  rw[yA9];exact KW zB hs ha hb h.pr zB
 have q:=zQ6 p1 zB e1 e2 e3 [];rw[yA9]at q;refine⟨λe hx=>(zYl.1 hx).elim (h.pm e) λhx=>by rw[zYz.1 hx];exact e1,y2,by rw[zY4];dsimp only;omega,?_,?_⟩
 ·rw[zYv,dV];exact q.1.trans ((dV _ _ _).symm.trans h.pb)
 ·rw[zYv,VB];refine Eq.trans (zY0 (ZR (wS c) m++ ·) q.2) ((VB _ _ _).symm.trans h.ps)
end Av
end Go.Proofs.YtmamjhmoegjapaaGreat
