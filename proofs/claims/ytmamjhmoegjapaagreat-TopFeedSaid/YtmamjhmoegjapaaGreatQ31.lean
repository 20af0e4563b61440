/- Part 31. -/
import Derived.Test.YtmamjhmoegjapaaGreatQ30
namespace Go.Proofs.YtmamjhmoegjapaaGreat
namespace Av
open Tryz
set_option linter.all false
set_option maxRecDepth 4000
set_option maxHeartbeats 8000000
theorem zD5 (v:AV):(XO v).cells=v.cells.map XO:=by
 cases v with
 |agg cs=>show wkL cs=cs.map XO;exact zBo cs
 |s v=>
  show(XO (.s v)).cells=[XO (.s v)]
  unfold XO
  split<;>rfl
 |_=>rfl
theorem xE.wkl {w:World} {D:Nat->Prop} {nn:Bool} {xs:List AV} {c:Value} (hv:xE w D (.sl nn xs) c):xE w D (.sl nn (xs.map XO)) c:=by
 cases hv with
 |nil a cap=>exact .nil a cap
 |nil1 a cap=>exact .nil1 a cap
 | sl _ _ b o sz cap f hx hL hc h=>
  have hl:(xs.map XO).length=xs.length:=zXa ..
  have hk:∀(i:Nat) (x:AV),(xs.map XO)[i]? =some x->∃y,xs[i]? =some y/\x.cells=y.cells.map XO:=λi x hx=>by
   rw[zXd,zXn]at hx;obtain⟨y,hy,rfl⟩:=hx;exact⟨y,hy,zD5 y⟩
  have hL':Lay w D (xs.map XO) b o sz f:=by
   refine⟨hL.lt,hL.nd,hL.pos,by rw[hl];exact hL.max,λi x hx=>?_,λi j hi hj=>hL.cell i j (by rw[hl]at hi;exact hi) hj,λi j hi hj=>hL.one i j (by rw[hl]at hi;exact hi) hj⟩;obtain⟨y,hy,he⟩:=hk i x hx;rw[he,zXa];exact hL.wide i y hy
  have:=xE.sl nn (xs.map XO) b o sz cap f (by simpa using hx) hL' (by rw[hl];exact hc) (λi x j v hi hj=>by
   obtain⟨y,hy,he⟩:=hk i x hi;rw[he,zXd,zXn]at hj;obtain⟨u,hu,rfl⟩:=hj
   exact(h i y j u hy hu).wk)
  rw[hl]at this;exact this
section
variable {P:Program} {K0:List Nat} {F:Fr K0} {m:Nat} {ops:Array Oper} {rest:List Oper} {fs:List FP} {tm:List (Nat×AV)} {h:List (Nat×xN)}
theorem wH.wkL {a:Act} {w:World} (R:wH F m ⟨tm,h⟩ a w) (t:Nat) {nn:Bool} {xs ys:List AV} (hv:zG tm t= .sl nn xs) (he:xs.map XO=ys):wH F m ⟨(t,.sl nn ys)::tm,h⟩ a w:=by
 obtain⟨⟨X,β,hX,H,Ht,KK,hJ,hD⟩,nd,gs,hl⟩:=R;refine⟨⟨X,β,hX,H,λj=>?_,KK,λi hi=>?_,hD⟩,nd,gs,hl⟩
 ·rw[yN];split
  ·rename_i hj;subst hj;have:=Ht j;dsimp only at this;rw[hv]at this
   cases this with
   |fz _ _ hf=>exact .fz _ _ (he▸hf.wkl)
  ·exact Ht j
 ·rw[yN]at hi;split at hi
  ·cases hi
  ·exact hJ i hi
theorem zV4 {Q:List FP->St->Prop} (t:Nat) {nn:Bool} {xs ys:List AV} (hv:zG tm t= .sl nn xs) (he:xs.map XO=ys) (hk:zZ P F m ops false rest ⟨(t,.sl nn ys)::tm,h⟩ fs Q):zZ P F m ops false rest ⟨tm,h⟩ fs Q:=
 ⟨λa w R=>hk.run a w (R.wkL t hv he)⟩
end
theorem zKn (c:Cf) (hw:IW c.ags) (n:Nat) (hn:n<=c.ags.length):zN 41 [wT c,iA n] [] (iA (jM c.ags n)) []:=by
 have hl:=zA vH c.ags;have h4:=hw.1;have hb:=kY hw;unfold wT;refine eM call41 λF hF=>?_
 refine WW ?_;refine zP (n) [] [] [1,9,10] [5,11,1,9,10] rfl (λi T U=>⟨(5,iA (jM c.ags i))::(11,iA i)::T,U⟩) ?_;(conv=>whnf);refine⟨by rfl,?_,?_⟩
 ·intro i hi;have hy:=zM vH c.ags i zB;have h1:=hw.at (i:=i) zB;have h2:=hb i zB;rw[show jM c.ags (i+1)=jM c.ags i+(c.ags.getD i default).ses from rfl];clear hb;generalize jM c.ags i=s at *;generalize c.ags.getD i default=a at *;refine WW ?_;rfl
 ·by_cases h9:n<c.ags.length
  ·have hy:=zM vH c.ags n h9;generalize c.ags.getD n default=a at *;refine WW ?_;exact zK
  ·(refine WW ?_)
   exact zK
def zSe:AV:= .agg [bA false,bA false,.s (.slice none 0 0),bA false]
def OH (ss:List Ss) (i:Nat):List AV:=(List.range ss.length).map λk=>if k<i then jJ (ss.getD k default)else zSe
theorem zD6 (ss:List Ss):OH ss 0=List.replicate ss.length zSe:=by
 unfold OH;apply zYp;intro j;rw[zXd,zY4];by_cases hj:j<ss.length
 ·rw[zX6 hj,zW9 hj];simp
 ·rw[zW8 hj,zX0 wQ];rfl
theorem zKo (ss:List Ss):OH ss ss.length=ss.map jJ:=by
 unfold OH;rw[eG];apply zYp;intro j;rw[zXd,zXd];by_cases hj:j<ss.length
 ·rw[zX6 hj,zXr hj];simp only[Option.map_some,zXh,zXr hj,zZg]
 ·rw[zX0 wQ,zX0 zB];rfl
theorem XU (b:UC) (h:BrI b):zN 51 [cF b] [] (XT b.y (.ref 1021 0 b.ss.length)) [(1021,.arr 4 (b.ss.map jJ) false)]:=by
 obtain⟨y,ss⟩:=b;have hy:=h.y;have hs:=h.s;have hl:=h.l;dsimp only at *;have hw:=hy.v.ag;have hrf:=hy.rf
 have hsb:ss.length<=8:=by
  have:=kY hw y.c.ags.length (zXc _);have:=hw.1;omega
 have eC:uM y= .agg [zD wP y.c.js,zD vH y.c.ags,iA y.c.per,iA y.c.cap,iA y.c.hold,iA y.c.lock,bA false,iA y.now,zD zJ y.ds,zD vB y.sg,zD wX y.sv,zD iA y.st,zD vL y.vw]:=by rw[<-hrf];rfl
 have k1:=aI y hy.b;rw[eC]at k1;have hsl:=zA jJ ss;unfold cF XT;dsimp only;refine eM call51 λF hF=>?_
 (repeat' (first|refine qA ?_|refine xQ (λhc=>?_) (λhc=>?_)|refine wD (λhc=>?_)|(refine zE ?_;first|(refine gO ?_;refine cE 1021 tok rfl rfl rfl rfl rfl rfl rfl rfl rfl rfl rfl rfl rfl zB zB rfl rfl rfl ?_))|fail))
 rw[hsl];have hn:∀i,(OH ss i).length=ss.length:=λi=>by unfold OH;rw[zXa,zYu]
 refine zP (ss.length) [1021,1,2] [1,2] [1,2,3,11,12] [13,1,2,3,11,12] rfl (λi T U=>⟨(13,iA i)::T,(1021,.arr 4 (OH ss i) false)::U⟩) ?_;(conv=>whnf);refine⟨by(rw[zD6];rfl),?_,?_⟩
 ·intro i hi;have hy:=zM jJ ss i hi;have hyc:(OH ss i)[i]? =some zSe:=cT _ _ _ _ hi;have e1:OH ss (i+1)=(OH ss i).set i (jJ (ss.getD i default)):=eE _ _ _ _ hi;have hI:=hs _ (yC ss i hi);have kx:=LL (ss.getD i default) (by have:=hI.n;omega);have h1:=hn i;rw[e1];clear e1 hs hI k1;unfold zSe at hyc;generalize OH ss i=X at *;generalize ss.getD i default=s at *;refine zU kx ?_;rfl
 ·rw[zKo];refine zU k1 ?_;exact zL [1021] rfl rfl rfl rfl
def uT (c:Cf):UC:=⟨aJ c,List.replicate (jM c.ags c.ags.length).toNat ⟨false,false,[],false⟩⟩
theorem zV5 {α β:Type} [Inhabited α] [Inhabited β] (f:α->β) (l:List α) (k:Nat) (hk:k<l.length):(l.map f).getD k default=f (l.getD k default):=by
 rw[zXh,zXd,zXr hk,zXh,zXr hk];rfl
theorem zP7 (c:Cf) (h:IX c):CyI (aJ c):=by
 have ha:=h.a;have hdl:(LG c c.ags.length).length=c.ags.length:=by simp[LG]
 have hmem:∀d∈LG c c.ags.length,∃k:Nat,k<c.ags.length/\d=QP (k:Int) (c.ags.getD k default) (c.ags.getD k default).ses.toNat:=λd hd=>by
  unfold LG at hd;obtain⟨k,hk,rfl⟩:=zYo.1 hd;exact⟨k,zXz.1 hk,rfl⟩
 refine⟨h,rfl,zZf _,hdl,λd hd=>?_,λa ha=>?_,λd hd=>?_,by simp[aJ],by simp[aJ],by simp[aJ],by simp[aJ],λw hw=>?_,λk hk=>?_⟩
 ·obtain⟨k,hk,rfl⟩:=hmem d hd;exact zRf (h.av _ (yC c.ags k hk)) k zB
 ·have ha':a<c.ags.length:=by rw[<-hdl];exact ha
  show((LG c c.ags.length).getD a default).rg.ag=_
  unfold LG;rw[zXh,zXd,zX6 ha'];rfl
 ·obtain⟨k,hk,rfl⟩:=hmem d hd;exact λr hr=>by cases hr
 ·unfold aJ at hw;obtain⟨j,hj,rfl⟩:=zYo.1 hw;exact zO7 j (h.jv j hj) _ _
 ·have hk':k<c.js.length:=hk;have J:=h.jv _ (yC c.js k hk')
  show JI (c.js.getD k default) ((c.js.map fH).getD k default) ((c.js.map RT).getD k default) 0
  rw[zV5 fH c.js k hk',zV5 RT c.js k hk'];refine⟨zE4 J,by simp[RT,zK6],λe he=>?_,zZf _⟩;rw[(yBi.1 he).2]
  decide
theorem DS (c:Cf) (h:IX c):BrI (uT c):=by
 have hb:=kY h.ag c.ags.length (zXc _);refine⟨zP7 c h,?_,λs hs=>?_⟩
 ·show((List.replicate _ _).length:Int)=_
  rw[zYz]
  show((jM c.ags c.ags.length).toNat:Int)=jM c.ags c.ags.length
  omega
 ·rw[(yBi.1 hs).2];exact⟨kC,zXp _⟩
theorem zB7 (c:Cf) (h:IX c):zN 13 [wT c] [] (cF (uT c)) []:=by
 have k1:=zQe c h;have hrf:=(zP7 c h).rf;have hw:=h.ag;have k2:=zKn c hw c.ags.length (zXc _);have hal:=zA vH c.ags;have hb:=kY hw c.ags.length (zXc _);have h4:=hw.1;have eC:uM (aJ c)= .agg [zD wP (aJ c).c.js,zD vH (aJ c).c.ags,iA (aJ c).c.per,iA (aJ c).c.cap,iA (aJ c).c.hold,iA (aJ c).c.lock,bA false,iA (aJ c).now,zD zJ (aJ c).ds,zD vB (aJ c).sg,zD wX (aJ c).sv,zD iA (aJ c).st,zD vL (aJ c).vw]:=by rw[<-hrf];rfl
 rw[eC]at k1;obtain⟨N,hN⟩:∃N:Nat,jM c.ags c.ags.length=(N:Int):=⟨(jM c.ags c.ags.length).toNat,zB⟩;rw[hN]at k2 hb;rw[<-hal]at k2
 have eB:cF (uT c)= .agg [zD wP (aJ c).c.js,zD vH (aJ c).c.ags,iA (aJ c).c.per,iA (aJ c).c.cap,iA (aJ c).c.hold,iA (aJ c).c.lock,bA false,iA (aJ c).now,zD zJ (aJ c).ds,zD vB (aJ c).sg,zD wX (aJ c).sv,zD iA (aJ c).st,zD vL (aJ c).vw,.sl false (List.replicate N (.agg [bA false,bA false,zD yA [],bA false]))]:=by
  unfold cF XT uT;dsimp only;rw[hN];unfold zD;rw[yA0];rfl
 rw[eB];generalize aJ c=z at *;refine eM call13 λF hF=>?_
 (have zc1:=k1;have zc2:=k2;(repeat' (first|refine qA ?_|refine xQ (λhc=>?_) (λhc=>?_)|refine wD (λhc=>?_)|(refine zE ?_;first|(refine gO ?_;refine cE 1021 tok rfl rfl rfl rfl rfl rfl rfl rfl rfl rfl rfl rfl rfl zB zB rfl rfl rfl ?_;refine jY [1,2,3] [1,2,3,16] rfl ?_;(conv=>whnf);(try simp only[zYf]);refine zV4 16 rfl rfl ?_))|fail))<;>clear zc1 zc2)
 refine zH [] rfl rfl ?_ rfl
 show AV.agg [zD wP z.c.js,zD vH z.c.ags,iA z.c.per,iA z.c.cap,iA z.c.hold,iA z.c.lock,bA false,iA z.now,zD zJ z.ds,zD vB z.sg,zD wX z.sv,zD iA z.st,zD vL z.vw,.sl false (List.map XO (List.take N (List.replicate N zSe)))]=_
 rw[zXk (by rw[zYz];exact zXc _),yA0];rfl
theorem zKp (l:List (List Int)) (hl:l.length<=1073741824):zN 153 [zD kL l] [] (.ref 1005 0 (l.map kL).length) [(1005,.arr 1 (l.map kL) false)]:=by
 have hll:=zA kL l;refine eM call153 λF hF=>?_
 refine yY 0 rfl (λcap hx=>?_) ?_
 ·have:l=[]:=by simpa using hx
  subst this
  (repeat' (first|refine WZN ?_|refine xQ (λhc=>?_) (λhc=>?_)|refine wD (λhc=>?_)|fail))
  refine uF 2 1005 1 rfl rfl rfl (yU ?_);exact zL [1005] rfl rfl rfl rfl
 ·repeat' (first|(refine zE ?_;first|refine vK tok rfl rfl ?_|(refine wZ ?_;refine xK (yW tok (.inl ⟨rfl,rfl⟩) rfl rfl rfl rfl) rfl ?_)|(refine yT ?_;refine uG (nw:=[1005]) (yJ tok 1005 (xs:=[]) rfl rfl rfl rfl rfl rfl rfl rfl rfl) rfl rfl rfl ?_)|(refine yV ?_;refine wO tok rfl rfl rfl rfl rfl rfl rfl (xH _ _ (λ_=>rfl)) rfl rfl rfl zB rfl ?_)|refine qC ?_)|(first|refine xS ?_|refine yZ ?_|refine vA rfl ?_|refine zX rfl ?_|refine zQ rfl ?_|refine xJ rfl (λhc=>?_) (λhc=>?_)|refine yX ?_|refine yU ?_|refine xA ?_|refine yS ?_))
  exact zL [1005] rfl rfl rfl rfl
def NU (d:xP):AV:=wL d.rg (zD yK d.rq) (.ref 1005 0 (d.dr.map kL).length) (zD bA d.au)
theorem zKq (d:xP) (hb:eU d):zN 102 [zJ d] [] (NU d) [(1005,.arr 1 (d.dr.map kL) false)]:=by
 have k1:=KG d.rg hb.rg;have hq:=hb.q;have hdn:=hb.n;have hau:=hb.a;have k2:=XC d.rq zB;have k3:=zKp d.dr zB;have k4:=FC d.au zB;have hlq:=zA yK d.rq;have hld:=zA kL d.dr;unfold NU zJ wL;unfold uW at k1;refine eM call102 λF hF=>?_
 refine yO (wW k1 k2) ?_;refine zP ((d.rq.map yK).length) [1001,1,2] [1,2] [1,2,15] [16,1,2,15] rfl (λi T U=>⟨(16,iA i)::T,(1001,.arr 5 (kS i (d.rq.map yK)) false)::U⟩) ?_;(conv=>whnf);refine⟨by rfl,?_,?_⟩
 ·intro i hi;have hi':i<d.rq.length:=by omega
  have hy:(kS i (d.rq.map yK))[i]? =some (yK (d.rq.getD i default)):=zM yK d.rq i hi';have e:=kG yK d.rq i hi';have c2:=cM (d.rq.getD i default).legs (hb.g (d.rq.getD i default) bY);generalize (d.rq.getD i default)=t at *;generalize kS i (d.rq.map yK)=xs at *;generalize kS (i+1) (d.rq.map yK)=ys at *;subst e;refine zU c2 ?_;rfl
 ·(refine zU k3 ?_)
  refine zP ((d.dr.map kL).length) [1005,1,2,1001] [1,2,1001] [1,2,38] [39,1,2,38] rfl (λi T U=>⟨(39,iA i)::T,(1005,.arr 1 (kS i (d.dr.map kL)) false)::U⟩) ?_;(conv=>whnf);refine⟨by rfl,?_,?_⟩
  ·intro i hi;have hi':i<d.dr.length:=by omega
   have hy:(kS i (d.dr.map kL))[i]? =some (kL (d.dr.getD i default)):=zM kL d.dr i hi';have e:=kG kL d.dr i hi';have c2:=wA (d.dr.getD i default) (by have:=hb.e (d.dr.getD i default) bY;omega);generalize (d.dr.getD i default)=t at *;generalize kS i (d.dr.map kL)=xs at *;generalize kS (i+1) (d.dr.map kL)=ys at *;subst e;refine zU c2 ?_;rfl
  ·(refine zU k4 ?_)
   refine zH [1005] rfl rfl ?_ rfl
   show wL d.rg (.sl false ((d.rq.map yK).take (d.rq.map yK).length)) (.ref 1005 0 (d.dr.map kL).length) (zD bA d.au)=_
   rw[zXe];rfl
theorem IU (K:List Nat) (h:yH):∀l:List xP,uO K h (l.map zJ)=l.map zJ
 | []=>rfl
 |r::l=>by rw[zYi,uO,IU K h l];rfl
theorem OI (K:List Nat) (h:yH):∀l:List xP,wE K h (l.map zJ)=l.map zJ
 | []=>rfl
 |r::l=>by rw[zYi,wE,OI K h l];rfl
theorem TC:∀l:List xP,wC (l.map zJ)=true
 | []=>rfl
 |r::l=>by rw[zYi,wC,TC l];rfl
def kQ (pre:List xP) (x:xP) (post:List xP):List AV:=pre.map zJ++NU x::post.map zJ
theorem OJ (pre:List xP) (x:xP) (post:List xP):(kQ pre x post).length=pre.length+1+post.length:=by simp[kQ];omega
theorem zKr {K:List Nat} (hK:K.contains 1005=true) (h:yH) (pre:List xP) (x:xP) (post:List xP) (b:Bool):qR K h (.arr 17 (kQ pre x post) ⟨b,true⟩)= .arr 17 (kQ pre x post) ⟨b,true⟩:=by
 have e:uO K h (kQ pre x post)=kQ pre x post:=by
  unfold kQ;rw[QT,IU,uO,IU]
  congr 2
  have er:wN K h (.ref 1005 0 (x.dr.map kL).length)= .ref 1005 0 (x.dr.map kL).length:=by
   unfold wN;rw[hK];rfl
  show AV.agg [_,_,_,_,_,_,_,_,_,_,_,_,_,_,_,wN K h (.ref 1005 0 (x.dr.map kL).length),_]=_
  rw[er];rfl
 have e2:wC (kQ pre x post)=false:=by
  unfold kQ;rw[XF,TC,wC];rfl
 show xN.arr 17 (uO K h (kQ pre x post)) ⟨b,!wC (uO K h (kQ pre x post))⟩=_
 rw[e,e2];rfl
theorem zO2 (pre:List xP) (x:xP) (post:List xP):(kQ pre x post)[pre.length]? =some (NU x):=by
 unfold kQ;rw[zX2 zS,zXa,zZo];rfl
theorem zB8 {pre:List xP} {x:xP} {post l:List xP} (hL:l=pre++x::post):(l.map zJ).set pre.length (NU x)=kQ pre x post:=by
 subst hL;unfold kQ;rw[zXf,zYi,yAb _ _ zS,zXa,zZo];rfl
theorem zD7 {pre:List xP} {x:xP} {post l:List xP} (hL:l=pre++x::post) {i:Nat} (h1:pre.length<i) (h2:i<l.length):(kQ pre x post)[i]? =some (zJ (l.getD i default)):=by
 subst hL;rw[<-zB8 rfl,yBs zB];exact zM zJ _ i h2
def zTv (y:Cy) (pre:List xP) (x:xP) (post:List xP):AV:=YC y.c y.rf y.now (.ref 1011 0 y.ds.length) (zD vB y.sg) (zD wX y.sv) (zD iA y.st) (zD vL y.vw)
theorem zKs (y:Cy) (h:CyB y) (pre:List xP) (x:xP) (post:List xP) (hL:y.ds=pre++x::post):zN 60 [uM y] [] (zTv y pre x post) [(1011,.arr 17 (kQ pre x post) ⟨false,true⟩),(1005,.arr 1 (x.dr.map kL) false)]:=by
 have k1:=aE y.ds (by have:=h.d;omega);have k2:=aF y.sg (by have:=h.g;omega);have k3:=aG y.sv (by have:=h.s;omega);have k4:=aH y.st (by have:=h.t;omega);have k5:=ZK y.vw h.v h.vb;have hl1:=zA zJ y.ds;have hl2:=zA vB y.sg;have hl3:=zA wX y.sv;have hl4:=zA iA y.st;have hd:=h.d;have hg:=h.g;have hs:=h.s;have hlen:y.ds.length=pre.length+1+post.length:=by rw[hL];simp;omega
 have hcl:=OJ pre x post;have hfr:∀(K:List Nat) (H:yH),K.contains 1005=true->qR K H (.arr 17 (kQ pre x post) ⟨false,true⟩)= .arr 17 (kQ pre x post) ⟨false,true⟩:=λK H hK=>zKr hK H pre x post false
 unfold uM zTv YC;refine eM call60 λF hF=>?_
 refine zU k1 ?_;rw[hl1]
 refine wV (λn st=>∃i,n+i=y.ds.length/\st=if i<=pre.length then(⟨[(13,iA i),(1,.ptr 1 0 0),(2,.ptr 2 0 0),(12,iA y.ds.length)],[(1,.box [zD wP y.c.js,zD vH y.c.ags,iA y.c.per,iA y.c.cap,iA y.c.hold,iA y.c.lock,bA y.rf,iA y.now,.ref 1011 0 y.ds.length,zD vB y.sg,zD wX y.sv,zD iA y.st,zD vL y.vw]),(2,.box [.s (.slice none 0 0),.s (.slice none 0 0),iA 0,iA 0,iA 0,iA 0,bA false,iA 0,.s (.slice none 0 0),.s (.slice none 0 0),.s (.slice none 0 0),.s (.slice none 0 0),.s (.slice none 0 0)]),(1011,.arr 17 (y.ds.map zJ) false)]⟩:St)
  else⟨[(13,iA i),(1,.ptr 1 0 0),(2,.ptr 2 0 0),(12,iA y.ds.length)],[(1,.box [zD wP y.c.js,zD vH y.c.ags,iA y.c.per,iA y.c.cap,iA y.c.hold,iA y.c.lock,bA y.rf,iA y.now,.ref 1011 0 y.ds.length,zD vB y.sg,zD wX y.sv,zD iA y.st,zD vL y.vw]),(2,.box [.s (.slice none 0 0),.s (.slice none 0 0),iA 0,iA 0,iA 0,iA 0,bA false,iA 0,.s (.slice none 0 0),.s (.slice none 0 0),.s (.slice none 0 0),.s (.slice none 0 0),.s (.slice none 0 0)]),(1011,.arr 17 (kQ pre x post) ⟨false,true⟩),(1005,.arr 1 (x.dr.map kL) false)]⟩) y.ds.length [1,2,1011,1005] [13,1,2,12] rfl ⟨0,zB,by rw[zW9 (zXp _)];rfl⟩ ?_
 rintro n st ⟨i,hi,rfl⟩;by_cases hip:i<pre.length
 ·rw[zW9 zB];have hil:i<y.ds.length:=by omega
  have hy:=zM zJ y.ds i hil;have c2:=cK (y.ds.getD i default) (h.db _ (yC y.ds i hil));have e:=kG zJ y.ds i hil;generalize y.ds.getD i default=d at *;generalize y.ds.map zJ=xs at *;have hsame:=eP hy;refine zU c2 ?_;refine⟨n-1,zB,i+1,zB,?_⟩;rw[zW9 zB]
  show(⟨_,[_,_,(1011,.arr 17 (xs.set i (zJ d)) false)]⟩:St)=_
  rw[hsame];rfl
 by_cases hie:i=pre.length
 ·rw[zW9 zB];subst hie;have hil:pre.length<y.ds.length:=by omega
  have hx:y.ds.getD pre.length default=x:=by rw[hL,zXh,zX2 (zXc _),zZo];rfl
  have hy:=zM zJ y.ds pre.length hil;have c2:=zKq (y.ds.getD pre.length default) (h.db _ (yC y.ds pre.length hil));rw[hx]at hy c2;have hof:=zB8 hL;generalize y.ds.map zJ=xs at *;refine PX 1011 rfl ?_;unfold NU at c2;refine zU c2 ?_;refine⟨n-1,zB,pre.length+1,zB,?_⟩;rw[zW8 zB]
  show(⟨_,[_,_,(1011,qR _ _ (.arr 17 (xs.set pre.length (NU x)) ⟨false,true⟩)),_]⟩:St)=_
  rw[hof,hfr _ _ rfl];rfl
 rw[zW8 zB];by_cases hil:i<y.ds.length
 ·have hy:=zD7 hL zB hil;have c2:=cK (y.ds.getD i default) (h.db _ (yC y.ds i hil));have hsame:=eP hy;generalize y.ds.getD i default=d at *;generalize kQ pre x post=cs at *;refine zU c2 ?_;refine⟨n-1,zB,i+1,zB,?_⟩;rw[zW8 zB]
  show(⟨_,[_,_,(1011,qR _ _ (.arr 17 (cs.set i (zJ d)) ⟨false,true⟩)),_]⟩:St)=_
  rw[hsame,hfr _ _ rfl];rfl
 have hie2:i=y.ds.length:=by omega
 subst hie2;generalize kQ pre x post=cs at *;refine zU k2 ?_;rw[hl2];refine wV (λn st=>∃i,n+i=y.sg.length/\st=(⟨[(34,iA i),(1,.ptr 1 0 0),(2,.ptr 2 0 0),(33,iA y.sg.length)],[(1,.box [zD wP y.c.js,zD vH y.c.ags,iA y.c.per,iA y.c.cap,iA y.c.hold,iA y.c.lock,bA y.rf,iA y.now,.ref 1011 0 y.ds.length,.ref 1012 0 y.sg.length,zD wX y.sv,zD iA y.st,zD vL y.vw]),(2,.box [.s (.slice none 0 0),.s (.slice none 0 0),iA 0,iA 0,iA 0,iA 0,bA false,iA 0,.s (.slice none 0 0),.s (.slice none 0 0),.s (.slice none 0 0),.s (.slice none 0 0),.s (.slice none 0 0)]),(1011,.arr 17 cs ⟨false,true⟩),(1005,.arr 1 (x.dr.map kL) false),(1012,.arr 5 (y.sg.map vB) false)]⟩:St)) y.sg.length [1,2,1011,1005,1012] [34,1,2,33] rfl ⟨0,zB,?_⟩ ?_
 ·show(⟨_,[_,_,(1011,qR _ _ (.arr 17 cs ⟨false,true⟩)),_,_]⟩:St)=_
  rw[hfr _ _ rfl];rfl
 rintro n st ⟨i,hi2,rfl⟩;by_cases hil:i<y.sg.length
 ·have hy:=zM vB y.sg i hil;have hgb:=h.gb _ (yC y.sg i hil);have c2:=zAr (y.sg.getD i default) zB zB;have hsame:=eP hy;generalize y.sg.getD i default=d at *;generalize y.sg.map vB=xs at *;refine zU c2 ?_;refine⟨n-1,zB,i+1,zB,?_⟩
  show(⟨_,[_,_,(1011,qR _ _ (.arr 17 cs ⟨false,true⟩)),_,(1012,.arr 5 (xs.set i (vB d)) false)]⟩:St)=_
  rw[hsame,hfr _ _ rfl];rfl
 have hie3:i=y.sg.length:=by omega
 subst hie3;refine zU k3 ?_;rw[hl3];refine wV (λn st=>∃i,n+i=y.sv.length/\st=(⟨[(55,iA i),(1,.ptr 1 0 0),(2,.ptr 2 0 0),(54,iA y.sv.length)],[(1,.box [zD wP y.c.js,zD vH y.c.ags,iA y.c.per,iA y.c.cap,iA y.c.hold,iA y.c.lock,bA y.rf,iA y.now,.ref 1011 0 y.ds.length,.ref 1012 0 y.sg.length,.ref 1013 0 y.sv.length,zD iA y.st,zD vL y.vw]),(2,.box [.s (.slice none 0 0),.s (.slice none 0 0),iA 0,iA 0,iA 0,iA 0,bA false,iA 0,.s (.slice none 0 0),.s (.slice none 0 0),.s (.slice none 0 0),.s (.slice none 0 0),.s (.slice none 0 0)]),(1011,.arr 17 cs ⟨false,true⟩),(1005,.arr 1 (x.dr.map kL) false),(1012,.arr 5 (y.sg.map vB) false),(1013,.arr 3 (y.sv.map wX) false)]⟩:St)) y.sv.length [1,2,1011,1005,1012,1013] [55,1,2,54] rfl ⟨0,zB,?_⟩ ?_
 ·show(⟨_,[_,_,(1011,qR _ _ (.arr 17 cs ⟨false,true⟩)),_,_,_]⟩:St)=_
  rw[hfr _ _ rfl];rfl
 rintro n st ⟨i,hi3,rfl⟩;by_cases hil:i<y.sv.length
 ·have hy:=zM wX y.sv i hil;have hsb:=h.sb _ (yC y.sv i hil);have c2:=WC (y.sv.getD i default) ⟨zB⟩;have hsame:=eP hy;generalize y.sv.getD i default=d at *;generalize y.sv.map wX=xs at *;refine zU c2 ?_;refine⟨n-1,zB,i+1,zB,?_⟩
  show(⟨_,[_,_,(1011,qR _ _ (.arr 17 cs ⟨false,true⟩)),_,_,(1013,.arr 3 (xs.set i (wX d)) false)]⟩:St)=_
  rw[hsame,hfr _ _ rfl];rfl
 have hie4:i=y.sv.length:=by omega
 subst hie4;refine yO (wW k4 k5) ?_;refine zH [1011,1005] rfl rfl ?_ ?_
 ·show AV.agg [zD wP y.c.js,zD vH y.c.ags,iA y.c.per,iA y.c.cap,iA y.c.hold,iA y.c.lock,bA y.rf,iA y.now,.ref 1011 0 y.ds.length,.sl false (List.take y.sg.length (y.sg.map vB)),.sl false (List.take y.sv.length (y.sv.map wX)),.sl false (List.take (y.st.map iA).length (y.st.map iA)),zD vL y.vw]=_
  rw[zXk (zZa hl2),zXk (zZa hl3),zXe];rfl
 ·show [(1011,qR _ _ (.arr 17 cs ⟨false,true⟩)),(1005,_)]=_
  rw[hfr _ _ rfl];rfl
theorem zKt {h:yH} {pre post:List xP} {x:xP} {b fl:Bool} (h1:h 1011=some (.arr 17 (kQ pre x post) ⟨b,true⟩)) (h2:h 1005=some (.arr 1 (x.dr.map kL) ⟨fl,false⟩)):
  wN [] h (.ref 1011 0 (kQ pre x post).length)=zD zJ (pre++x::post):=by
 have e:wE [] h (kQ pre x post)=(pre++x::post).map zJ:=by
  unfold kQ;rw[UQ,OI,wE,OI,zXf,zYi]
  congr 1
  congr 1
  have e2:vN [] h (.ref 1005 0 (x.dr.map kL).length)=zD kL x.dr:=by
   simp only[vN,h2]
   show AV.sl false (((x.dr.map kL).drop 0).take (x.dr.map kL).length)=_
   rw[zYf,zXe];rfl
  show AV.agg [_,_,_,_,_,_,_,_,_,_,_,_,_,_,_,vN [] h (.ref 1005 0 (x.dr.map kL).length),_]=_
  rw[e2];rfl
 have hl2:(kQ pre x post).length=((pre++x::post).map zJ).length:=by rw[OJ];simp;omega
 rw[hl2];simp only[wN,h1]
 show(bif wC (wE [] h (kQ pre x post))then AV.sl false (((wE [] h (kQ pre x post)).drop 0).take _)else .bot)=_
 rw[e,TC,zYf,zXe];rfl
theorem zKu (y:Cy) (h:CyI y) (a:Int) (d:List Int) (hd:BY d) (hd9:d.length<=1000000):∃y':Cy,CyI y'/\y'.c=y.c/\(y'.now=y.now/\y'.sg=y.sg)/\zN 55 [uM y,iA a,zD yA d] [] (uM y') []:=by
 have hb:=h.b;have hrf:=h.rf;have hdl:=zA zJ y.ds;have hdm:=zA yA d;have eC:uM y= .agg [zD wP y.c.js,zD vH y.c.ags,iA y.c.per,iA y.c.cap,iA y.c.hold,iA y.c.lock,bA false,iA y.now,zD zJ y.ds,zD vB y.sg,zD wX y.sv,zD iA y.st,zD vL y.vw]:=by rw[<-hrf];rfl
 by_cases ha:0<=a/\a<(y.ds.length:Int)
 case neg=>
  refine⟨y,h,rfl,⟨rfl,rfl⟩,?_⟩;have k1:=aI y hb;rw[eC]at k1⊢;by_cases h0:a<0
  ·(refine eM call55 λF hF=>?_)
   refine zU k1 ?_;exact zK
  ·(refine eM call55 λF hF=>?_)
   refine zU k1 ?_;exact zK
 obtain⟨a0,a1⟩:=ha;by_cases h8:d.length=8
 case neg=>
  refine⟨y,h,rfl,⟨rfl,rfl⟩,?_⟩;have k1:=aI y hb;rw[eC]at k1⊢;refine eM call55 λF hF=>?_
  refine zU k1 ?_;exact zK
 have hyd:=yM zJ y.ds a a0 a1;have hI:=h.di _ (yC y.ds a.toNat zB);have hdn:=hI.dn;by_cases hr:(y.ds.getD a.toNat default).dr.length<8
 case neg=>
  refine⟨y,h,rfl,⟨rfl,rfl⟩,?_⟩;have k1:=RS y hb;unfold zEc zEd YC at k1;rw[eC,hrf]at k1;rw[eC];generalize y.ds.getD a.toNat default=x at *;have hxl:=zA kL x.dr;unfold zJ wL at hyd;refine eM call55 λF hF=>?_
  (have zc1:=k1;(repeat' (first|refine qA ?_|refine xQ (λhc=>?_) (λhc=>?_)|refine wD (λhc=>?_)|(refine zE ?_;first|(refine AY ?_;refine xK (gL rfl rfl hyd) rfl ?_))|fail))<;>clear zc1)
  refine zH [] rfl rfl ?_ rfl
  show AV.agg [zD wP y.c.js,zD vH y.c.ags,iA y.c.per,iA y.c.cap,iA y.c.hold,iA y.c.lock,bA false,iA y.now,.sl false (List.take (y.ds.map zJ).length (y.ds.map zJ)),.sl false (List.take (y.sg.map vB).length (y.sg.map vB)),.sl false (List.take (y.sv.map wX).length (y.sv.map wX)),.sl false (List.take (y.st.map iA).length (y.st.map iA)),zD vL y.vw]=_
  rw[zXe,zXe,zXe,zXe];rfl
 obtain⟨n,hn⟩:∃n:Nat,a=(n:Int):=⟨a.toNat,zB⟩;subst hn;have hnl:n<y.ds.length:=by omega
 rw[zYs]at hI hr hdn
 have hL:y.ds=y.ds.take n++y.ds.getD n default::y.ds.drop (n+1):=by
  rw[zXh,zXr hnl]
  show _=_++y.ds[n]::_
  rw[<-zZ5 hnl,zZ1]
 have hpn:(y.ds.take n).length=n:=by rw[zXw];omega
 have k1:=zKs y hb (y.ds.take n) (y.ds.getD n default) (y.ds.drop (n+1)) hL;have k2:=wA d zB;have hat:=zO2 (y.ds.take n) (y.ds.getD n default) (y.ds.drop (n+1));have hcl:=OJ (y.ds.take n) (y.ds.getD n default) (y.ds.drop (n+1));rw[hpn]at hat hcl;have hcl2:(kQ (y.ds.take n) (y.ds.getD n default) (y.ds.drop (n+1))).length=y.ds.length:=by rw[hcl,zYd];omega
 have hset:∀D:List (List Int),(kQ (y.ds.take n) (y.ds.getD n default) (y.ds.drop (n+1))).set n (NU ⟨(y.ds.getD n default).rg,(y.ds.getD n default).rq,D,(y.ds.getD n default).au⟩)=kQ (y.ds.take n) ⟨(y.ds.getD n default).rg,(y.ds.getD n default).rq,D,(y.ds.getD n default).au⟩ (y.ds.drop (n+1)):=λD=>by
  unfold kQ;rw[yAb _ _ (by rw[zXa,hpn];exact zXc _),zXa,hpn,zZo];rfl
 have hds:∀x':xP,y.ds.take n++x'::y.ds.drop (n+1)=y.ds.set n x':=λx'=>by
  rw[List.set_eq_take_append_cons_drop,zW9 hnl]
 refine⟨⟨y.c,false,y.now,y.ds.set n ⟨(y.ds.getD n default).rg,(y.ds.getD n default).rq,(y.ds.getD n default).dr++[d],(y.ds.getD n default).au⟩,y.sg,y.sv,y.st,y.vw⟩,⟨h.v,rfl,h.n0,by dsimp only;rw[zY3];exact h.dl,λz hz=>?_,λi hi=>?_,λz hz=>?_,h.gl,h.sl,h.tl,h.wl,h.wb,h.j⟩,rfl,⟨rfl,rfl⟩,?_⟩
 ·rcases yAk hz with hz|rfl
  ·exact h.di z hz
  ·refine⟨hI.b,hI.v,hI.q,hI.lg,hI.a,hI.n,hI.t8,hI.br,hI.bb,hI.bl,hI.au,?_,λx hx=>?_,hI.vh⟩
   ·dsimp only;rw[zXb];simp only[zXl,zYa];omega
   ·rcases zXs.1 hx with hx|hx
    ·exact hI.dr x hx
    ·rw[zX9.1 hx];exact⟨h8,hd⟩
 ·dsimp only at hi⊢;rw[zY3]at hi;rw[LB _ _ _ _ hi];split
  ·rename_i e;rw[<-e];exact h.dg n hnl
  ·exact h.dg i hi
 ·rcases yAk hz with hz|rfl
  ·exact h.sc z hz
  ·exact h.sc (y.ds.getD n default) (yC y.ds n hnl)
 ·unfold zTv YC at k1;rw[eC,hrf]at k1;rw[eC,<-hds];have hfin:=λH fl h1 h2=>zKt (h:=H) (pre:=y.ds.take n) (post:=y.ds.drop (n+1)) (x:=⟨(y.ds.getD n default).rg,(y.ds.getD n default).rq,(y.ds.getD n default).dr++[d],(y.ds.getD n default).au⟩) (b:=false) (fl:=fl) h1 h2
  rw[<-hset]at hfin;clear hL hds hset hyd hI hcl;rw[show∀l:List xP,uM ⟨y.c,false,y.now,l,y.sg,y.sv,y.st,y.vw⟩= .agg [zD wP y.c.js,zD vH y.c.ags,iA y.c.per,iA y.c.cap,iA y.c.hold,iA y.c.lock,bA false,iA y.now,zD zJ l,zD vB y.sg,zD wX y.sv,zD iA y.st,zD vL y.vw]from λ_=>rfl];generalize y.ds.getD n default=x at *;generalize kQ (y.ds.take n) x (y.ds.drop (n+1))=cs at *;have hxl:=zA kL x.dr;unfold NU wL at hat;refine eM call55 λF hF=>?_
  (have zc1:=k1;have zc2:=k2;(repeat' (first|refine qA ?_|refine xQ (λhc=>?_) (λhc=>?_)|refine wD (λhc=>?_)|(refine zE ?_;first|(refine AY ?_;refine xK (gL rfl rfl hat) rfl ?_))|fail))<;>clear zc1 zc2)
  simp only[NU,zXf]at hfin;rw[zY3,hcl2]at hfin;refine zH [] rfl rfl ?_ rfl;refine(zX7 (λw=>AV.agg [zD wP y.c.js,zD vH y.c.ags,iA y.c.per,iA y.c.cap,iA y.c.hold,iA y.c.lock,bA false,iA y.now,XO w,zD vB y.sg,zD wX y.sv,zD iA y.st,zD vL y.vw]) (hfin _ true ?_ ?_)).trans ?_
  ·rfl
  ·rfl
  ·rfl
def inR (b:UC) (k:Int):Bool:=decide (0<=k/\k<(b.ss.length:Int))
def ssF (e:Ev) (s:Ss):Ss:=if e.k=1 then(if s.op=true then s else⟨true,false,[],false⟩)else if e.k=2 then⟨false,false,[],false⟩else HW s e.y
def doS (b:UC) (e:Ev):UC:=if inR b e.s=true then⟨b.y,b.ss.set e.s.toNat (ssF e (b.ss.getD e.s.toNat default))⟩else b
def sd0:AV:= .agg [.sl false [],.sl false []]
section
variable (b:UC) (h:BrI b)
include h
theorem IV:∃N:Nat,b.ss.length=N/\N<=8:=by
 have hw:=h.y.v.ag;have h1:=h.l;have h2:=kY hw b.y.c.ags.length (zXc _);have h3:=hw.1;exact⟨_,rfl,zB⟩
theorem zW5 (e:Ev) (hk:e.k=1∨e.k=2∨e.k=3) (hb:BY e.y) (hl:e.y.length<=1000000):zN 15 [cF b,qK e] [] (.tup [cF (doS b e),sd0,bA false]) []:=by
 obtain⟨N,hN,hN8⟩:=IV b h;have k1:=XU b h;have hs:=h.s;have hsl:=zA jJ b.ss;obtain⟨y,ss⟩:=b;dsimp only at *;unfold doS inR;dsimp only;unfold cF XT at *;dsimp only at *;by_cases hr:0<=e.s/\e.s<(ss.length:Int)
 ·rw[zW9 (zXg hr)];obtain⟨r0,r1⟩:=hr;have hy:=yM jJ ss e.s r0 r1;have hI:=hs _ (yC ss e.s.toNat zB);have hIn:=hI.n;have ko:=zOq (ss.getD e.s.toNat default) zB;have kd:=zOr (ss.getD e.s.toNat default);have kr:=zTg (ss.getD e.s.toNat default) hIn e.y hl;dsimp only;rw[show zD jJ (ss.set e.s.toNat (ssF e (ss.getD e.s.toNat default)))= .sl false ((ss.map jJ).set e.s.toNat (jJ (ssF e (ss.getD e.s.toNat default)))) by unfold zD;rw[zZh]];unfold ssF;clear hI;obtain⟨ek,es,ea,en,eb⟩:=e;dsimp only at *;generalize ss.getD es.toNat default=s at*
  rcases hk with rfl|rfl|rfl
  ·rw[zW9 rfl];generalize (if s.op=true then s else⟨true,false,[],false⟩:Ss)=s1 at *;unfold qK;refine eM call15 λF hF=>?_
   refine yO (wW k1 ko) ?_;refine zH [] rfl rfl ?_ rfl
   show AV.tup [AV.agg [zD wP y.c.js,zD vH y.c.ags,iA y.c.per,iA y.c.cap,iA y.c.hold,iA y.c.lock,bA false,iA y.now,zD zJ y.ds,zD vB y.sg,zD wX y.sv,zD iA y.st,zD vL y.vw,.sl false (List.take ss.length ((ss.map jJ).set es.toNat (jJ s1)))],sd0,bA false]=_
   rw[zXk zI4]
  ·rw[zW8 xL,zW9 rfl];unfold qK;refine eM call15 λF hF=>?_
   refine yO (wW k1 kd) ?_;refine zH [] rfl rfl ?_ rfl
   show AV.tup [AV.agg [zD wP y.c.js,zD vH y.c.ags,iA y.c.per,iA y.c.cap,iA y.c.hold,iA y.c.lock,bA false,iA y.now,zD zJ y.ds,zD vB y.sg,zD wX y.sv,zD iA y.st,zD vL y.vw,.sl false (List.take ss.length ((ss.map jJ).set es.toNat (jJ ⟨false,false,[],false⟩)))],sd0,bA false]=_
   rw[zXk zI4]
  ·rw[zW8 xL,zW8 xL];unfold qK;refine eM call15 λF hF=>?_
   refine yO (wW k1 kr) ?_;refine zH [] rfl rfl ?_ rfl
   show AV.tup [AV.agg [zD wP y.c.js,zD vH y.c.ags,iA y.c.per,iA y.c.cap,iA y.c.hold,iA y.c.lock,bA false,iA y.now,zD zJ y.ds,zD vB y.sg,zD wX y.sv,zD iA y.st,zD vL y.vw,.sl false (List.take ss.length ((ss.map jJ).set es.toNat (jJ (HW s eb))))],sd0,bA false]=_
   rw[zXk zI4]
 ·rw[zW8 (by rw[zXi];exact hr)];dsimp only;obtain⟨ek,es,ea,en,eb⟩:=e;dsimp only at*
  rcases hk with rfl|rfl|rfl
  all_goals
   unfold qK;dsimp only;by_cases h0:es<0
   ·(refine eM call15 λF hF=>?_)
    refine zU k1 ?_;refine zH [] rfl rfl ?_ rfl
    show AV.tup [AV.agg [zD wP y.c.js,zD vH y.c.ags,iA y.c.per,iA y.c.cap,iA y.c.hold,iA y.c.lock,bA false,iA y.now,zD zJ y.ds,zD vB y.sg,zD wX y.sv,zD iA y.st,zD vL y.vw,.sl false (List.take ss.length (ss.map jJ))],sd0,bA false]=_
    rw[zXk (zZa hsl)];rfl
   ·(refine eM call15 λF hF=>?_)
    refine zU k1 ?_;refine zH [] rfl rfl ?_ rfl
    show AV.tup [AV.agg [zD wP y.c.js,zD vH y.c.ags,iA y.c.per,iA y.c.cap,iA y.c.hold,iA y.c.lock,bA false,iA y.now,zD zJ y.ds,zD vB y.sg,zD wX y.sv,zD iA y.st,zD vL y.vw,.sl false (List.take ss.length (ss.map jJ))],sd0,bA false]=_
    rw[zXk (zZa hsl)];rfl
theorem zW6 (e:Ev) (hk:e.k=4∨e.k=5) (hb:BY e.y) (hl:e.y.length<=1000000):∃y':Cy,CyI y'/\y'.c=b.y.c/\(y'.now=b.y.now/\y'.sg=b.y.sg)/\zN 15 [cF b,qK e] [] (.tup [cF ⟨y',b.ss⟩,sd0,bA false]) []:=by
 obtain⟨N,hN,hN8⟩:=IV b h;have k1:=XU b h;have hsl:=zA jJ b.ss;obtain⟨y,ss⟩:=b;have hy:=h.y;dsimp only at *;obtain⟨ek,es,ea,en,eb⟩:=e;dsimp only at*
 rcases hk with rfl|rfl
 ·obtain⟨y',i1,i2,i3,kd⟩:=zKu y hy ea eb hb hl;refine⟨y',i1,i2,i3,?_⟩;have hrf:=hy.rf;have hrf':=i1.rf;have eC:uM y= .agg [zD wP y.c.js,zD vH y.c.ags,iA y.c.per,iA y.c.cap,iA y.c.hold,iA y.c.lock,bA false,iA y.now,zD zJ y.ds,zD vB y.sg,zD wX y.sv,zD iA y.st,zD vL y.vw]:=by rw[<-hrf];rfl
  have eC':uM y'= .agg [zD wP y'.c.js,zD vH y'.c.ags,iA y'.c.per,iA y'.c.cap,iA y'.c.hold,iA y'.c.lock,bA false,iA y'.now,zD zJ y'.ds,zD vB y'.sg,zD wX y'.sv,zD iA y'.st,zD vL y'.vw]:=by rw[<-hrf'];rfl
  rw[eC,eC']at kd;unfold cF XT at *;dsimp only at *;unfold qK;dsimp only;by_cases h0:es<0
  ·(refine eM call15 λF hF=>?_)
   refine yO (wW k1 kd) ?_;refine zH [] rfl rfl ?_ rfl
   show AV.tup [AV.agg [zD wP y'.c.js,zD vH y'.c.ags,iA y'.c.per,iA y'.c.cap,iA y'.c.hold,iA y'.c.lock,bA false,iA y'.now,zD zJ y'.ds,zD vB y'.sg,zD wX y'.sv,zD iA y'.st,zD vL y'.vw,.sl false (List.take ss.length (ss.map jJ))],sd0,bA false]=_
   rw[zXk (zZa hsl)];rfl
  ·(refine eM call15 λF hF=>?_)
   refine yO (wW k1 kd) ?_;refine zH [] rfl rfl ?_ rfl
   show AV.tup [AV.agg [zD wP y'.c.js,zD vH y'.c.ags,iA y'.c.per,iA y'.c.cap,iA y'.c.hold,iA y'.c.lock,bA false,iA y'.now,zD zJ y'.ds,zD vB y'.sg,zD wX y'.sv,zD iA y'.st,zD vL y'.vw,.sl false (List.take ss.length (ss.map jJ))],sd0,bA false]=_
   rw[zXk (zZa hsl)];rfl
 ·obtain⟨y',i1,i2,i3,kd⟩:=zD3 y hy ea en;refine⟨y',i1,i2,i3,?_⟩;have hrf:=hy.rf;have hrf':=i1.rf;have eC:uM y= .agg [zD wP y.c.js,zD vH y.c.ags,iA y.c.per,iA y.c.cap,iA y.c.hold,iA y.c.lock,bA false,iA y.now,zD zJ y.ds,zD vB y.sg,zD wX y.sv,zD iA y.st,zD vL y.vw]:=by rw[<-hrf];rfl
  have eC':uM y'= .agg [zD wP y'.c.js,zD vH y'.c.ags,iA y'.c.per,iA y'.c.cap,iA y'.c.hold,iA y'.c.lock,bA false,iA y'.now,zD zJ y'.ds,zD vB y'.sg,zD wX y'.sv,zD iA y'.st,zD vL y'.vw]:=by rw[<-hrf'];rfl
  rw[eC,eC']at kd;unfold cF XT at *;dsimp only at *;unfold qK;dsimp only;by_cases h0:es<0
  ·(refine eM call15 λF hF=>?_)
   refine yO (wW k1 kd) ?_;refine zH [] rfl rfl ?_ rfl
   show AV.tup [AV.agg [zD wP y'.c.js,zD vH y'.c.ags,iA y'.c.per,iA y'.c.cap,iA y'.c.hold,iA y'.c.lock,bA false,iA y'.now,zD zJ y'.ds,zD vB y'.sg,zD wX y'.sv,zD iA y'.st,zD vL y'.vw,.sl false (List.take ss.length (ss.map jJ))],sd0,bA false]=_
   rw[zXk (zZa hsl)];rfl
  ·(refine eM call15 λF hF=>?_)
   refine yO (wW k1 kd) ?_;refine zH [] rfl rfl ?_ rfl
   show AV.tup [AV.agg [zD wP y'.c.js,zD vH y'.c.ags,iA y'.c.per,iA y'.c.cap,iA y'.c.hold,iA y'.c.lock,bA false,iA y'.now,zD zJ y'.ds,zD vB y'.sg,zD wX y'.sv,zD iA y'.st,zD vL y'.vw,.sl false (List.take ss.length (ss.map jJ))],sd0,bA false]=_
   rw[zXk (zZa hsl)];rfl
theorem DT (ss:List Ss):cG ss ss.length=ss.map λs=>(VU s).1:=by
 unfold cG;apply zYp;intro j;rw[uX,zXd];by_cases hj:j<ss.length
 ·rw[zW9 hj,zW9 hj,zXr hj];simp only[Option.map_some,zXh,zXr hj,zZg]
 ·rw[zW8 hj,zX0 zB];rfl
theorem zW7 (hn:b.y.now<1000000000) (e:Ev) (hk:e.k=6):∃(y':Cy) (Td:List (List Ms)),MtP b.y y' (fE b.ss) Td/\zN 18 [uM b.y,zD jQ (fE b.ss)] [] (.tup [uM y',tdO Td (ZH (b.y.now+1) y'.vw)]) (tdH Td)/\zN 15 [cF b,qK e] [] (.tup [cF ⟨y',cG b.ss b.ss.length⟩,sdA (Td.map gQ) (gQ [ZH (b.y.now+1) y'.vw]),bA true]) []:=by
 obtain⟨N,hN,hN8⟩:=IV b h;have k1:=XU b h;have hlen:(fE b.ss).length=b.ss.length:=by unfold fE;rw[zXa]
 obtain⟨y',Td,hM,km⟩:=zJw b.y h.y hn (fE b.ss) (by rw[hlen];exact h.l) (λi hi=>by
  unfold fE at hi;obtain⟨s,hs,rfl⟩:=zYo.1 hi
  exact(zJ3 (h.s s hs)).2)
 have kd:=zJ0 b h y' Td hM (zTe km);refine⟨y',Td,hM,km,?_⟩;have hsl:=zA jJ b.ss;have hsl2:((cG b.ss b.ss.length).map jJ).length=b.ss.length:=by unfold cG;rw[zXa,vJ]
 clear km;obtain⟨y,ss⟩:=b;obtain⟨ek,es,ea,en,eb⟩:=e;dsimp only at *;subst hk;unfold sdA at *;generalize Td.map gQ=S at *;generalize gQ [ZH (y.now+1) y'.vw]=fb at *;unfold cF XT at *;dsimp only at *;rw[show zD jJ (cG ss ss.length)= .sl false ((cG ss ss.length).map jJ)from rfl];generalize (cG ss ss.length).map jJ=X at *;unfold qK;dsimp only;by_cases h0:es<0
 ·(refine eM call15 λF hF=>?_)
  refine yO (wW k1 kd) ?_;refine zH [] rfl rfl ?_ rfl
  show AV.tup [AV.agg [zD wP y'.c.js,zD vH y'.c.ags,iA y'.c.per,iA y'.c.cap,iA y'.c.hold,iA y'.c.lock,bA false,iA y'.now,zD zJ y'.ds,zD vB y'.sg,zD wX y'.sv,zD iA y'.st,zD vL y'.vw,.sl false (List.take ss.length X)],AV.agg [zD (zD yA) S,zD yA fb],bA true]=_
  rw[zXk (zZa hsl2)]
 ·(refine eM call15 λF hF=>?_)
  refine yO (wW k1 kd) ?_;refine zH [] rfl rfl ?_ rfl
  show AV.tup [AV.agg [zD wP y'.c.js,zD vH y'.c.ags,iA y'.c.per,iA y'.c.cap,iA y'.c.hold,iA y'.c.lock,bA false,iA y'.now,zD zJ y'.ds,zD vB y'.sg,zD wX y'.sv,zD iA y'.st,zD vL y'.vw,.sl false (List.take ss.length X)],AV.agg [zD (zD yA) S,zD yA fb],bA true]=_
  rw[zXk (zZa hsl2)]
end
section
structure DoR where
 b:UC
 S:List (List Int)
 f:List Int
 fl:Bool
structure zTw (b:UC) (e:Ev) (r:DoR):Prop where
 i:BrI r.b
 c:r.b.y.c=b.y.c
 n:b.y.now<=r.b.y.now/\r.b.y.now<=b.y.now+1
 s:e.k=1∨e.k=2∨e.k=3->r=⟨doS b e,[],[],false⟩
 t:r.fl=true->r.S.length=b.ss.length
 f6:r.fl=true->e.k=6
 g:r.fl=false->r.b.y.sg=b.y.sg
 nw:r.fl=false->r.b.y.now=b.y.now
 t6:e.k=6->∃(y':Cy) (Td:List (List Ms)),MtP b.y y' (fE b.ss) Td/\r=⟨⟨y',cG b.ss b.ss.length⟩,Td.map gQ,gQ [ZH (b.y.now+1) y'.vw],true⟩/\zN 18 [uM b.y,zD jQ (fE b.ss)] [] (.tup [uM y',tdO Td (ZH (b.y.now+1) y'.vw)]) (tdH Td)
 k:zN 15 [cF b,qK e] [] (.tup [cF r.b,sdA r.S r.f,bA r.fl]) []
theorem zV6 {e:Ev} (he:BY e.y) {s:Ss} (h:SsI s):SsI (ssF e s):=by
 unfold ssF;split
 ·split
  ·exact h
  ·exact⟨kC,zXp _⟩
 ·split
  ·exact⟨kC,zXp _⟩
  ·exact zTh h he
theorem zV7 {b:UC} (h:BrI b) {e:Ev} (he:BY e.y):BrI (doS b e):=by
 unfold doS;split
 ·refine⟨h.y,by dsimp only;rw[zY3];exact h.l,λs hs=>?_⟩;rename_i hr;unfold inR at hr;rw[zXi]at hr
  rcases yAk hs with hs|rfl
  ·exact h.s s hs
  ·exact zV6 he (h.s _ (yC b.ss _ zB))
 ·exact h
theorem zV8 (b:UC) (h:BrI b) (hn:b.y.now<1000000000) (e:Ev) (he:VW e):∃r,zTw b e r:=by
 have hk:=he.k;have hyn:=he.n;have hcs:(e.k=1∨e.k=2∨e.k=3)∨(e.k=4∨e.k=5)∨e.k=6:=by omega
 rcases hcs with hk|hk|hk
 ·have k:=zW5 b h e hk he.y zB
  have e1:(doS b e).y=b.y:=by unfold doS;split<;>rfl
  exact⟨⟨doS b e,[],[],false⟩,zV7 h he.y,by dsimp only;rw[e1],by dsimp only;rw[e1];omega,λ_=>rfl,λh=>(by cases h),λh=>(by cases h),λ_=>by dsimp only;rw[e1],λ_=>by dsimp only;rw[e1],λh=>zB,k⟩
 ·obtain⟨y',i1,i2,i3,k⟩:=zW6 b h e hk he.y zB;exact⟨⟨⟨y',b.ss⟩,[],[],false⟩,⟨i1,by dsimp only;rw[i2];exact h.l,h.s⟩,i2,by have:=i3.1;dsimp only;omega,λh=>zB,λh=>(by cases h),λh=>(by cases h),λ_=>i3.2,λ_=>i3.1,λh=>zB,k⟩
 ·obtain⟨y',Td,hM,km,k⟩:=zW7 b h hn e hk;have hll:(fE b.ss).length=b.ss.length:=by unfold fE;rw[zXa]
  refine⟨⟨⟨y',cG b.ss b.ss.length⟩,Td.map gQ,gQ [ZH (b.y.now+1) y'.vw],true⟩,⟨hM.i,?_,λs hs=>?_⟩,hM.c,by have:=hM.n;dsimp only;omega,λh=>zB,λ_=>by dsimp only;rw[zXa,hM.l,hll],λ_=>hk,λh=>(by cases h),λh=>(by cases h),λ_=>⟨y',Td,hM,rfl,km⟩,k⟩
  ·dsimp only;rw[hM.c,DT b h,zXa];exact h.l
  ·dsimp only at hs;rw[DT b h]at hs;obtain⟨s0,hs0,rfl⟩:=zYo.1 hs;exact(zJ3 (h.s s0 hs0)).1
open Classical in
noncomputable def bU (b:UC) (e:Ev):DoR:=if h:∃r,zTw b e r then h.choose else⟨b,[],[],false⟩
theorem XV {b:UC} (h:BrI b) (hn:b.y.now<1000000000) {e:Ev} (he:VW e):zTw b e (bU b e):=by
 have hx:=zV8 b h hn e he;unfold bU;rw[yCn hx];exact hx.choose_spec
noncomputable def fG:UC->List Ev->UC
 |b,[]=>b
 |b,e::l=>fG (bU b e).b l
noncomputable def SP:UC->List Ev->List (List (List Int)×List Int)
 |_,[]=>[]
 |b,e::l=>(if(bU b e).fl=true then [((bU b e).S,(bU b e).f)]else [])++SP (bU b e).b l
theorem zB9 (b:UC) (l m:List Ev):fG b (l++m)=fG (fG b l) m:=by
 induction l generalizing b with
 |nil=>rfl
 |cons e l ih=>exact ih _
theorem zO3 (b:UC) (l m:List Ev):SP b (l++m)=SP b l++SP (fG b l) m:=by
 induction l generalizing b with
 |nil=>rfl
 |cons e l ih=>
  show _++SP _ (l++m)=_
  rw[ih,<-zXy];rfl
theorem zCa:∀(l:List Ev) {b:UC},BrI b->(∀e∈l,VW e)->b.y.now+(l.length:Int)<1000000000->BrI (fG b l)/\(fG b l).y.c=b.y.c/\b.y.now<=(fG b l).y.now/\(fG b l).y.now<=b.y.now+(l.length:Int)/\(SP b l).length<=l.length
 | [],b,h,_,_=>⟨h,rfl,zZf _,by simp[fG],zXc _⟩
 | e::l,b,h,he,hn=>by
  rw[zXl]at hn;have k:=XV h zB (he e zS);have kn:=k.n;obtain⟨i1,i2,i3,i4,i5⟩:=zCa l k.i (λx hx=>he x VK) zB;refine⟨i1,i2.trans k.c,?_,?_,?_⟩
  ·show b.y.now<=(fG (bU b e).b l).y.now
   omega
  ·show(fG (bU b e).b l).y.now<=_
   rw[zXl];omega
  ·show((if(bU b e).fl=true then [((bU b e).S,(bU b e).f)]else [])++SP (bU b e).b l).length<=_
   rw[zXb,zXl];split
   ·simp only[zXl,zYa];omega
   ·simp only[zYa];omega
def sdP (p:List (List Int)×List Int):AV:=sdA p.1 p.2
theorem zP8 (c:Cf) (hc:IX c) (l:List Ev) (hl:l.length<=1000000) (he:∀e∈l,VW e):zN 24 [wT c,zD qK l] [] (zD sdP (SP (uT c) (l.take 400))) []:=by
 have k1:=zB7 c hc;have hb:=DS c hc;have hll:=zA qK l;have h0:(uT c).y.now=0:=rfl;have ht4:(l.take 400).length<=400:=by rw[zXw];omega
 have hm4:∀e∈l.take 400,VW e:=λe h=>he e (zY1 h)
 unfold cF XT at k1;refine eM call24 λF hF=>?_
 refine zU k1 ?_
 have tk4:l.take (min ((l.map qK).length:Int) 400).toNat=l.take 400:=by
  rw[zXa];by_cases h:l.length<=400
  ·rw[zXk zB,zXk zB]
  ·congr 1
   omega
 rw[tk4];have hl4:=zA qK (l.take 400);generalize l.take 400=l4 at *;refine xG 6 1001 2 rfl rfl rfl ?_;refine yB (l4) [5,1001] [] [5,18,19] [6,20,5,18,19] rfl (λi pre T U=>⟨(6,.ref 1001 0 ((SP (uT c) pre).map sdP).length)::(20,iA i)::T,(5,.box [zD wP (fG (uT c) pre).y.c.js,zD vH (fG (uT c) pre).y.c.ags,iA (fG (uT c) pre).y.c.per,iA (fG (uT c) pre).y.c.cap,iA (fG (uT c) pre).y.c.hold,iA (fG (uT c) pre).y.c.lock,bA false,iA (fG (uT c) pre).y.now,zD zJ (fG (uT c) pre).y.ds,zD vB (fG (uT c) pre).y.sg,zD wX (fG (uT c) pre).y.sv,zD iA (fG (uT c) pre).y.st,zD vL (fG (uT c) pre).y.vw,zD jJ (fG (uT c) pre).ss])::(1001,.arr 2 ((SP (uT c) pre).map sdP) true)::U⟩) ?_;(conv=>whnf);refine⟨by rfl,?_,?_⟩
 ·intro i pre x post hx hi;have hy:=yP qK hx hi;have hlt:=yF hx hi;have hpm:∀e∈pre,VW e:=λe h=>hm4 e (by rw[hx];simp[h])
  have hpl:pre.length<=l4.length:=by rw[hx];simp
  have hxe:=hm4 x (by rw[hx];simp);obtain⟨p1,p2,p3,p4,p5⟩:=zCa pre hb hpm (by rw[h0];omega);have D:=XV p1 zB hxe;have kd:=D.k;have e1:fG (uT c) (pre++[x])=(bU (fG (uT c) pre) x).b:=zB9 _ _ _
  have e2:SP (uT c) (pre++[x])=SP (uT c) pre++(if(bU (fG (uT c) pre) x).fl=true then [((bU (fG (uT c) pre) x).S,(bU (fG (uT c) pre) x).f)]else []):=by
   rw[zO3]
   congr 1
   show _++[]=_
   rw[zX8]
  rw[e1,e2,zXf];have hsm:=zA sdP (SP (uT c) pre);clear D e1 e2 hx hpm;generalize (SP (uT c) pre).map sdP=X at *;unfold cF XT qK sdA at kd;unfold qK at hy;generalize bU (fG (uT c) pre) x=r at *;generalize fG (uT c) pre=b0 at *;obtain⟨rb,S,f,fl⟩:=r;dsimp only at *;cases fl
  ·rw[zW8 zXx,zY6,zX8];refine zU kd ?_;rfl
  ·rw[zW9 rfl,show [(S,f)].map sdP=[.agg [zD (zD yA) S,zD yA f]]from rfl];refine zU kd ?_;rfl
 ·(refine WW ?_)
  exact zH [] rfl rfl (zX7 (AV.sl false) zXe) rfl
end
noncomputable def NV:UC->List Ev->List (List Vw)
 |_,[]=>[]
 |b,e::l=>(if(bU b e).fl=true then [(bU b e).b.y.vw]else [])++NV (bU b e).b l
theorem zO4 (b:UC) (l m:List Ev):NV b (l++m)=NV b l++NV (fG b l) m:=by
 induction l generalizing b with
 |nil=>rfl
 |cons e l ih=>
  show _++NV _ (l++m)=_
  rw[ih,<-zXy];rfl
theorem zCb:∀(l:List Ev) (b:UC),(NV b l).length<=l.length
 | [],_=>zXc _
 |e::l,b=>by
  have ih:=zCb l (bU b e).b
  show((if(bU b e).fl=true then [(bU b e).b.y.vw]else [])++NV (bU b e).b l).length<=_
  rw[zXb,zXl];split
  ·simp only[zXl,zYa];omega
  ·simp only[zYa];omega
def vsA (v:List Vw):AV:=zD vL v
theorem zO5 (c:Cf) (hc:IX c) (l:List Ev) (hl:l.length<=1000000) (he:∀e∈l,VW e):zN 31 [wT c,zD qK l] [] (zD vsA (NV (uT c) (l.take 400))) []:=by
 have k1:=zB7 c hc;have hb:=DS c hc;have hll:=zA qK l;have h0:(uT c).y.now=0:=rfl;have ht4:(l.take 400).length<=400:=by rw[zXw];omega
 have hm4:∀e∈l.take 400,VW e:=λe h=>he e (zY1 h)
 unfold cF XT at k1;refine eM call31 λF hF=>?_
 refine zU k1 ?_
 have tk4:l.take (min ((l.map qK).length:Int) 400).toNat=l.take 400:=by
  rw[zXa];by_cases h:l.length<=400
  ·rw[zXk zB,zXk zB]
  ·congr 1
   omega
 rw[tk4];have hl4:=zA qK (l.take 400);generalize l.take 400=l4 at *;refine xG 6 1001 1 rfl rfl rfl ?_;refine yB (l4) [5,1001] [] [5,18,19] [6,20,5,18,19] rfl (λi pre T U=>⟨(6,.ref 1001 0 ((NV (uT c) pre).map vsA).length)::(20,iA i)::T,(5,.box [zD wP (fG (uT c) pre).y.c.js,zD vH (fG (uT c) pre).y.c.ags,iA (fG (uT c) pre).y.c.per,iA (fG (uT c) pre).y.c.cap,iA (fG (uT c) pre).y.c.hold,iA (fG (uT c) pre).y.c.lock,bA false,iA (fG (uT c) pre).y.now,zD zJ (fG (uT c) pre).y.ds,zD vB (fG (uT c) pre).y.sg,zD wX (fG (uT c) pre).y.sv,zD iA (fG (uT c) pre).y.st,zD vL (fG (uT c) pre).y.vw,zD jJ (fG (uT c) pre).ss])::(1001,.arr 1 ((NV (uT c) pre).map vsA) true)::U⟩) ?_;(conv=>whnf);refine⟨by rfl,?_,?_⟩
 ·intro i pre x post hx hi;have hy:=yP qK hx hi;have hlt:=yF hx hi;have hpm:∀e∈pre,VW e:=λe h=>hm4 e (by rw[hx];simp[h])
  have hpl:pre.length<=l4.length:=by rw[hx];simp
  have hxe:=hm4 x (by rw[hx];simp);obtain⟨p1,p2,p3,p4,p5⟩:=zCa pre hb hpm (by rw[h0];omega);have D:=XV p1 zB hxe;have kd:=D.k;have e1:fG (uT c) (pre++[x])=(bU (fG (uT c) pre) x).b:=zB9 _ _ _
  have e2:NV (uT c) (pre++[x])=NV (uT c) pre++(if(bU (fG (uT c) pre) x).fl=true then [(bU (fG (uT c) pre) x).b.y.vw]else []):=by
   rw[zO4]
   congr 1
   show _++[]=_
   rw[zX8]
  have hvl:=zCb pre (uT c);have Db:=D.i.y.b;have cv:=ZK _ Db.v Db.vb;rw[e1,e2,zXf];have hsm:=zA vsA (NV (uT c) pre);clear D Db e1 e2 hx hpm;generalize (NV (uT c) pre).map vsA=X at *;unfold cF XT qK sdA at kd;unfold qK at hy;generalize bU (fG (uT c) pre) x=r at *;generalize fG (uT c) pre=b0 at *;obtain⟨rb,S,f,fl⟩:=r;dsimp only at *;cases fl
  ·rw[zW8 zXx,zY6,zX8];refine zU kd ?_;rfl
  ·rw[zW9 rfl,show [rb.y.vw].map vsA=[zD vL rb.y.vw]from rfl];refine WLc (wW kd cv) ?_;rfl
 ·(refine WW ?_)
  exact zH [] rfl rfl (zX7 (AV.sl false) zXe) rfl
def OT (k:Int):Ev:=⟨k,0,0,0,[]⟩
theorem zCc {k:Int} (h:1<=k/\k<=6):VW (OT k):=⟨h,by dsimp only[OT];omega,by dsimp only[OT];omega,by dsimp only[OT];omega,kC,zXp _⟩
theorem zD8 (c:Cf) (h:IX c):∃(S:List (List Int)) (f q1 q2:List Int),SP (uT c) [OT 1,OT 6]=[(S,f)]/\0<S.length/\(S.length:Int)=jM c.ags c.ags.length/\S.getD 0 []=90::165::1::17::q1/\7<=q1.length/\f=90::165::1::21::q2/\7<=q2.length:=by
 have hb:=DS c h;have hw:=h.ag;have hsb:=kY hw c.ags.length (zXc _);have hca:=h.a;have hnl:(uT c).ss.length=(jM c.ags c.ags.length).toNat:=by unfold uT;exact zYz
 have d1:=XV hb (by show(0:Int)<_;omega) (zCc (k:=1) zB);have e1:=d1.s (.inl rfl)
 have hin:inR (uT c) (OT 1).s=true:=by
  unfold inR;rw[zXi];dsimp only[OT];omega
 have e2:doS (uT c) (OT 1)=⟨(uT c).y,(uT c).ss.set 0 ⟨true,false,[],false⟩⟩:=by
  unfold doS;rw[zW9 hin]
  have:(uT c).ss.getD 0 default=⟨false,false,[],false⟩:=by
   unfold uT;dsimp only;rw[zXh,zY4,zW9 zB];rfl
  show(⟨_,(uT c).ss.set 0 (ssF (OT 1) ((uT c).ss.getD 0 default))⟩:UC)=_
  rw[this];rfl
 have i1:=d1.i;rw[e1]at i1;dsimp only at i1;have hn1:(doS (uT c) (OT 1)).y.now=0:=by rw[e2];rfl
 have d2:=XV i1 (by rw[hn1];omega) (zCc (k:=6) zB);obtain⟨y',Td,hM,e3,_⟩:=d2.t6 rfl
 have er:SP (uT c) [OT 1,OT 6]=[(Td.map gQ,gQ [ZH ((doS (uT c) (OT 1)).y.now+1) y'.vw])]:=by
  unfold SP;rw[e1];dsimp only;rw[zW8 zXx,zZj];unfold SP;rw[e3];dsimp only;rw[zW9 rfl];rfl
 have hll:(fE (doS (uT c) (OT 1)).ss).length=(uT c).ss.length:=by unfold fE;rw[zXa,e2,zY3]
 have hTl:=hM.l
 have hi0:(fE (doS (uT c) (OT 1)).ss).getD 0 default=⟨true,[]⟩:=by
  unfold fE;rw[e2,zXh,zXd,zYw zB];rfl
 obtain⟨l1,l2,d,t1,t2,t3⟩:=hM.on 0 zB (by rw[hi0]);rw[hi0]at t2;have t2':l1=[]:=zYc t2;subst t2';rw[zZj]at t1;have b1:=(DH _ t3).1.2 (by simp[OV,stM]);have b2:=(DH _ hM.f).1.2 (by simp[ZH]);obtain⟨q1,b1,b3⟩:=b1;obtain⟨q2,b2,b4⟩:=b2;refine⟨_,_,q1++gQ l2,q2++[],er,by rw[zXa];omega,by rw[zXa,hTl,hll,hnl];omega,?_,by rw[zXb];omega,?_,by rw[zXb];omega⟩
 ·rw[zXh,zXd];rw[zXh]at t1
  cases hg:Td[0]? with
  |none=>
   rw[hg]at t1;cases t1
  |some x=>
   rw[hg]at t1;have t1:x=_:=t1
   show gQ x=_
   rw[t1]
   show SJ _++gQ l2=_
   rw[b1];rfl
 ·show SJ _++[]=_
  rw[b2];rfl
theorem zKv:zN 30 [] [] (bA true) []:=by
 have kn:=zPu [] zS;have kc:=GN d00 63;have hv:=zO8 d00 63 zB
 have k:=zP8 (QG d00 63) hv [OT 1,OT 6] zS (λe he=>by
  simp only[zYq,yBd,yCo]at he
  rcases he with rfl|rfl
  ·exact zCc zB
  ·exact zCc zB)
 obtain⟨S,f,q1,q2,h1,h2,h3,h4,h5,h6,h7⟩:=zD8 (QG d00 63) hv;rw[show([OT 1,OT 6]:List Ev).take 400=[OT 1,OT 6]from rfl,h1]at k;rw[show jM (QG d00 63).ags (QG d00 63).ags.length=1 by rfl]at h3;generalize QG d00 63=c at *;generalize cfD d00 63=e0 at*
 obtain⟨s0,S,rfl⟩:∃s0 S',S=s0::S':=by
  cases S with
  |nil=>cases h2
  |cons s S=>exact⟨s,S,rfl⟩
 have h4:s0=_:=h4;subst h4;unfold wT at *;have hq1:=zA yA q1;rw[show zD sdP [(((90::165::1::17::q1):List Int)::S,f)]= .sl false [.agg [.sl false (.sl false (yA 90::yA 165::yA 1::yA 17::q1.map yA)::S.map (zD yA)),zD yA f]]from rfl]at k;have hSl:=zA (zD yA) S;generalize S.map (zD yA)=Sm at *;generalize q1.map yA=Q1 at *;rw[zXl]at h2 h3;have hz0:Sm.length=0:=by omega
 have hz1:(AV.sl false (yA 90::yA 165::yA 1::yA 17::Q1)::Sm).length=1:=by rw[zXl,hz0]
 have hz2:(yA 90::yA 165::yA 1::yA 17::Q1).length=q1.length+4:=by simp only[zXl];omega
 refine eM call30 λF hF=>?_
 (have zc1:=kn;have zc2:=kc;have zc3:=k;(repeat' (first|refine aU ?_|refine xQ (λhc=>?_) (λhc=>?_)|refine wD (λhc=>?_)|(refine zE ?_;first|(refine yT ?_;refine SI 4 rfl rfl rfl ?_;refine SI 5 rfl rfl rfl ?_;refine qX tok rfl rfl ?_))|refine SB ?_|fail))<;>clear zc1 zc2 zc3)
 exact zK
end Av
end Go.Proofs.YtmamjhmoegjapaaGreat
