/- Part 26. -/
import Derived.Test.YtaglbcjljlkjcaaGreatV25
namespace Go.Proofs.YtaglbcjljlkjcaaGreat.Av
open Tryz
set_option linter.all false
set_option maxRecDepth 4000
set_option maxHeartbeats 8000000
open List renaming length->ln,take->pg,getD->pi
open Inhabited renaming default->dd
variable {post gd:List xU}{x:xU}
def aY (y:Cy) (j p:Int):Cy:=if(0<=j/\j<(ln y.c.js:Int))/\0<=p/\p<((y.c.js.getD j.toNat dd).ph.length:Int)then⟨y.c,false,y.ga,y.ds,y.sg,y.sv,y.st.set j.toNat p,y.vw⟩else y
def Zx {y:Cy} (h:VO y) (j p:Int):VO (aY y j p):=by
 unfold aY;split
 .exact⟨h.v,rfl,h.n0,h.dl,h.di,h.dg,h.sc,h.gl,h.sl,by dsimp only;rw[zBn];exact h.tl,h.wl,h.wb,h.j⟩
 .exact h
def drD (d:xU) (x:List Int):xU:=⟨d.rg,d.rq,d.dr++[x],d.au⟩
def fA (y:Cy) (a:Int) (x:List Int):Cy:=if(0<=a/\a<(ln y.ds:Int))/\x.length=8/\(y.ds.getD a.toNat dd).dr.length<8 then⟨y.c,false,y.ga,y.ds.set a.toNat (drD (y.ds.getD a.toNat dd) x),y.sg,y.sv,y.st,y.vw⟩else y
theorem Yx {y:Cy} (h:VO y) {a:Int} {d:List Int} (hd:BY d):VO (fA y a d):=by
 unfold fA;split
 case isFalse=>exact h
 rename_i hc;obtain⟨⟨a0,C⟩,E,G⟩:=hc;have A:a.toNat<ln y.ds:=by omega
 generalize a.toNat=n at *;have u:=h.di _ (zQ y.ds n A);refine⟨h.v,rfl,h.n0,by dsimp only;rw[zBn];exact h.dl,λz B=>?_,λi hi=>?_,λz B=>?_,h.gl,h.sl,h.tl,h.wl,h.wb,h.j⟩
 .rcases zC1 B with B|rfl
  .exact h.di z B
  .refine⟨u.b,u.v,u.q,u.lg,u.a,u.n,u.t8,u.br,u.bb,u.bl,u.au,?_,λx hx=>?_,u.vh⟩
   .grind [BY,fA,drD,List.length_append,List.length_cons,List.length_nil]
   .rcases zAy.1 hx with hx|hx
    .exact u.dr x hx
    all_goals grind
 .dsimp only at hi⊢;rw[zBn]at hi;rw[KL _ _ _ _ hi];split
  .rename_i e;rw[<-e];exact h.dg n A
  .exact h.dg i hi
 .rcases zC1 B with B|rfl
  .exact h.sc z B
  .exact h.sc (y.ds.getD n dd) (zQ y.ds n A)
def Xh (y:Cy) (h:VO y) (j p:Int):∃C:Cy,VO C/\C=aY y j p/\zO 27 [vN y,iA j,iA p] [] (vN C) []:=by
 have hb:=h.b;have z:=h.rf;have M:=zA xC y.c.js;have R:=zA iA y.st;have I:=h.tl;have B:vN y= .agg [zE xC y.c.js,zE wP y.c.ags,iA y.c.per,iA y.c.cap,iA y.c.hold,iA y.c.lock,bA false,iA y.ga,zE zN y.ds,zE wD y.sg,zE xZ y.sv,zE iA y.st,zE wE y.vw]:=by rw[<-z];rfl
 by_cases hj:0<=j/\j<(ln y.c.js:Int)
 case neg=>
  refine⟨y,h,by unfold aY;rw[hW (λh=>hj h.1)],?_⟩;have u:=ZE y hb;rw[B]at u⊢;by_cases L:j<0
  all_goals
   (refine eM call27 λF hF=>?_)
   exact nl u
 obtain⟨j0,j1⟩:=hj;have A:=yC xC y.c.js j j0 j1;have O:=zA yU (y.c.js.getD j.toNat dd).ph;by_cases G:0<=p/\p<((y.c.js.getD j.toNat dd).ph.length:Int)
 case neg=>
  refine⟨y,h,by unfold aY;rw[hW (λh=>G h.2)],?_⟩;have u:=ZE y hb;rw[B]at u⊢;generalize y.c.js.getD j.toNat dd=U at *;unfold xC at A;by_cases L:p<0
  all_goals
   (refine eM call27 λF hF=>?_)
   exact nl u
 obtain⟨V,W⟩:=G;refine⟨_,Zx h j p,rfl,?_⟩;rw[show aY y j p=⟨y.c,false,y.ga,y.ds,y.sg,y.sv,y.st.set j.toNat p,y.vw⟩ by unfold aY;rw[Os ⟨⟨j0,j1⟩,V,W⟩]];have u:=VZ y hb;unfold OY OZ eJ at u;rw[B,z]at u;rw[B];have E:(y.st.set j.toNat p).map iA=(y.st.map iA).set j.toNat (iA p):=zBt ..;rw[show vN ⟨y.c,false,y.ga,y.ds,y.sg,y.sv,y.st.set j.toNat p,y.vw⟩= .agg [zE xC y.c.js,zE wP y.c.ags,iA y.c.per,iA y.c.cap,iA y.c.hold,iA y.c.lock,bA false,iA y.ga,zE zN y.ds,zE wD y.sg,zE xZ y.sv,.sl false ((y.st.map iA).set j.toNat (iA p)),zE wE y.vw] by rw[<-E];rfl];clear E;have S:=yC iA y.st j j0 zB;generalize y.c.js.getD j.toNat dd=U at *;unfold xC at A;refine eM call27 λF hF=>?_
 refine zP u ?_;refine zH [] Z Z ?_ Z
 show AV.agg [_,_,_,_,_,_,_,_,.sl false (pg (y.ds.map zN).length (y.ds.map zN)),.sl false (pg (y.sg.map wD).length (y.sg.map wD)),.sl false (pg (y.sv.map xZ).length (y.sv.map xZ)),.sl false (pg (y.st.map iA).length ((y.st.map iA).set j.toNat (iA p))),_]=_
 rw[zAa,zAa,zAa,zAl Rj];rfl
def Zp (l:List (List Int)) (hl:ln l<=1073741824):zO 170 [zE uE l] [] (.ref 1005 0 (l.map uE).length) [(1005,.arr 1 (l.map uE) false)]:=by
 have u:=zA uE l;refine eM call170 λF hF=>?_
 refine xW 0 Z (λcap hx=>?_) ?_
 .have:l=[]:=by simpa using hx
  subst this
  (repeat' (first|refine Ze ?_|apply yY|apply xN|intro hc|fail))
  refine uN 2 1005 1 Z Z Z (xP ?_);exact zV [1005] Z Z Z Z
 .repeat' (first|(apply zG;first|refine vT tok Z Z ?_|(apply vE;refine wO (xQ tok (.inl ⟨rfl,rfl⟩) Z Z Z Z) Z ?_)|(apply yL;refine qH (nw:=[1005]) (xD tok 1005 (xs:=[]) Z Z Z Z Z Z Z Z Z) Z Z Z ?_)|(apply yI;refine wU tok Z Z Z Z Z Z Z (yG _ _ (λ_=>rfl)) Z Z Z zB Z ?_)|apply qV)|(first|apply wF|apply wB|refine uW Z ?_|refine yT Z ?_|refine yH Z ?_|refine wL Z (λhc=>?_) λhc=>?_|apply xO|apply xP|apply wA|apply xE))
  exact zV [1005] Z Z Z Z
def PI (d:xU):AV:=wG d.rg (zE yS d.rq) (.ref 1005 0 (d.dr.map uE).length) (zE bA d.au)
def Yp (d:xU) (hb:cY d):zO 106 [zN d] [] (PI d) [(1005,.arr 1 (d.dr.map uE) false)]:=by
 have y:=Pe d.rg hb.rg;have M:=hb.q;have A:=hb.n;have z:=hb.a;have G:=MZ d.rq zB;have I:=Zp d.dr zB;have L:=BT d.au zB;have C:=zA yS d.rq;have B:=zA uE d.dr;unfold PI zN wG;unfold kD at y;refine eM call106 λF hF=>?_
 refine yB (xH y G) ?_;refine zM ((d.rq.map yS).length) [1001,1,2] [1,2] [1,2,15] [16,1,2,15] Z (λi T U=>⟨(16,iA i)::T,(1001,.arr 5 (dI i (d.rq.map yS)) false)::U⟩) (Lq ?_ ?_)
 .intro i hi;have hi':i<ln d.rq:=by omega
  have E:(dI i (d.rq.map yS))[i]? =some (yS (d.rq.getD i dd)):=zJ yS d.rq i hi';have e:=fW yS d.rq i hi';have u:=RD (d.rq.getD i dd).legs (hb.g (d.rq.getD i dd) QT);generalize (d.rq.getD i dd)=t,dI i (d.rq.map yS)=xs,dI (i+1) (d.rq.map yS)=ys at *;subst e;refine zP u ?_;rfl
 ·(refine zP I ?_)
  refine zM ((d.dr.map uE).length) [1005,1,2,1001] [1,2,1001] [1,2,38] [39,1,2,38] Z (λi T U=>⟨(39,iA i)::T,(1005,.arr 1 (dI i (d.dr.map uE)) false)::U⟩) (Lq ?_ ?_)
  .intro i hi;have hi':i<ln d.dr:=by omega
   have E:(dI i (d.dr.map uE))[i]? =some (uE (d.dr.getD i dd)):=zJ uE d.dr i hi';have e:=fW uE d.dr i hi';have u:=jU (d.dr.getD i dd) (by have:=hb.e (d.dr.getD i dd) QT;omega);generalize (d.dr.getD i dd)=t,dI i (d.dr.map uE)=xs,dI (i+1) (d.dr.map uE)=ys at *;subst e;refine zP u ?_;rfl
  ·(refine zP L ?_)
   refine zH [1005] Z Z ?_ Z
   show wG d.rg (.sl false ((d.rq.map yS).take (d.rq.map yS).length)) (.ref 1005 0 (d.dr.map uE).length) (zE bA d.au)=_
   rw[zAa];rfl
theorem FO (K:List Nat) (h:yM):∀l:List xU,qG K h (l.map zN)=l.map zN
 | []=>rfl
 |r::l=>by rw[zBc,qG,FO K h l];rfl
theorem LG (K:List Nat) (h:yM):∀l:List xU,wS K h (l.map zN)=l.map zN
 | []=>rfl
 |r::l=>by rw[zBc,wS,LG K h l];rfl
theorem RR:∀l:List xU,wM (l.map zN)=true
 | []=>rfl
 |r::l=>by rw[zBc,wM,RR l];rfl
def jF (gd:List xU) (x:xU) (post:List xU):List AV:=gd.map zN++PI x::post.map zN
def LH (gd:List xU) (x:xU) (post:List xU):(jF gd x post).length=ln gd+1+ln post:=by simp[jF];omega
def Xp {K:List Nat} (y:K.contains 1005=true) (h:yM) (gd:List xU) (x:xU) (post:List xU) (b:Bool):qD K h (.arr 17 (jF gd x post) ⟨b,true⟩)= .arr 17 (jF gd x post) ⟨b,true⟩:=by
 have e:qG K h (jF gd x post)=jF gd x post:=by
  unfold jF;rw[TB,FO,qG,FO]
  congr 2
  have u:wR K h (.ref 1005 0 (x.dr.map uE).length)= .ref 1005 0 (x.dr.map uE).length:=by
   unfold wR;rw[y];rfl
  show AV.agg [_,_,_,_,_,_,_,_,_,_,_,_,_,_,_,wR K h (.ref 1005 0 (x.dr.map uE).length),_]=_
  rw[u];rfl
 have z:wM (jF gd x post)=false:=by
  unfold jF;rw[aI,RR,wM];rfl
 simp_all [yM,qD,jF]
def Mv (gd:List xU) (x:xU) (post:List xU):(jF gd x post)[ln gd]? =some (PI x):=by grind [jF,PI]
def Lv {l:List xU} (u:l=gd++x::post):(l.map zN).set (ln gd) (PI x)=jF gd x post:=by simp_all [zN,PI,jF]
def Wh {l:List xU} (u:l=gd++x::post) {i:Nat} (h1:ln gd<i) (h2:i<ln l):(jF gd x post)[i]? =some (zN (l.getD i dd)):=by grind [jF,zN]
def Y3 (y:Cy) (gd:List xU) (x:xU) (post:List xU):AV:=eJ y.c y.rf y.ga (.ref 1011 0 (ln y.ds)) (zE wD y.sg) (zE xZ y.sv) (zE iA y.st) (zE wE y.vw)
theorem Wp (y:Cy) (h:xw y) (gd:List xU) (x:xU) (post:List xU) (O:y.ds=gd++x::post):zO 44 [vN y] [] (Y3 y gd x post) [(1011,.arr 17 (jF gd x post) ⟨false,true⟩),(1005,.arr 1 (x.dr.map uE) false)]:=by
 have k1:=RW y.ds (by have:=h.d;omega);have k2:=RX y.sg (by have:=h.g;omega);have k3:=RY y.sv (by have:=h.s;omega);have k4:=RZ y.st (by have:=h.t;omega);have k5:=JL y.vw h.v h.vb;have S:=zA zN y.ds;have L:=zA wD y.sg;have M:=zA xZ y.sv;have ag:=zA iA y.st;have hd:=h.d;have hg:=h.g;have hs:=h.s;have V:ln y.ds=ln gd+1+ln post:=by rw[O];simp;omega
 have X:=LH gd x post;have A:∀(K:List Nat) (H:yM),K.contains 1005=true->qD K H (.arr 17 (jF gd x post) ⟨false,true⟩)= .arr 17 (jF gd x post) ⟨false,true⟩:=λK H W=>Xp W H gd x post false
 unfold vN Y3 eJ;refine eM call44 λF hF=>?_
 refine zP k1 ?_;rw[S]
 refine wH (λn st=>∃i,n+i=ln y.ds/\st=if i<=ln gd then(⟨[(13,iA i),(1,.ptr 1 0 0),(2,.ptr 2 0 0),(12,iA (ln y.ds))],[(1,.box [zE xC y.c.js,zE wP y.c.ags,iA y.c.per,iA y.c.cap,iA y.c.hold,iA y.c.lock,bA y.rf,iA y.ga,.ref 1011 0 (ln y.ds),zE wD y.sg,zE xZ y.sv,zE iA y.st,zE wE y.vw]),(2,.box [.s (.slice none 0 0),.s (.slice none 0 0),iA 0,iA 0,iA 0,iA 0,bA false,iA 0,.s (.slice none 0 0),.s (.slice none 0 0),.s (.slice none 0 0),.s (.slice none 0 0),.s (.slice none 0 0)]),(1011,.arr 17 (y.ds.map zN) false)]⟩:St)
  else⟨[(13,iA i),(1,.ptr 1 0 0),(2,.ptr 2 0 0),(12,iA (ln y.ds))],[(1,.box [zE xC y.c.js,zE wP y.c.ags,iA y.c.per,iA y.c.cap,iA y.c.hold,iA y.c.lock,bA y.rf,iA y.ga,.ref 1011 0 (ln y.ds),zE wD y.sg,zE xZ y.sv,zE iA y.st,zE wE y.vw]),(2,.box [.s (.slice none 0 0),.s (.slice none 0 0),iA 0,iA 0,iA 0,iA 0,bA false,iA 0,.s (.slice none 0 0),.s (.slice none 0 0),.s (.slice none 0 0),.s (.slice none 0 0),.s (.slice none 0 0)]),(1011,.arr 17 (jF gd x post) ⟨false,true⟩),(1005,.arr 1 (x.dr.map uE) false)]⟩) (ln y.ds) [1,2,1011,1005] [13,1,2,12] Z ⟨0,zB,by rw[Os (zAn _)];rfl⟩ ?_
 rintro n st ⟨i,hi,rfl⟩;by_cases ac:i<ln gd
 .rw[Os zB];have u:i<ln y.ds:=by omega
  have C:=zJ zN y.ds i u;have B:=TJ (y.ds.getD i dd) (h.db _ (zQ y.ds i u));have e:=fW zN y.ds i u;generalize y.ds.getD i dd=d,y.ds.map zN=xs at *;have z:=dT C;refine zP B ?_;refine⟨n-1,zB,i+1,zB,?_⟩;rw[Os zB]
  show(⟨_,[_,_,(1011,.arr 17 (xs.set i (zN d)) false)]⟩:St)=_
  rw[z];rfl
 by_cases R:i=ln gd
 .rw[Os zB];subst R;have u:ln gd<ln y.ds:=by omega
  have hx:y.ds.getD (ln gd) dd=x:=by rw[O,zAk,zBb (zAe _),zCz];rfl
  have C:=zJ zN y.ds (ln gd) u;have B:=Yp (y.ds.getD (ln gd) dd) (h.db _ (zQ y.ds (ln gd) u));rw[hx]at C B;have U:=Lv O;generalize y.ds.map zN=xs at *;refine Wn 1011 Z ?_;unfold PI at B;refine zP B ?_;refine⟨n-1,zB,ln gd+1,zB,?_⟩;rw[hW zB]
  show(⟨_,[_,_,(1011,qD _ _ (.arr 17 (xs.set (ln gd) (PI x)) ⟨false,true⟩)),_]⟩:St)=_
  rw[U,A _ _ Z];rfl
 rw[hW zB];by_cases u:i<ln y.ds
 .have C:=Wh O zB u;have B:=TJ (y.ds.getD i dd) (h.db _ (zQ y.ds i u));have z:=dT C;generalize y.ds.getD i dd=d at *;generalize jF gd x post=cs at *;refine zP B ?_;refine⟨n-1,zB,i+1,zB,?_⟩;rw[hW zB]
  show(⟨_,[_,_,(1011,qD _ _ (.arr 17 (cs.set i (zN d)) ⟨false,true⟩)),_]⟩:St)=_
  rw[z,A _ _ Z];rfl
 have E:i=ln y.ds:=by omega
 subst E;generalize jF gd x post=cs at *;refine zP k2 ?_;rw[L];refine wH (λn st=>∃i,n+i=ln y.sg/\st=(⟨[(34,iA i),(1,.ptr 1 0 0),(2,.ptr 2 0 0),(33,iA (ln y.sg))],[(1,.box [zE xC y.c.js,zE wP y.c.ags,iA y.c.per,iA y.c.cap,iA y.c.hold,iA y.c.lock,bA y.rf,iA y.ga,.ref 1011 0 (ln y.ds),.ref 1012 0 (ln y.sg),zE xZ y.sv,zE iA y.st,zE wE y.vw]),(2,.box [.s (.slice none 0 0),.s (.slice none 0 0),iA 0,iA 0,iA 0,iA 0,bA false,iA 0,.s (.slice none 0 0),.s (.slice none 0 0),.s (.slice none 0 0),.s (.slice none 0 0),.s (.slice none 0 0)]),(1011,.arr 17 cs ⟨false,true⟩),(1005,.arr 1 (x.dr.map uE) false),(1012,.arr 5 (y.sg.map wD) false)]⟩:St)) (ln y.sg) [1,2,1011,1005,1012] [34,1,2,33] Z ⟨0,zB,?_⟩ ?_
 .show(⟨_,[_,_,(1011,qD _ _ (.arr 17 cs ⟨false,true⟩)),_,_]⟩:St)=_
  rw[A _ _ Z];rfl
 rintro n st ⟨i,hi2,rfl⟩;by_cases u:i<ln y.sg
 .have C:=zJ wD y.sg i u;have Y:=h.gb _ (zQ y.sg i u);have B:=zk (y.sg.getD i dd) zB zB;have z:=dT C;generalize y.sg.getD i dd=d at *;generalize y.sg.map wD=xs at *;refine zP B ?_;refine⟨n-1,zB,i+1,zB,?_⟩
  show(⟨_,[_,_,(1011,qD _ _ (.arr 17 cs ⟨false,true⟩)),_,(1012,.arr 5 (xs.set i (wD d)) false)]⟩:St)=_
  rw[z,A _ _ Z];rfl
 have G:i=ln y.sg:=by omega
 subst G;refine zP k3 ?_;rw[M];refine wH (λn st=>∃i,n+i=ln y.sv/\st=(⟨[(55,iA i),(1,.ptr 1 0 0),(2,.ptr 2 0 0),(54,iA (ln y.sv))],[(1,.box [zE xC y.c.js,zE wP y.c.ags,iA y.c.per,iA y.c.cap,iA y.c.hold,iA y.c.lock,bA y.rf,iA y.ga,.ref 1011 0 (ln y.ds),.ref 1012 0 (ln y.sg),.ref 1013 0 (ln y.sv),zE iA y.st,zE wE y.vw]),(2,.box [.s (.slice none 0 0),.s (.slice none 0 0),iA 0,iA 0,iA 0,iA 0,bA false,iA 0,.s (.slice none 0 0),.s (.slice none 0 0),.s (.slice none 0 0),.s (.slice none 0 0),.s (.slice none 0 0)]),(1011,.arr 17 cs ⟨false,true⟩),(1005,.arr 1 (x.dr.map uE) false),(1012,.arr 5 (y.sg.map wD) false),(1013,.arr 3 (y.sv.map xZ) false)]⟩:St)) (ln y.sv) [1,2,1011,1005,1012,1013] [55,1,2,54] Z ⟨0,zB,?_⟩ ?_
 .show(⟨_,[_,_,(1011,qD _ _ (.arr 17 cs ⟨false,true⟩)),_,_,_]⟩:St)=_
  rw[A _ _ Z];rfl
 rintro n st ⟨i,hi3,rfl⟩;by_cases u:i<ln y.sv
 .have C:=zJ xZ y.sv i u;have ap:=h.sb _ (zQ y.sv i u);have B:=PR (y.sv.getD i dd) ⟨zB⟩;have z:=dT C;generalize y.sv.getD i dd=d at *;generalize y.sv.map xZ=xs at *;refine zP B ?_;refine⟨n-1,zB,i+1,zB,?_⟩
  show(⟨_,[_,_,(1011,qD _ _ (.arr 17 cs ⟨false,true⟩)),_,_,(1013,.arr 3 (xs.set i (xZ d)) false)]⟩:St)=_
  rw[z,A _ _ Z];rfl
 have I:i=ln y.sv:=by omega
 subst I;refine yB (xH k4 k5) ?_;refine zH [1011,1005] Z Z ?_ ?_
 .show AV.agg [zE xC y.c.js,zE wP y.c.ags,iA y.c.per,iA y.c.cap,iA y.c.hold,iA y.c.lock,bA y.rf,iA y.ga,.ref 1011 0 (ln y.ds),.sl false (pg (ln y.sg) (y.sg.map wD)),.sl false (pg (ln y.sv) (y.sv.map xZ)),.sl false (pg (y.st.map iA).length (y.st.map iA)),zE wE y.vw]=_
  rw[zAl (zCa L),zAl (zCa M),zAa];rfl
 .show [(1011,qD _ _ (.arr 17 cs ⟨false,true⟩)),(1005,_)]=_
  rw[A _ _ Z];rfl
def Vp {h:yM} {b fl:Bool} (h1:h 1011=some (.arr 17 (jF gd x post) ⟨b,true⟩)) (h2:h 1005=some (.arr 1 (x.dr.map uE) ⟨fl,false⟩)):
  wR [] h (.ref 1011 0 (jF gd x post).length)=zE zN (gd++x::post):=by
 have e:wS [] h (jF gd x post)=(gd++x::post).map zN:=by
  unfold jF;rw[RE,LG,wS,LG,zAd,zBc]
  congr 1
  congr 1
  have y:qC [] h (.ref 1005 0 (x.dr.map uE).length)=zE uE x.dr:=by
   simp only[qC,h2]
   show AV.sl false (((x.dr.map uE).drop 0).take (x.dr.map uE).length)=_
   rw[zAr,zAa];rfl
  show AV.agg [_,_,_,_,_,_,_,_,_,_,_,_,_,_,_,qC [] h (.ref 1005 0 (x.dr.map uE).length),_]=_
  rw[y];rfl
 have u:(jF gd x post).length=((gd++x::post).map zN).length:=by rw[LH];simp;omega
 rw[u];simp only[wR,h1]
 show(bif wM (wS [] h (jF gd x post))then AV.sl false (((wS [] h (jF gd x post)).drop 0).take _)else .bot)=_
 rw[e,RR,zAr,zAa];rfl
theorem Up (y:Cy) (h:VO y) (a:Int) (d:List Int) (hd:BY d) (ac:ln d<=1000000):∃Y:Cy,VO Y/\Y=fA y a d/\zO 36 [vN y,iA a,zE yA d] [] (vN Y) []:=by
 have hb:=h.b;have I:=h.rf;have ag:=zA zN y.ds;have ap:=zA yA d;have M:vN y= .agg [zE xC y.c.js,zE wP y.c.ags,iA y.c.per,iA y.c.cap,iA y.c.hold,iA y.c.lock,bA false,iA y.ga,zE zN y.ds,zE wD y.sg,zE xZ y.sv,zE iA y.st,zE wE y.vw]:=by rw[<-I];rfl
 by_cases ha:0<=a/\a<(ln y.ds:Int)
 case neg=>
  refine⟨y,h,by unfold fA;rw[hW (λh=>ha h.1)],?_⟩;have z:=ZE y hb;rw[M]at z⊢;by_cases h0:a<0
  all_goals
   (refine eM call36 λF hF=>?_)
   exact nl z
 obtain⟨a0,a1⟩:=ha;by_cases h8:ln d=8
 case neg=>
  refine⟨y,h,by unfold fA;rw[hW (λh=>h8 h.2.1)],?_⟩;have z:=ZE y hb;rw[M]at z⊢;refine eM call36 λF hF=>?_
  exact nl z
 have L:=yC zN y.ds a a0 a1;have S:=h.di _ (zQ y.ds a.toNat zB);have U:=S.dn;by_cases V:(y.ds.getD a.toNat dd).dr.length<8
 case neg=>
  refine⟨y,h,by unfold fA;rw[hW (λh=>V h.2.2)],?_⟩;have z:=VZ y hb;unfold OY OZ eJ at z;rw[M,I]at z;rw[M];generalize y.ds.getD a.toNat dd=x at *;have W:=zA uE x.dr;unfold zN wG at L;refine eM call36 λF hF=>?_
  (have gt:=z;(repeat' (first|refine qU ?_|apply yY|apply xN|intro hc|(apply zG;first|(apply FA;refine wO (jB Z Z L) Z ?_))|fail))<;>clear gt)
  refine zH [] Z Z ?_ Z
  show AV.agg [zE xC y.c.js,zE wP y.c.ags,iA y.c.per,iA y.c.cap,iA y.c.hold,iA y.c.lock,bA false,iA y.ga,.sl false (pg (y.ds.map zN).length (y.ds.map zN)),.sl false (pg (y.sg.map wD).length (y.sg.map wD)),.sl false (pg (y.sv.map xZ).length (y.sv.map xZ)),.sl false (pg (y.st.map iA).length (y.st.map iA)),zE wE y.vw]=_
  rw[zAa,zAa,zAa,zAa];rfl
 obtain⟨n,hn⟩:∃n:Nat,a=(n:Int):=⟨a.toNat,zB⟩;subst hn;have E:n<ln y.ds:=by omega
 rw[zAv]at S V U
 have hL:y.ds=y.ds.take n++y.ds.getD n dd::y.ds.drop (n+1):=by
  rw[zAk,zAu E]
  show _=_++y.ds[n]::_
  rw[<-zDw E,zDd]
 have G:(y.ds.take n).length=n:=by rw[zA0];omega
 have z:=Wp y hb (y.ds.take n) (y.ds.getD n dd) (y.ds.drop (n+1)) hL;have k2:=jU d zB;have B:=Mv (y.ds.take n) (y.ds.getD n dd) (y.ds.drop (n+1));have C:=LH (y.ds.take n) (y.ds.getD n dd) (y.ds.drop (n+1));rw[G]at B C;have O:(jF (y.ds.take n) (y.ds.getD n dd) (y.ds.drop (n+1))).length=ln y.ds:=by rw[C,zBh];omega
 have A:∀D:List (List Int),(jF (y.ds.take n) (y.ds.getD n dd) (y.ds.drop (n+1))).set n (PI ⟨(y.ds.getD n dd).rg,(y.ds.getD n dd).rq,D,(y.ds.getD n dd).au⟩)=jF (y.ds.take n) ⟨(y.ds.getD n dd).rg,(y.ds.getD n dd).rq,D,(y.ds.getD n dd).au⟩ (y.ds.drop (n+1)):=λD=>by
  unfold jF;rw[zDc _ _ (by rw[f7,G];exact zAe _),f7,G,zCz];rfl
 have R:∀X:xU,y.ds.take n++X::y.ds.drop (n+1)=y.ds.set n X:=λX=>by
  rw[List.set_eq_take_append_cons_drop,Os E]
 refine⟨_,Yx h hd,rfl,?_⟩;rw[show fA y n d=⟨y.c,false,y.ga,y.ds.set n ⟨(y.ds.getD n dd).rg,(y.ds.getD n dd).rq,(y.ds.getD n dd).dr++[d],(y.ds.getD n dd).au⟩,y.sg,y.sv,y.st,y.vw⟩ by unfold fA;rw[zAv,Os ⟨⟨a0,a1⟩,h8,V⟩];rfl]
 .unfold Y3 eJ at z;rw[M,I]at z;rw[M,<-R];have u:=λH fl h1 h2=>Vp (h:=H) (gd:=y.ds.take n) (post:=y.ds.drop (n+1)) (x:=⟨(y.ds.getD n dd).rg,(y.ds.getD n dd).rq,(y.ds.getD n dd).dr++[d],(y.ds.getD n dd).au⟩) (b:=false) (fl:=fl) h1 h2
  rw[<-A]at u;clear hL R A L S C;rw[show∀l:List xU,vN ⟨y.c,false,y.ga,l,y.sg,y.sv,y.st,y.vw⟩= .agg [zE xC y.c.js,zE wP y.c.ags,iA y.c.per,iA y.c.cap,iA y.c.hold,iA y.c.lock,bA false,iA y.ga,zE zN l,zE wD y.sg,zE xZ y.sv,zE iA y.st,zE wE y.vw]from λ_=>rfl];generalize y.ds.getD n dd=x at *;generalize jF (y.ds.take n) x (y.ds.drop (n+1))=cs at *;have W:=zA uE x.dr;unfold PI wG at B;refine eM call36 λF hF=>?_
  (have gt:=z;have gv:=k2;(repeat' (first|refine qU ?_|apply yY|apply xN|intro hc|(apply zG;first|(apply FA;refine wO (jB Z Z B) Z ?_))|fail))<;>clear gt gv)
  simp only[PI,zAd]at u;rw[zBn,O]at u;refine zH [] Z Z ?_ Z;refine(zAt (λw=>AV.agg [zE xC y.c.js,zE wP y.c.ags,iA y.c.per,iA y.c.cap,iA y.c.hold,iA y.c.lock,bA false,iA y.ga,ZA w,zE wD y.sg,zE xZ y.sv,zE iA y.st,zE wE y.vw]) (u _ true ?_ ?_)).trans ?_
  all_goals rfl
theorem XB (y:Cy) (h:xw y):zO 53 [vN y] [] (OY y) (OZ y):=by
 have C:=zA zN y.ds;have E:=zA wD y.sg;have G:=zA xZ y.sv;have I:=zA iA y.st;have L:=zA wE y.vw;have hd:=h.d;have M:=h.g;have O:=h.s;have R:=h.t;have hv:=h.v;unfold vN OY eJ OZ;refine eM call53 λF hF=>?_
 (repeat' (first|refine qU ?_|apply yY|apply xN|intro hc|(apply zG;first|(apply yI;first|refine xB 1014 tok Z Z Z Z Z Z (yG _ _ (λ_=>rfl)) Z Z Z zB Z Z Z ?_|refine xB 1016 tok Z Z Z Z Z Z (yG _ _ (λ_=>rfl)) Z Z Z zB Z Z Z ?_))|fail))
 refine zW 4 1011 17 Z Z Z ?_;refine zU (y.ds) [1011,1,2,3,1014,1016] [1,2,3,1014,1016] [1,2,3,27,28] [4,29,1,2,3,27,28] Z (λi gd T U=>⟨(4,.ref 1011 0 (gd.map zN).length)::(29,iA i)::T,(1011,.arr 17 (gd.map zN) true)::U⟩) (Lq ?_ ?_)
 .intro i gd x post hx hi;have B:=zY zN hx hi;have u:=zX hx hi;have z:(gd.map zN).length=i:=by rw[f7,hi]
  have A:=kB x (h.db x (yQ hx));have e:(gd++[x]).map zN=gd.map zN++[zN x]:=by simp
  clear hx;rw[e];generalize gd.map zN=xs at *;unfold zN wG at*
  (have gt:=A;(repeat' (first|refine gM ?_|apply yY|apply xN|intro hc|(apply zG;first|(apply yL;refine wQ tok Z Z ?_))|refine SB ?_|fail))<;>clear gt)
  rfl
 .refine kV 1011 [4] Z Z Z Z Z ?_;refine WW ?_;refine zW 7 1012 5 Z Z Z ?_;refine zU (y.sg) [1012,1,2,3,1011,1014,1016] [1,2,3,1011,1014,1016] [1,2,3,4,40,41] [7,42,1,2,3,4,40,41] Z (λi gd T U=>⟨(7,.ref 1012 0 (gd.map wD).length)::(42,iA i)::T,(1012,.arr 5 (gd.map wD) true)::U⟩) (Lq ?_ ?_)
  .intro i gd x post hx hi;have B:=zY wD hx hi;have u:=zX hx hi;have z:(gd.map wD).length=i:=by rw[f7,hi]
   have hb:=h.gb x (yQ hx);have A:=PS x zB zB;have e:(gd++[x]).map wD=gd.map wD++[wD x]:=by simp
   clear hx;rw[e];generalize gd.map wD=xs at *;unfold wD at*
   (have gt:=A;(repeat' (first|refine gM ?_|apply yY|apply xN|intro hc|(apply zG;first|(apply yL;refine wQ tok Z Z ?_))|refine SB ?_|fail))<;>clear gt)
   rfl
  .refine kV 1012 [7] Z Z Z Z Z ?_;refine WW ?_;refine zW 10 1013 3 Z Z Z ?_;refine zU (y.sv) [1013,2,3,1011,1012,1014,1016] [2,3,1011,1012,1014,1016] [2,3,4,7,53,54] [10,55,2,3,4,7,53,54] Z (λi gd T U=>⟨(10,.ref 1013 0 (gd.map xZ).length)::(55,iA i)::T,(1013,.arr 3 (gd.map xZ) true)::U⟩) (Lq ?_ ?_)
   .intro i gd x post hx hi;have B:=zY xZ hx hi;have u:=zX hx hi;have z:(gd.map xZ).length=i:=by rw[f7,hi]
    have hb:=h.sb x (yQ hx);have A:=NV x ⟨zB⟩;have e:(gd++[x]).map xZ=gd.map xZ++[xZ x]:=by simp
    clear hx;rw[e];generalize gd.map xZ=xs at *;unfold xZ at*
    (have gt:=A;(repeat' (first|refine gM ?_|apply yY|apply xN|intro hc|(apply zG;first|(apply yL;refine wQ tok Z Z ?_))|refine SB ?_|fail))<;>clear gt)
    rfl
   .refine kV 1013 [10] Z Z Z Z Z ?_;refine WW ?_;refine zH [1011,1012,1013,1014] Z Z ?_ Z
    show AV.agg [zE xC y.c.js,zE wP y.c.ags,iA y.c.per,iA y.c.cap,iA y.c.hold,iA y.c.lock,bA y.rf,iA y.ga,.ref 1011 0 (y.ds.map zN).length,.ref 1012 0 (y.sg.map wD).length,.ref 1013 0 (y.sv.map xZ).length,.ref 1014 0 (y.st.map iA).length,.sl false (pg (y.vw.map wE).length (y.vw.map wE))]=_
    rw[zAa];rfl
def bU (y:Cy) (h:xw y):zO 53 [vN y] [] (vN y) []:=Fc (XB y h)
def AL (y:Cy) (h:VO y) (j p:Int):zO 17 [vN y,iA j,iA p] [] (vN (aY y j p)) []:=by
 have hb:=h.b;have z:=h.rf;have L:=zA xC y.c.js;have O:=zA iA y.st;have G:=h.tl;have B:=cG z;by_cases hj:0<=j/\j<(ln y.c.js:Int)
 case neg=>
  rw[show aY y j p=y by unfold aY;rw[hW (λh=>hj h.1)]];have u:=bU y hb;rw[B]at u⊢;by_cases I:j<0
  all_goals
   refine eM call17 λF hF=>?_
   exact nl u
 obtain⟨j0,j1⟩:=hj;have A:=yC xC y.c.js j j0 j1;have M:=zA yU (y.c.js.getD j.toNat dd).ph;by_cases E:0<=p/\p<((y.c.js.getD j.toNat dd).ph.length:Int)
 case neg=>
  rw[show aY y j p=y by unfold aY;rw[hW (λh=>E h.2)]];have u:=bU y hb;rw[B]at u⊢;generalize y.c.js.getD j.toNat dd=S at *;unfold xC at A;by_cases I:p<0
  all_goals
   refine eM call17 λF hF=>?_
   exact nl u
 obtain⟨U,V⟩:=E;rw[show aY y j p=⟨y.c,false,y.ga,y.ds,y.sg,y.sv,y.st.set j.toNat p,y.vw⟩ by unfold aY;rw[Os ⟨⟨j0,j1⟩,U,V⟩]];have u:=XB y hb;unfold OY OZ eJ at u;rw[B,z]at u;rw[B];have C:(y.st.set j.toNat p).map iA=(y.st.map iA).set j.toNat (iA p):=zBt ..;rw[show vN ⟨y.c,false,y.ga,y.ds,y.sg,y.sv,y.st.set j.toNat p,y.vw⟩= .agg [zE xC y.c.js,zE wP y.c.ags,iA y.c.per,iA y.c.cap,iA y.c.hold,iA y.c.lock,bA false,iA y.ga,zE zN y.ds,zE wD y.sg,zE xZ y.sv,.sl false ((y.st.map iA).set j.toNat (iA p)),zE wE y.vw] by rw[<-C];rfl];clear C;have R:=yC iA y.st j j0 zB;generalize y.c.js.getD j.toNat dd=S at *;unfold xC at A;refine eM call17 λF hF=>?_
 refine zP u ?_;refine zH [] Z Z ?_ Z
 show AV.agg [_,_,_,_,_,_,_,_,.sl false (pg (y.ds.map zN).length (y.ds.map zN)),.sl false (pg (y.sg.map wD).length (y.sg.map wD)),.sl false (pg (y.sv.map xZ).length (y.sv.map xZ)),.sl false (pg (y.st.map iA).length ((y.st.map iA).set j.toNat (iA p))),_]=_
 rw[zAa,zAa,zAa,zAl Rj];rfl
theorem Be (y:Cy) (h:VO y) (a:Int) (d:List Int) (R:ln d<=1000000):zO 37 [vN y,iA a,zE yA d] [] (vN (fA y a d)) []:=by
 have hb:=h.b;have A:=h.rf;have S:=zA zN y.ds;have U:=zA yA d;have C:=cG A;by_cases M:0<=a/\a<(ln y.ds:Int)
 case neg=>
  rw[show fA y a d=y by unfold fA;rw[hW (λh=>M h.1)]];have u:=bU y hb;rw[C]at u⊢;by_cases X:a<0
  all_goals
   refine eM call37 λF hF=>?_
   exact nl u
 obtain⟨a0,I⟩:=M;have z:=yC zN y.ds a a0 I;have O:=h.di _ (zQ y.ds a.toNat zB);have V:=O.dn;by_cases E:ln d=8/\(y.ds.getD a.toNat dd).dr.length<8
 case neg=>
  rw[show fA y a d=y by unfold fA;rw[hW (λh=>E h.2)]];have u:=bU y hb;rw[C]at u⊢;generalize y.ds.getD a.toNat dd=x at *;have G:=zA uE x.dr;unfold zN wG at z;by_cases Y:ln d=8
  all_goals
   refine eM call37 λF hF=>?_
   exact nl u
 obtain⟨E,W⟩:=E;rw[show fA y a d=⟨y.c,false,y.ga,y.ds.set a.toNat ⟨(y.ds.getD a.toNat dd).rg,(y.ds.getD a.toNat dd).rq,(y.ds.getD a.toNat dd).dr++[d],(y.ds.getD a.toNat dd).au⟩,y.sg,y.sv,y.st,y.vw⟩ by unfold fA;rw[Os ⟨⟨a0,I⟩,E,W⟩];rfl];have u:=XB y hb;unfold OY OZ eJ at u;rw[C,A]at u;rw[C];generalize y.ds.getD a.toNat dd=x at *;have G:=zA uE x.dr;have B:(x.dr++[d]).map uE=x.dr.map uE++[.sl false (d.map yA)]:=by rw[zAd];rfl
 have L:(y.ds.set a.toNat ⟨x.rg,x.rq,x.dr++[d],x.au⟩).map zN=(y.ds.map zN).set a.toNat (wG x.rg (zE yS x.rq) (.sl false (x.dr.map uE++[.sl false (d.map yA)])) (zE bA x.au)):=by rw[zBt,<-B];rfl
 rw[show vN ⟨y.c,false,y.ga,y.ds.set a.toNat ⟨x.rg,x.rq,x.dr++[d],x.au⟩,y.sg,y.sv,y.st,y.vw⟩= .agg [zE xC y.c.js,zE wP y.c.ags,iA y.c.per,iA y.c.cap,iA y.c.hold,iA y.c.lock,bA false,iA y.ga,.sl false ((y.ds.map zN).set a.toNat (wG x.rg (zE yS x.rq) (.sl false (x.dr.map uE++[.sl false (d.map yA)])) (zE bA x.au))),zE wD y.sg,zE xZ y.sv,zE iA y.st,zE wE y.vw] by rw[<-L];rfl];clear L;clear B;unfold zN wG at z;unfold wG;refine eM call37 λF hF=>?_
 (have gt:=u;(repeat' (first|refine gM ?_|apply yY|apply xN|intro hc|(apply zG;first|(apply FA;refine wO (jB Z Z z) Z ?_)|(apply yL;refine wQ tok Z Z ?_)|(apply yI;first|refine xB 1005 tok Z Z Z Z Z Z (yG _ _ (λ_=>rfl)) Z Z Z zB Z Z Z ?_|refine jE tok Z Z Z Z Z Z (yG _ _ (λ_=>rfl)) Z Z Z zB Z ?_))|refine SB ?_|fail))<;>clear gt)
 refine vR [6,7,1011,1012,1013,1014] [6,7,48,50] Z ?_
 (conv=>whnf)
 simp only[zAr,zAa];refine WW ?_;refine zH [] Z Z ?_ Z
 show AV.agg [_,_,_,_,_,_,_,_,.sl false (pg (y.ds.map zN).length ((y.ds.map zN).set a.toNat _)),.sl false (pg (y.sg.map wD).length (y.sg.map wD)),.sl false (pg (y.sv.map xZ).length (y.sv.map xZ)),.sl false (pg (y.st.map iA).length (y.st.map iA)),_]=_
 rw[zAa,zAa,zAa,zAl Rj];rfl
theorem Tp (f g z:Int) (u:List Int) (C:0<=f):∀i,i<=ln u->IN f g z u i=if(i:Int)<=f\/g<=0 then((u.take i).map jI).flatten else((u.take f.toNat).map jI).flatten++(jI z++(((u.drop f.toNat).take (i-f.toNat)).map jI).flatten)
 |0,_=>by rw[Os zB];rfl
 | i +1,hi=>by
  have y:=Tp f g z u C i zB
  have e:u.take (i+1)=u.take i++[u.getD i dd]:=by
   rw[zAk,zAu zB,zCo,zCd zB]
  unfold IN;by_cases A:g<=0
  .rw[hW zB,y,Os (.inr A),Os (.inr A),e,zAd,zDl];simp
  .by_cases h1:(i:Int)<f
   .rw[hW zB,y,Os zB,Os zB,e,zAd,zDl];simp
   .rw[hW (show¬(((i+1:Nat):Int)<=f\/g<=0) by omega)]
    have B:(u.drop f.toNat).take (i+1-f.toNat)=(u.drop f.toNat).take (i-f.toNat)++[u.getD i dd]:=by
     rw[show i+1-f.toNat=(i-f.toNat)+1 by omega,zCd EY,List.getElem_drop,zAk,zAu zB,zCo]
     congr 3
     omega
    rw[B,zAd,zDl];by_cases h2:(i:Int)=f
    .subst h2;rw[Os ⟨rfl,zB⟩,y,Os zB];simp
    .rw[hW zB,y,hW zB];simp
theorem W3 (f g y:Int) (u:List Int) (A:0<=f) (C:f<=ln u):OU f g y u (ln u)=((u.take f.toNat).map jI).flatten++((if 0<g then jI y else [])++((u.drop f.toNat).map jI).flatten):=by
 have B:=Tp f g y u A (ln u) (zAe _);have z:(u.drop f.toNat).take (ln u-f.toNat)=u.drop f.toNat:=zAl (by rw[zBh];exact zAe _);rw[z,zAa]at B
 grind [OU,jI,List.flatten_append,List.take_append_drop,List.take_of_length_le,List.drop_eq_nil_of_le]
def u32_in {n:Int} (h:0<=n/\n<4294967296):IntKind.u32.wrap n=n:=by
 unfold IntKind.wrap;simp[IntKind.signed,IntKind.bits];omega
def Ae (a c:Nat) (u:a<4294967296) (hc:c<4294967296):Cp (a:Int) (c:Int)=((a ||| c:Nat):Int):=by
 unfold Cp
 have h1:(BitVec.ofInt IntKind.u32.bits (a:Int) ||| BitVec.ofInt IntKind.u32.bits (c:Int)).toNat=a ||| c:=by
  rw[BitVec.toNat_or,zDv,zDv,zDp,zDp,zDn (show a<2 ^ IntKind.u32.bits from u),zDn (show c<2 ^ IntKind.u32.bits from hc)]
 rw[h1]
 have h2:a ||| c<2 ^ 32:=Nat.or_lt_two_pow u hc
 exact u32_in ⟨zB,zB⟩
def TP {n x:Int} (y:0<=n/\n<16777216) (hx:0<=x/\x<256):Cp (IntKind.u32.wrap (n*2 ^ (min (8:Int).toNat IntKind.u32.bits))) x=n*256+x:=by
 rw[show n*2 ^ (min (8:Int).toNat IntKind.u32.bits)=n*256 from Z,u32_in zB];obtain⟨a,rfl⟩:=zB7 y.1;obtain⟨c,rfl⟩:=zB7 hx.1;have h2:=Ae (a*256) c zB zB;have u:=zD3 (show c<2 ^ 8 by omega) a;rw[Nat.shiftLeft_eq]at u;rw[show((a:Int)*256)=((a*256:Nat):Int) by omega,h2,<-u];omega
def Sp (y:Int):IntKind.u8.wrap y=y % 256:=by
 unfold IntKind.wrap;simp[IntKind.signed,IntKind.bits]
def N7 (k:Int) (h:13<=k/\k<=21):zO 141 [iA k] [] (.agg [iA (jG k).1,iA (jG k).2.1,iA (jG k).2.2.1,iA (jG k).2.2.2.1,iA (jG k).2.2.2.2]) []:=by
 have:k=13\/k=14\/k=15\/k=16\/k=17\/k=18\/k=19\/k=20\/k=21:=by omega
 rcases this with rfl|rfl|rfl|rfl|rfl|rfl|rfl|rfl|rfl
 all_goals
  refine eM call141 λF hF=>?_
  exact mx
theorem FQ (k:Int) (A y:Nat) (lo hi sd:Int) (O:zO 141 [iA k] [] (.agg [iA (A:Int),iA (y:Int),iA lo,iA hi,iA sd]) []) (hg:y<=4) (m:Ms) (c:Nat) (hk:m.kind=k) (ht:ln m.tok<=10) (hd:ln m.data<=100000) (ha:∀x∈m.args,0<=x/\x<=4294967295) (hn:ln m.args<=1000) (hc:y≠0->ln m.args=A+c*y) (ap:c<=16):
  zO 70 [yO m] [] (zE yA (eP A y c m)) []:=by
 subst hk;have ax:=zA yA m.tok;have X:=zA iA m.args;have au:=zA yA m.data;unfold eP;generalize hT:m.tok++aV A y c 0 m.args=ac;refine eM call70 λF hF=>?_
 (have gt:=O;(repeat' (first|refine qU ?_|apply yY|apply xN|intro hc|(apply zG;first|(apply yI;refine xB 1001 tok Z Z Z Z Z Z (yG _ _ (λ_=>rfl)) Z Z Z zB Z Z Z ?_))|fail))<;>clear gt)
 refine vY 1001 Z ?_;refine kU (m.args) [1001,1,3] [1,3] [1,3,16,17] [4,18,1,3,16,17] Z (λi gd T U zs=>∃u:List Int,(ln u<=10+6*i/\∀post,m.args=gd++post->u++aV A y c i post=ac)/\zs=⟨(4,.ref 1001 0 (u.map yA).length)::(18,iA i)::T,(1001,.arr 1 (u.map yA) true)::U⟩) (Lp ?_ ?_ ?_)
 .exact⟨m.tok,⟨zB,λpost h=>by rw[<-hT,h];rfl⟩,rfl⟩
 .rintro i gd x post st hx hi ⟨u,⟨q0,q1⟩,rfl⟩;have hy:=zY iA hx hi;have ag:=zX hx hi;have L:=ha x (yQ hx);have I:=zA yA u;have he:=jZ x;have V:=Mw x L.1 L.2;have av:=zA yA (jI x)
  have z:∀p,m.args=gd++[x]++p->p=post:=λp h=>by
   rw[hx,zA2]at h;simpa using h.symm
  have B:=q1 _ hx;clear q1 hT hx;by_cases E:i=A/\y≠0
  .obtain⟨rfl,C⟩:=E;have G:=hc C
   have hq:(((m.args.map iA).length:Int)-(i:Int)).tdiv (y:Int)=(c:Int):=by
    rw[X,G,show(((i+c*y:Nat):Int)-(i:Int))=(c:Int)*(y:Int) by rw[Int.natCast_add,zFh];omega];exact Int.mul_tdiv_cancel _ zB
   have ar:bZ .i64 ((((m.args.map iA).length:Int)-(i:Int)).tdiv (y:Int)):=by rw[hq];exact⟨zB,zB⟩
   have e:aV i y c i (x::post)=[(c:Int)]++(jI x++aV i y c (i+1) post):=by rw[aV,Os ⟨rfl,C⟩]
   rw[e]at B;clear e G hc;generalize jI x=R at *;refine yB (xH O V) ?_;refine⟨u++[(c:Int)]++R,⟨by simp;omega,λp h=>by rw[z p h,<-B];simp⟩,?_⟩;rw[zAd,zAd,<-hq];rfl
  .have e:aV A y c i (x::post)=jI x++aV A y c (i+1) post:=by rw[aV,hW E];rfl
   rw[e]at B;clear e hc;generalize jI x=R at *;by_cases W:i=A
   .have C:y=0:=by
     by_cases h:y=0
     .exact h
     .exact absurd ⟨W,h⟩ E
    refine yB (xH O V) ?_;refine⟨u++R,⟨by simp;omega,λp h=>by rw[z p h,<-B];simp⟩,?_⟩;rw[zAd];rfl
   ·(refine yB (xH O V) ?_)
    refine⟨u++R,⟨by simp;omega,λp h=>by rw[z p h,<-B];simp⟩,?_⟩;rw[zAd];rfl
 .rintro st ⟨u,⟨q0,q1⟩,rfl⟩;have e:=q1 [] yE;rw[show aV A y c (ln m.args) []=[]from rfl,zA6]at e;subst e;have I:=zA yA u;clear q1 hT hc;by_cases S:y≠0/\m.args.length=A
  .rw[Os S];obtain⟨M,Y⟩:=S;refine WW ?_;refine zH [] Z Z ?_ Z
   show AV.sl false ((u.map yA++[yA 0]++m.data.map yA).take (u.map yA++[yA 0]++m.data.map yA).length)=_
   rw[zAa];unfold zE;rw[zAd,zAd,zA2];rfl
  .rw[hW S];by_cases M:y=0
   ·(refine WW ?_)
    refine zH [] Z Z ?_ Z
    show AV.sl false ((u.map yA++m.data.map yA).take (u.map yA++m.data.map yA).length)=_
    rw[zAa];unfold zE;rw[zAd];rfl
   .have Y:ln m.args≠A:=λh=>S ⟨M,h⟩
    refine WW ?_;refine zH [] Z Z ?_ Z
    show AV.sl false ((u.map yA++m.data.map yA).take (u.map yA++m.data.map yA).length)=_
    rw[zAa];unfold zE;rw[zAd];rfl
theorem yf (u y:Nat) (c:Int):∀(l:List Int) (i:Nat),(aV u y c i l).length=((l.map jI).flatten).length+(if i<=u/\u<i+ln l/\y≠0 then 1 else 0)
 | [],i=>by
  rw[hW (by rintro⟨h1,h2,_⟩;simp at h2;omega)];rfl
 | x::l,i=>by
  have z:=yf u y c l (i+1);rw[aV,zAf,zAf,z,zBc,zC0,zAf,zAp];by_cases h1:i=u/\y≠0
  .rw[Os h1,hW zB,Os zB];simp only[zAp,zBq];omega
  .rw[hW h1];by_cases h2:i+1<=u/\u<i+1+ln l/\y≠0
   .rw[Os h2,Os zB];simp only[zBq];omega
   .rw[hW h2,hW zB];simp only[zBq];omega
theorem Rp {k:Int} {u y:List Int} (h:R3 k u y) (A B c:Nat):(eP A B c ⟨k,[],u,y⟩).length<=200:=by
 have C:=h.z
 grind [eP,yf,List.length_append,List.length_cons,List.length_nil]
theorem Rc {k:Int} {u y:List Int} (h:R3 k u y):zO 69 [yO ⟨k,[],u,y⟩] [] (bA true) []:=by
 have B:=N7 k h.kk;have V:=cP k;have hk:=h.kk;rw[zAb zB]at V;have hz:=h.z;have E:=h.n;have hl:=h.l;have ap:=zA iA u;have au:=zA yA y;have ag:ln y<=200:=by omega
 have hd:=h.d;have L:=Rp h;have C:k=13\/k=14\/k=15\/k=16\/k=17\/k=18\/k=19\/k=20\/k=21:=by omega
 rcases h.g with⟨W,I⟩|⟨W,gr,I,g3,g4,X⟩
 .have ac:(jG k).2.2.2.2= -1\/0<=(jG k).2.2.2.2:=by omega
  generalize (jG k).2.2.1=lo,(jG k).2.2.2.1=hi at *;rw[W,<-I]at B;have M:=FQ k (ln u) 0 lo hi _ B zB ⟨k,[],u,y⟩ 0 Z yE NK E NK (λh=>absurd Z h) zB;have L:=L (ln u) 0 0;generalize eP (ln u) 0 0 ⟨k,[],u,y⟩=S at *;have O:=zA yA S;generalize (jG k).2.2.2.2=sd at *;clear C W hz h;unfold yO at *;dsimp only at*
  rcases ac with hs|hs
  all_goals
   refine eM call69 λF hF=>?_
   refine yB (xH B V) ?_;refine zU (u) [1] [1] [1,97,98] [99,1,97,98] Z (λi gd T U=>⟨(99,iA i)::T,U⟩) (Lq ?_ ?_)
   .intro i gd x post hx hi;have hy:=zY iA hx hi;have G:=zX hx hi;have R:=E x (yQ hx);clear hx E;refine WW ?_;rfl
   .exact nl M
 .have Y:k=18\/k=19:=by
   rcases C with rfl|rfl|rfl|rfl|rfl|rfl|rfl|rfl|rfl<;>first|exact .inl Z|exact .inr Z|(exfalso;revert W;decide)
  obtain⟨A,rfl⟩:∃A:Nat,gr=(A:Int):=⟨gr.toNat,zB⟩
  rcases Y with rfl|rfl
  .have I:(ln u:Int)=1+3*(A:Int):=I;have X:(A:Int)<=16:=X;have B:zO 141 [iA 18] [] (.agg [iA 1,iA 3,iA 0,iA 16,iA 0]) []:=B;have hd:(ln y:Int)=0:=hd.elim (λh=>absurd h xG) id;have M:=FQ 18 1 3 0 16 0 B zB ⟨18,[],u,y⟩ A Z yE NK E NK (λ_=>by dsimp only;omega) zB;have L:=L 1 3 A;generalize eP 1 3 A ⟨18,[],u,y⟩=S at *;have O:=zA yA S;have hm:(((u.map iA).length:Int)-1).tmod 3=0:=by rw[zBi zB];omega
   clear C hz h;unfold yO at *;dsimp only at *;refine eM call69 λF hF=>?_
   refine yB (xH B V) ?_;refine zU (u) [1] [1] [1,97,98] [99,1,97,98] Z (λi gd T U=>⟨(99,iA i)::T,U⟩) (Lq ?_ ?_)
   .intro i gd x post hx hi;have hy:=zY iA hx hi;have G:=zX hx hi;have R:=E x (yQ hx);clear hx E;refine WW ?_;rfl
   .exact nl M
  .have I:(ln u:Int)=0+2*(A:Int):=I;have X:(A:Int)<=4:=X;have B:zO 141 [iA 19] [] (.agg [iA 0,iA 2,iA 0,iA 4,iA 0]) []:=B;have hd:(ln y:Int)=0:=hd.elim (λh=>absurd h xG) id;have M:=FQ 19 0 2 0 4 0 B zB ⟨19,[],u,y⟩ A Z yE NK E NK (λ_=>by dsimp only;omega) zB;have L:=L 0 2 A;generalize eP 0 2 A ⟨19,[],u,y⟩=S at *;have O:=zA yA S;have hm:(((u.map iA).length:Int)-0).tmod 2=0:=by rw[zBi zB];omega
   clear C hz h;unfold yO at *;dsimp only at *;refine eM call69 λF hF=>?_
   refine yB (xH B V) ?_;refine zU (u) [1] [1] [1,97,98] [99,1,97,98] Z (λi gd T U=>⟨(99,iA i)::T,U⟩) (Lq ?_ ?_)
   .intro i gd x post hx hi;have hy:=zY iA hx hi;have G:=zX hx hi;have R:=E x (yQ hx);clear hx E;refine WW ?_;rfl
   .exact nl M
def RS (u j:Int) (x:Rq) (g:Lg):List Cl:=if g.jn=j/\g.sc≠ -1 then [⟨u,x.id,g.ph,x.cls,g.sc⟩]else []
def dZ (u j:Int) (x:Rq) (l:List Lg):List Cl:=(l.map (RS u j x)).flatten
def Uh (u j:Int) (x:Rq) (l:List Lg) (g:Lg):dZ u j x (l++[g])=dZ u j x l++RS u j x g:=by simp[dZ]
theorem TQ {u j:Int} {x:Rq}:∀{l:List Lg},(∀g∈l,g.jn≠j)->dZ u j x l=[]
 | [],_=>rfl
 |g::l,h=>by
  show RS u j x g++dZ u j x l=[]
  rw[TQ λy z=>h y (by simp[z])];unfold RS;rw[hW (λe=>h g yE e.1)];rfl
theorem AM (u j:Int) (x:Rq):∀l:List Lg,(dZ u j x l).length<=ln l
 | []=>zAe _
 |g::l=>by
  have y:=AM u j x l;have e:dZ u j x (g::l)=RS u j x g++dZ u j x l:=rfl
  have h1:(RS u j x g).length<=1:=by unfold RS;split<;>simp
  rw[e,zAf,zAp];omega
theorem xf:∀{post q:List Lg} {x:Lg},kT q post=true->x∈q->∀y∈post,y.jn≠x.jn
 |y::post,q,x,h,hx,z,u=>by
  unfold kT at h;simp only[zAi,zCr]at h;obtain⟨_,h1,h2⟩:=h
  rcases zBx.1 u with rfl|u
  .intro e;have:=zCs.1 h1 x hx;rw[e]at this;simp at this
  .exact xf h2 (List.mem_append_left _ hx) z u
theorem IK:∀(gd:List Lg) {u post:List Lg} {x:Lg},kT u (gd++x::post)=true->∀y∈post,y.jn≠x.jn
 | [],u,post,x,h=>by
  rw[zC7]at h;unfold kT at h;simp only[zAi]at h;exact xf h.2.2 yE
 |a::gd,u,post,x,h=>by
  rw[zDb]at h;unfold kT at h;simp only[zAi]at h;exact IK gd h.2.2
def Qp {A j:Int} {x:Rq} (h:kT [] x.legs=true):dZ A j x x.legs=NA A j x:=by
 unfold NA;generalize hl:x.legs=l at *;by_cases G:∃g∈l,g.jn=j
 case neg=>
  have I:∀g∈l,g.jn≠j:=λg u e=>G ⟨g,u,e⟩
  rw[TQ I,BI (λy z=>by simpa using I y z),Os xG]
 obtain⟨gd,g,post,e,L,u⟩:∃gd g post,l=gd++g::post/\(∀y∈gd,y.jn≠j)/\g.jn=j:=by
  clear h hl
  induction l with
  |nil=>obtain⟨g,u,_⟩:=G;cases u
  | cons a l U=>
   by_cases C:a.jn=j
   .exact⟨[],a,l,rfl,(λy z=>(by cases z)),C⟩
   .obtain⟨g,u,e⟩:=G
    rcases zBx.1 u with rfl|u
    .exact absurd e C
    obtain⟨gd,R,post,e1,M,e3⟩:=U ⟨g,u,e⟩;exact⟨a::gd,R,post,(by rw[e1];rfl),(λy z=>(zBx.1 z).elim (λh=>h▸C) (M y)),e3⟩
 have S:=IK gd (e▸h);have hi:=GU (p:=λr:Lg=>r.jn==j) e (λy z=>by simpa using L y z) (by simpa using u);rw[hi,hW zB,zAv];have E:l.getD (ln gd) dd=g:=by rw[e];simp[pi]
 rw[E];have O:dZ A j x l=dZ A j x gd++(RS A j x g++dZ A j x post):=by rw[e];simp[dZ]
 rw[O,TQ L,TQ (λy z=>by rw[<-u];exact S y z),zC7,zA6];unfold RS;by_cases B:g.sc= -1
 .rw[Os B,hW (λh=>h.2 B)]
 .rw[hW B,Os ⟨u,B⟩]
def QO (l:List Rq) (y j:Int) (hn:ln l<=1000) (hb:∀r∈l,ln r.legs<=1000) (hv:∀r∈l,kT [] r.legs=true):zO 90 [zE yS l,iA y,iA j] [] (zE uK (jL y j l)) []:=by
 have hl:=zA yS l;refine eM call90 λF hF=>?_
 refine WW ?_;refine zW 7 1001 5 Z Z Z ?_;refine zU (l) [1001] [] [1,2,12,13] [7,14,1,2,12,13] Z (λi gd T U=>⟨(7,.ref 1001 0 ((jL y j gd).map uK).length)::(14,iA i)::T,(1001,.arr 5 ((jL y j gd).map uK) true)::U⟩) (Lq ?_ ?_)
 .intro i gd x post hx hi;have W:=zY yS hx hi;have M:=zX hx hi;have hq:=gG y j gd;have R:ln gd<=ln l:=by rw[hx];simp
  have V:(x.legs.map xK).length=ln x.legs:=f7 ..;have S:=hb x (yQ hx);have A:=AM y j x;rw[KQ,<-Qp (hv x (yQ hx))];clear hx;generalize jL y j gd=X at *;unfold yS at W;have E:X++dZ y j x []=X:=by simp[dZ]
  refine WW ?_;refine zU (x.legs) [1001,9] [9] [1,2,9,12,13,14,19,20] [7,21,1,2,9,12,13,14,19,20] Z (λi gd T U=>⟨(7,.ref 1001 0 ((X++dZ y j x gd).map uK).length)::(21,iA i)::T,(1001,.arr 5 ((X++dZ y j x gd).map uK) true)::U⟩) ?_;(conv=>whnf);refine⟨by(rw[E];rfl),?_,?_⟩
  .intro k u g C z hk;have B:=zY xK z hk;have G:=zX z hk;have O:ln u<=ln x.legs:=by rw[z];simp
   have L:=A u;have I:((X++dZ y j x u).map uK).length=ln X+(dZ y j x u).length:=by simp
   have e1:(X++dZ y j x (u++[g])).map uK=(X++dZ y j x u).map uK++(RS y j x g).map uK:=by rw[Uh,<-zA2,zAd]
   rw[e1];clear z A e1 E;generalize (X++dZ y j x u).map uK=Y,(dZ y j x u).length=n2 at *;unfold xK at B;by_cases h1:g.jn=j
   .by_cases h2:g.sc= -1
    .rw[show RS y j x g=[]from hW (λh=>h.2 h2),zBs,zA6];refine WW ?_;rfl
    .rw[show RS y j x g=[⟨y,x.id,g.ph,x.cls,g.sc⟩]from Os ⟨h1,h2⟩];refine WW ?_;rfl
   .rw[show RS y j x g=[]from hW (λh=>h1 h.1),zBs,zA6];refine WW ?_;rfl
  ·(refine WW ?_)
   rfl
 ·(refine WW ?_)
  exact zH [] Z Z (zAt (AV.sl false) zAa) Z
def RT (u:List xU):Prop:=∀i,i<ln u->(u.getD i dd).rg.num=(i:Int)
def AN (c:Cf) (W:Bool) (ga:Int) (u:List xU) (j:Int) (hd:ln u<=1000) (hb:∀d∈u,cY d) (hv:∀d∈u,∀r∈d.rq,kT [] r.legs=true) (hN:RT u) (A B C:List AV) (a b e:Nat) (V:List Vw):
  zO 39 [eJ c W ga (zE zN u) (.ref 1012 0 a) (.ref 1013 0 b) (.ref 1014 0 e) (zE wE V),iA j] [(1012,.arr 5 A false),(1013,.arr 3 B false),(1014,.arr 1 C false)] (zE uK (uO j u)) [(1012,.arr 5 A false),(1013,.arr 3 B false),(1014,.arr 1 C false)]:=by
 have hl:=zA zN u;unfold eJ;refine eM call39 λF hF=>?_
 refine WW ?_;refine zW 5 1001 5 Z Z Z ?_;refine zU (u) [1001,1012,1013,1014] [1012,1013,1014] [1,9,10] [5,11,1,9,10] Z (λi gd T U=>⟨(5,.ref 1001 0 ((uO j gd).map uK).length)::(11,iA i)::T,(1001,.arr 5 ((uO j gd).map uK) true)::U⟩) (Lq ?_ ?_)
 .intro i gd x post hx hi;have S:=zY zN hx hi;have E:=zX hx hi;have y:=hb x (yQ hx)
  have z:x.rg.num=(i:Int):=by
   have:=hN i E
   rwa [show u.getD i dd=x by rw[hx,<-hi];simp[pi]]at this
  have L:=QO x.rq x.rg.num j y.q y.g (hv x (yQ hx));have hq:=bB j gd (λd hd=>(hb d md).q);have O:((uO j gd).map uK).length=(uO j gd).length:=f7 ..;have G:=gG x.rg.num j x.rq;have I:((jL x.rg.num j x.rq).map uK).length=(jL x.rg.num j x.rq).length:=f7 ..;have M:ln gd<=ln u:=by rw[hx];simp
  have R:=y.q;rw[YJ,zAd];clear hx;generalize (uO j gd).map uK=X at *;unfold zE at L;rw[z]at L G I⊢;generalize jL (i:Int) j x.rq=Y at *;unfold zN wG at S;refine zP L ?_;rfl
 ·(refine WW ?_)
  exact zH [1012,1013,1014] Z Z (zAt (AV.sl false) zAa) Z
def AO (m:Ms) (h1:ln m.tok<=1000) (h2:ln m.args<=1000) (y:ln m.data<=1000):zO 128 [yO m] [] (yO m) []:=by
 have e1:=zA yA m.tok;have u:=zA iA m.args;have e3:=zA yA m.data;unfold yO;refine eM call128 λF hF=>?_
 exact ny
def Qc (xs:List AV) (E:ln xs<=2000) (m:Ms) (h:YE m):zO 59 [.ref 1053 0 (ln xs),yO m] [(1053,.arr 4 xs true)] (.ref 1053 0 (xs++[yO m]).length) [(1053,.arr 4 (xs++[yO m]) true)]:=by
 obtain⟨u,S⟩:=h;have hd:=S.z;have y:=AO m (by rw[u];simp) (by have:=S.l;omega) zB;obtain⟨k,G,B,C⟩:=m;dsimp only at *;subst u;have A:=Rc S;clear hd S;unfold yO at *;dsimp only at *;refine eM call59 λF hF=>?_
 (have gt:=A;have gv:=y;(repeat' (first|refine gM ?_|apply yY|apply xN|intro hc|(apply zG;first|(apply yL;refine wQ tok Z Z ?_))|refine SB ?_|fail))<;>clear gt gv)
 exact zV [1053] Z Z Z Z
def Kv (m:Ms) (h:YE m):zO 59 [.s (.slice none 0 0),yO m] [] (zE yO [m]) []:=by
 obtain⟨u,S⟩:=h;have hd:=S.z;have y:=AO m (by rw[u];simp) (by have:=S.l;omega) zB;obtain⟨k,E,B,C⟩:=m;dsimp only at *;subst u;have A:=Rc S;clear hd S;unfold yO at *;dsimp only at *;refine eM call59 λF hF=>?_
 exact nm (xH A y)
def Jv (ga:Int) (v:List Vw) (u:ln v<=1000) (hb:∀w∈v,CK w):zO 60 [iA ga,zE wE v] [] (yO (PJ ga v)) []:=by
 have k:=Fd v u hb;unfold PJ yO;dsimp only;generalize XF v=r at *;refine eM call60 λF hF=>?_
 refine VR k ?_;refine zH [] Z Z ?_ Z
 show AV.agg [iA 21,zE yA [],zE iA [ga],.sl false (pg (r.map yA).length (r.map yA))]=_
 rw[zAa];rfl
def Pp (ga:Int) (l:List En) (G:ln l<=100000):zO 62 [iA ga,zE bM l] [] (yO (Nh ga l)) []:=by
 have hl:=zA bM l;have y:((ga::((([]:List En).take 16).map gT).flatten).map iA)=[iA ga]:=rfl
 have u:∀p:List En,((ga::((p.take 16).map gT).flatten).map iA).length=1+3*(p.take 16).length:=λp=>by
  rw[f7,zAp];generalize p.take 16=q
  induction q with
  |nil=>rfl
  |cons a q I=>rw[zBc,zC0,zAf,zAp];show 3+_+1=_;omega
 unfold Nh yO;dsimp only;refine eM call62 λF hF=>?_
 refine WW ?_;refine vY 9 Z ?_;refine zU (l) [9,4] [4] [4,10,11] [5,12,4,10,11] Z (λi gd T U=>⟨(5,.ref 9 0 ((ga::((gd.take 16).map gT).flatten).map iA).length)::(12,iA i)::T,(9,.arr 1 ((ga::((gd.take 16).map gT).flatten).map iA) true)::U⟩) (Lq ?_ ?_)
 .intro i gd x post hx hi;have C:=zY bM hx hi;have A:=zX hx hi;have B:=u gd;have z:(gd.take 16).length<=16:=by rw[zA0];omega
  clear hx y u;unfold bM Se at C;by_cases E:i<16
  .have e1:(ga::(((gd++[x]).take 16).map gT).flatten).map iA=(ga::((gd.take 16).map gT).flatten).map iA++[iA x.ag,iA x.ki,iA x.co]:=by
    rw[zAl (l:=gd++[x]) lw,zAl (l:=gd) zB];simp[gT]
   rw[e1];generalize (ga::((gd.take 16).map gT).flatten).map iA=Y at *;refine WW ?_;rfl
  .have e1:(gd++[x]).take 16=gd.take 16:=by rw[List.take_append_of_le_length zB]
   rw[e1];generalize (ga::((gd.take 16).map gT).flatten).map iA=Y at *;refine WW ?_;rfl
 ·(refine WW ?_)
  refine zH [] Z Z ?_ Z
  show AV.agg [iA 18,zE yA [],.sl false (pg ((ga::((l.take 16).map gT).flatten).map iA).length ((ga::((l.take 16).map gT).flatten).map iA)),zE yA []]=_
  rw[zAa];rfl
