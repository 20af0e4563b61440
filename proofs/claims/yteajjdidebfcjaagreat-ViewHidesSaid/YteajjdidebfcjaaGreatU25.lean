/- Part 25. -/
import Derived.Test.YteajjdidebfcjaaGreatU24
import Derived.Lib.SliceRun
namespace Go.Proofs.YteajjdidebfcjaaGreat
namespace Av
open Tryz
set_option linter.all false
set_option maxRecDepth 4000
set_option maxHeartbeats 8000000
def zMw (l:List (List Int)) (hl:l.length<=1073741824):zN 168 [zC qR l] [] (.ref 1005 0 (l.map qR).length) [(1005,.arr 1 (l.map qR) false)]:=by
 have hll:=zA qR l;refine eM call168 λF hF=>?_
 refine yZ 0 Z (λcap hx=>?_) ?_
 ·have:l=[]:=by simpa using hx
  subst this
  (repeat' (first|refine WZN ?_|apply xM|apply xZ|intro hc|fail))
  refine vX 2 1005 1 Z Z Z (yW ?_);exact zK [1005] Z Z Z Z
 ·repeat' (first|(refine zE ?_;first|refine vF tok Z Z ?_|(refine wE ?_;refine yJ (yS tok (.inl ⟨rfl,rfl⟩) Z Z Z Z) Z ?_)|(refine yV ?_;refine uT (nw:=[1005]) (yI tok 1005 (xs:=[]) Z Z Z Z Z Z Z Z Z) Z Z Z ?_)|(refine yK ?_;refine xU tok Z Z Z Z Z Z Z (yC _ _ (λ_=>rfl)) Z Z Z zB Z ?_)|refine uQ ?_)|(first|refine xQ ?_|refine xE ?_|refine vG Z ?_|refine zX Z ?_|refine zU Z ?_|refine xK Z (λhc=>?_) λhc=>?_|refine xA ?_|refine yW ?_|refine xD ?_|refine yU ?_))
  exact zK [1005] Z Z Z Z
def KD (d:xJ):AV:=wJ d.rg (zC yL d.rq) (.ref 1005 0 (d.dr.map qR).length) (zC bA d.au)
def zMx (d:xJ) (hb:dH d):zN 127 [zL d] [] (KD d) [(1005,.arr 1 (d.dr.map qR) false)]:=by
 have k1:=IG d.rg hb.rg;have hq:=hb.q;have hdn:=hb.n;have hau:=hb.a;have k2:=WQ d.rq zB;have k3:=zMw d.dr zB;have k4:=EG d.au zB;have hlq:=zA yL d.rq;have hld:=zA qR d.dr;unfold KD zL wJ;unfold qG at k1;refine eM call127 λF hF=>?_
 refine yQ (wV k1 k2) ?_;refine zO ((d.rq.map yL).length) [1001,1,2] [1,2] [1,2,15] [16,1,2,15] Z (λi T U=>⟨(16,iA i)::T,(1001,.arr 5 (jI i (d.rq.map yL)) false)::U⟩) ?_;(conv=>whnf);refine⟨by rfl,?_,?_⟩
 ·intro i hi;have hi':i<d.rq.length:=by omega
  have hy:(jI i (d.rq.map yL))[i]? =some (yL (d.rq.getD i default)):=zM yL d.rq i hi';have e:=kN yL d.rq i hi';have c2:=bG (d.rq.getD i default).legs (hb.g (d.rq.getD i default) ZF);generalize (d.rq.getD i default)=t at *;generalize jI i (d.rq.map yL)=xs at *;generalize jI (i+1) (d.rq.map yL)=ys at *;subst e;refine zV c2 ?_;rfl
 ·(refine zV k3 ?_)
  refine zO ((d.dr.map qR).length) [1005,1,2,1001] [1,2,1001] [1,2,38] [39,1,2,38] Z (λi T U=>⟨(39,iA i)::T,(1005,.arr 1 (jI i (d.dr.map qR)) false)::U⟩) ?_;(conv=>whnf);refine⟨by rfl,?_,?_⟩
  ·intro i hi;have hi':i<d.dr.length:=by omega
   have hy:(jI i (d.dr.map qR))[i]? =some (qR (d.dr.getD i default)):=zM qR d.dr i hi';have e:=kN qR d.dr i hi';have c2:=wL (d.dr.getD i default) (by have:=hb.e (d.dr.getD i default) ZF;omega);generalize (d.dr.getD i default)=t at *;generalize jI i (d.dr.map qR)=xs at *;generalize jI (i+1) (d.dr.map qR)=ys at *;subst e;refine zV c2 ?_;rfl
  ·(refine zV k4 ?_)
   refine zH [1005] Z Z ?_ Z
   show wJ d.rg (.sl false ((d.rq.map yL).take (d.rq.map yL).length)) (.ref 1005 0 (d.dr.map qR).length) (zC bA d.au)=_
   rw[yAh];rfl
theorem GW (K:List Nat) (h:yG):∀l:List xJ,uY K h (l.map zL)=l.map zL
 | []=>rfl
 |r::l=>by rw[yBs,uY,GW K h l];rfl
theorem MQ (K:List Nat) (h:yG):∀l:List xJ,wQ K h (l.map zL)=l.map zL
 | []=>rfl
 |r::l=>by rw[yBs,wQ,MQ K h l];rfl
theorem QE:∀l:List xJ,wG (l.map zL)=true
 | []=>rfl
 |r::l=>by rw[yBs,wG,QE l];rfl
def jF (pre:List xJ) (x:xJ) (post:List xJ):List AV:=pre.map zL++KD x::post.map zL
def MR (pre:List xJ) (x:xJ) (post:List xJ):(jF pre x post).length=pre.length+1+post.length:=by simp[jF];omega
def zMy {K:List Nat} (hK:K.contains 1005=true) (h:yG) (pre:List xJ) (x:xJ) (post:List xJ) (b:Bool):qW K h (.arr 17 (jF pre x post) ⟨b,true⟩)= .arr 17 (jF pre x post) ⟨b,true⟩:=by
 have e:uY K h (jF pre x post)=jF pre x post:=by
  unfold jF;rw[NB,GW,uY,GW]
  congr 2
  have er:wP K h (.ref 1005 0 (x.dr.map qR).length)= .ref 1005 0 (x.dr.map qR).length:=by
   unfold wP;rw[hK];rfl
  show AV.agg [_,_,_,_,_,_,_,_,_,_,_,_,_,_,_,wP K h (.ref 1005 0 (x.dr.map qR).length),_]=_
  rw[er];rfl
 have e2:wG (jF pre x post)=false:=by
  unfold jF;rw[VA,QE,wG];rfl
 show xO.arr 17 (uY K h (jF pre x post)) ⟨b,!wG (uY K h (jF pre x post))⟩=_
 rw[e,e2];rfl
def zRw (pre:List xJ) (x:xJ) (post:List xJ):(jF pre x post)[pre.length]? =some (KD x):=by
 unfold jF;rw[yA4 zS,yAe,yCm];rfl
def zEl {pre:List xJ} {x:xJ} {post l:List xJ} (hL:l=pre++x::post):(l.map zL).set pre.length (KD x)=jF pre x post:=by
 subst hL;unfold jF;rw[yAn,yBs,yDk _ _ zS,yAe,yCm];rfl
def zGs {pre:List xJ} {x:xJ} {post l:List xJ} (hL:l=pre++x::post) {i:Nat} (h1:pre.length<i) (h2:i<l.length):(jF pre x post)[i]? =some (zL (l.getD i default)):=by
 subst hL;rw[<-zEl Z,yEg zB];exact zM zL _ i h2
def zWu (y:Cy) (pre:List xJ) (x:xJ) (post:List xJ):AV:=XU y.c y.rf y.now (.ref 1011 0 y.ds.length) (zC vH y.sg) (zC vD y.sv) (zC iA y.st) (zC vA y.vw)
theorem zMz (y:Cy) (h:CyB y) (pre:List xJ) (x:xJ) (post:List xJ) (hL:y.ds=pre++x::post):zN 116 [qA y] [] (zWu y pre x post) [(1011,.arr 17 (jF pre x post) ⟨false,true⟩),(1005,.arr 1 (x.dr.map qR) false)]:=by
 have k1:=YF y.ds (by have:=h.d;omega);have k2:=YH y.sg (by have:=h.g;omega);have k3:=YI y.sv (by have:=h.s;omega);have k4:=YJ y.st (by have:=h.t;omega);have k5:=XL y.vw h.v h.vb;have hl1:=zA zL y.ds;have hl2:=zA vH y.sg;have hl3:=zA vD y.sv;have hl4:=zA iA y.st;have hd:=h.d;have hg:=h.g;have hs:=h.s;have hlen:y.ds.length=pre.length+1+post.length:=by rw[hL];simp;omega
 have hcl:=MR pre x post;have hfr:∀(K:List Nat) (H:yG),K.contains 1005=true->qW K H (.arr 17 (jF pre x post) ⟨false,true⟩)= .arr 17 (jF pre x post) ⟨false,true⟩:=λK H hK=>zMy hK H pre x post false
 unfold qA zWu XU;refine eM call116 λF hF=>?_
 refine zV k1 ?_;rw[hl1]
 refine vB (λn st=>∃i,n+i=y.ds.length/\st=if i<=pre.length then(⟨[(13,iA i),(1,.ptr 1 0 0),(2,.ptr 2 0 0),(12,iA y.ds.length)],[(1,.box [zC wC y.c.js,zC wK y.c.ags,iA y.c.per,iA y.c.cap,iA y.c.hold,iA y.c.lock,bA y.rf,iA y.now,.ref 1011 0 y.ds.length,zC vH y.sg,zC vD y.sv,zC iA y.st,zC vA y.vw]),(2,.box [.s (.slice none 0 0),.s (.slice none 0 0),iA 0,iA 0,iA 0,iA 0,bA false,iA 0,.s (.slice none 0 0),.s (.slice none 0 0),.s (.slice none 0 0),.s (.slice none 0 0),.s (.slice none 0 0)]),(1011,.arr 17 (y.ds.map zL) false)]⟩:St)
  else⟨[(13,iA i),(1,.ptr 1 0 0),(2,.ptr 2 0 0),(12,iA y.ds.length)],[(1,.box [zC wC y.c.js,zC wK y.c.ags,iA y.c.per,iA y.c.cap,iA y.c.hold,iA y.c.lock,bA y.rf,iA y.now,.ref 1011 0 y.ds.length,zC vH y.sg,zC vD y.sv,zC iA y.st,zC vA y.vw]),(2,.box [.s (.slice none 0 0),.s (.slice none 0 0),iA 0,iA 0,iA 0,iA 0,bA false,iA 0,.s (.slice none 0 0),.s (.slice none 0 0),.s (.slice none 0 0),.s (.slice none 0 0),.s (.slice none 0 0)]),(1011,.arr 17 (jF pre x post) ⟨false,true⟩),(1005,.arr 1 (x.dr.map qR) false)]⟩) y.ds.length [1,2,1011,1005] [13,1,2,12] Z ⟨0,zB,by rw[yAd (yAt _)];rfl⟩ ?_
 rintro n st ⟨i,hi,rfl⟩;by_cases hip:i<pre.length
 ·rw[yAd zB];have hil:i<y.ds.length:=by omega
  have hy:=zM zL y.ds i hil;have c2:=bE (y.ds.getD i default) (h.db _ (zQ y.ds i hil));have e:=kN zL y.ds i hil;generalize y.ds.getD i default=d at *;generalize y.ds.map zL=xs at *;have hsame:=fM hy;refine zV c2 ?_;refine⟨n-1,zB,i+1,zB,?_⟩;rw[yAd zB]
  show(⟨_,[_,_,(1011,.arr 17 (xs.set i (zL d)) false)]⟩:St)=_
  rw[hsame];rfl
 by_cases hie:i=pre.length
 ·rw[yAd zB];subst hie;have hil:pre.length<y.ds.length:=by omega
  have hx:y.ds.getD pre.length default=x:=by rw[hL,yAk,yA4 (yAg _),yCm];rfl
  have hy:=zM zL y.ds pre.length hil;have c2:=zMx (y.ds.getD pre.length default) (h.db _ (zQ y.ds pre.length hil));rw[hx]at hy c2;have hof:=zEl hL;generalize y.ds.map zL=xs at *;refine NL 1011 Z ?_;unfold KD at c2;refine zV c2 ?_;refine⟨n-1,zB,pre.length+1,zB,?_⟩;rw[yAc zB]
  show(⟨_,[_,_,(1011,qW _ _ (.arr 17 (xs.set pre.length (KD x)) ⟨false,true⟩)),_]⟩:St)=_
  rw[hof,hfr _ _ Z];rfl
 rw[yAc zB];by_cases hil:i<y.ds.length
 ·have hy:=zGs hL zB hil;have c2:=bE (y.ds.getD i default) (h.db _ (zQ y.ds i hil));have hsame:=fM hy;generalize y.ds.getD i default=d at *;generalize jF pre x post=cs at *;refine zV c2 ?_;refine⟨n-1,zB,i+1,zB,?_⟩;rw[yAc zB]
  show(⟨_,[_,_,(1011,qW _ _ (.arr 17 (cs.set i (zL d)) ⟨false,true⟩)),_]⟩:St)=_
  rw[hsame,hfr _ _ Z];rfl
 have hie2:i=y.ds.length:=by omega
 subst hie2;generalize jF pre x post=cs at *;refine zV k2 ?_;rw[hl2];refine vB (λn st=>∃i,n+i=y.sg.length/\st=(⟨[(34,iA i),(1,.ptr 1 0 0),(2,.ptr 2 0 0),(33,iA y.sg.length)],[(1,.box [zC wC y.c.js,zC wK y.c.ags,iA y.c.per,iA y.c.cap,iA y.c.hold,iA y.c.lock,bA y.rf,iA y.now,.ref 1011 0 y.ds.length,.ref 1012 0 y.sg.length,zC vD y.sv,zC iA y.st,zC vA y.vw]),(2,.box [.s (.slice none 0 0),.s (.slice none 0 0),iA 0,iA 0,iA 0,iA 0,bA false,iA 0,.s (.slice none 0 0),.s (.slice none 0 0),.s (.slice none 0 0),.s (.slice none 0 0),.s (.slice none 0 0)]),(1011,.arr 17 cs ⟨false,true⟩),(1005,.arr 1 (x.dr.map qR) false),(1012,.arr 5 (y.sg.map vH) false)]⟩:St)) y.sg.length [1,2,1011,1005,1012] [34,1,2,33] Z ⟨0,zB,?_⟩ ?_
 ·show(⟨_,[_,_,(1011,qW _ _ (.arr 17 cs ⟨false,true⟩)),_,_]⟩:St)=_
  rw[hfr _ _ Z];rfl
 rintro n st ⟨i,hi2,rfl⟩;by_cases hil:i<y.sg.length
 ·have hy:=zM vH y.sg i hil;have hgb:=h.gb _ (zQ y.sg i hil);have c2:=zD6 (y.sg.getD i default) zB zB;have hsame:=fM hy;generalize y.sg.getD i default=d at *;generalize y.sg.map vH=xs at *;refine zV c2 ?_;refine⟨n-1,zB,i+1,zB,?_⟩
  show(⟨_,[_,_,(1011,qW _ _ (.arr 17 cs ⟨false,true⟩)),_,(1012,.arr 5 (xs.set i (vH d)) false)]⟩:St)=_
  rw[hsame,hfr _ _ Z];rfl
 have hie3:i=y.sg.length:=by omega
 subst hie3;refine zV k3 ?_;rw[hl3];refine vB (λn st=>∃i,n+i=y.sv.length/\st=(⟨[(55,iA i),(1,.ptr 1 0 0),(2,.ptr 2 0 0),(54,iA y.sv.length)],[(1,.box [zC wC y.c.js,zC wK y.c.ags,iA y.c.per,iA y.c.cap,iA y.c.hold,iA y.c.lock,bA y.rf,iA y.now,.ref 1011 0 y.ds.length,.ref 1012 0 y.sg.length,.ref 1013 0 y.sv.length,zC iA y.st,zC vA y.vw]),(2,.box [.s (.slice none 0 0),.s (.slice none 0 0),iA 0,iA 0,iA 0,iA 0,bA false,iA 0,.s (.slice none 0 0),.s (.slice none 0 0),.s (.slice none 0 0),.s (.slice none 0 0),.s (.slice none 0 0)]),(1011,.arr 17 cs ⟨false,true⟩),(1005,.arr 1 (x.dr.map qR) false),(1012,.arr 5 (y.sg.map vH) false),(1013,.arr 3 (y.sv.map vD) false)]⟩:St)) y.sv.length [1,2,1011,1005,1012,1013] [55,1,2,54] Z ⟨0,zB,?_⟩ ?_
 ·show(⟨_,[_,_,(1011,qW _ _ (.arr 17 cs ⟨false,true⟩)),_,_,_]⟩:St)=_
  rw[hfr _ _ Z];rfl
 rintro n st ⟨i,hi3,rfl⟩;by_cases hil:i<y.sv.length
 ·have hy:=zM vD y.sv i hil;have hsb:=h.sb _ (zQ y.sv i hil);have c2:=SA (y.sv.getD i default) ⟨zB⟩;have hsame:=fM hy;generalize y.sv.getD i default=d at *;generalize y.sv.map vD=xs at *;refine zV c2 ?_;refine⟨n-1,zB,i+1,zB,?_⟩
  show(⟨_,[_,_,(1011,qW _ _ (.arr 17 cs ⟨false,true⟩)),_,_,(1013,.arr 3 (xs.set i (vD d)) false)]⟩:St)=_
  rw[hsame,hfr _ _ Z];rfl
 have hie4:i=y.sv.length:=by omega
 subst hie4;refine yQ (wV k4 k5) ?_;refine zH [1011,1005] Z Z ?_ ?_
 ·show AV.agg [zC wC y.c.js,zC wK y.c.ags,iA y.c.per,iA y.c.cap,iA y.c.hold,iA y.c.lock,bA y.rf,iA y.now,.ref 1011 0 y.ds.length,.sl false (List.take y.sg.length (y.sg.map vH)),.sl false (List.take y.sv.length (y.sv.map vD)),.sl false (List.take (y.st.map iA).length (y.st.map iA)),zC vA y.vw]=_
  rw[yAo (yCf hl2),yAo (yCf hl3),yAh];rfl
 ·show [(1011,qW _ _ (.arr 17 cs ⟨false,true⟩)),(1005,_)]=_
  rw[hfr _ _ Z];rfl
def zM0 {h:yG} {pre post:List xJ} {x:xJ} {b fl:Bool} (h1:h 1011=some (.arr 17 (jF pre x post) ⟨b,true⟩)) (h2:h 1005=some (.arr 1 (x.dr.map qR) ⟨fl,false⟩)):
  wP [] h (.ref 1011 0 (jF pre x post).length)=zC zL (pre++x::post):=by
 have e:wQ [] h (jF pre x post)=(pre++x::post).map zL:=by
  unfold jF;rw[RL,MQ,wQ,MQ,yAn,yBs]
  congr 1
  congr 1
  have e2:qC [] h (.ref 1005 0 (x.dr.map qR).length)=zC qR x.dr:=by
   simp only[qC,h2]
   show AV.sl false (((x.dr.map qR).drop 0).take (x.dr.map qR).length)=_
   rw[yBf,yAh];rfl
  show AV.agg [_,_,_,_,_,_,_,_,_,_,_,_,_,_,_,qC [] h (.ref 1005 0 (x.dr.map qR).length),_]=_
  rw[e2];rfl
 have hl2:(jF pre x post).length=((pre++x::post).map zL).length:=by rw[MR];simp;omega
 rw[hl2];simp only[wP,h1]
 show(bif wG (wQ [] h (jF pre x post))then AV.sl false (((wQ [] h (jF pre x post)).drop 0).take _)else .bot)=_
 rw[e,QE,yBf,yAh];rfl
def drD (d:xJ) (x:List Int):xJ:=⟨d.rg,d.rq,d.dr++[x],d.au⟩
def GX (y:Cy) (a:Int) (x:List Int):Cy:=if(0<=a/\a<(y.ds.length:Int))/\x.length=8/\(y.ds.getD a.toNat default).dr.length<8 then⟨y.c,false,y.now,y.ds.set a.toNat (drD (y.ds.getD a.toNat default) x),y.sg,y.sv,y.st,y.vw⟩else y
theorem zM1 (y:Cy) (h:CyI y) (a:Int) (d:List Int) (hd:BY d) (hd9:d.length<=1000000):∃y':Cy,CyI y'/\y'=GX y a d/\zN 82 [qA y,iA a,zC yA d] [] (qA y') []:=by
 have hb:=h.b;have hrf:=h.rf;have hdl:=zA zL y.ds;have hdm:=zA yA d;have eC:qA y= .agg [zC wC y.c.js,zC wK y.c.ags,iA y.c.per,iA y.c.cap,iA y.c.hold,iA y.c.lock,bA false,iA y.now,zC zL y.ds,zC vH y.sg,zC vD y.sv,zC iA y.st,zC vA y.vw]:=by rw[<-hrf];rfl
 by_cases ha:0<=a/\a<(y.ds.length:Int)
 case neg=>
  refine⟨y,h,by unfold GX;rw[yAc (λh=>ha h.1)],?_⟩;have k1:=YL y hb;rw[eC]at k1⊢;by_cases h0:a<0
  ·(refine eM call82 λF hF=>?_)
   refine zV k1 ?_;exact zJ
  ·(refine eM call82 λF hF=>?_)
   refine zV k1 ?_;exact zJ
 obtain⟨a0,a1⟩:=ha;by_cases h8:d.length=8
 case neg=>
  refine⟨y,h,by unfold GX;rw[yAc (λh=>h8 h.2.1)],?_⟩;have k1:=YL y hb;rw[eC]at k1⊢;refine eM call82 λF hF=>?_
  refine zV k1 ?_;exact zJ
 have hyd:=yN zL y.ds a a0 a1;have hI:=h.di _ (zQ y.ds a.toNat zB);have hdn:=hI.dn;by_cases hr:(y.ds.getD a.toNat default).dr.length<8
 case neg=>
  refine⟨y,h,by unfold GX;rw[yAc (λh=>hr h.2.2)],?_⟩;have k1:=MK y hb;unfold zK0 zK1 XU at k1;rw[eC,hrf]at k1;rw[eC];generalize y.ds.getD a.toNat default=x at *;have hxl:=zA qR x.dr;unfold zL wJ at hyd;refine eM call82 λF hF=>?_
  (have zc1:=k1;(repeat' (first|refine uP ?_|apply xM|apply xZ|intro hc|(refine zE ?_;first|(refine RN ?_;refine yJ (uI Z Z hyd) Z ?_))|fail))<;>clear zc1)
  refine zH [] Z Z ?_ Z
  show AV.agg [zC wC y.c.js,zC wK y.c.ags,iA y.c.per,iA y.c.cap,iA y.c.hold,iA y.c.lock,bA false,iA y.now,.sl false (List.take (y.ds.map zL).length (y.ds.map zL)),.sl false (List.take (y.sg.map vH).length (y.sg.map vH)),.sl false (List.take (y.sv.map vD).length (y.sv.map vD)),.sl false (List.take (y.st.map iA).length (y.st.map iA)),zC vA y.vw]=_
  rw[yAh,yAh,yAh,yAh];rfl
 obtain⟨n,hn⟩:∃n:Nat,a=(n:Int):=⟨a.toNat,zB⟩;subst hn;have hnl:n<y.ds.length:=by omega
 rw[yBq]at hI hr hdn
 have hL:y.ds=y.ds.take n++y.ds.getD n default::y.ds.drop (n+1):=by
  rw[yAk,yAr hnl]
  show _=_++y.ds[n]::_
  rw[<-yCw hnl,yC2]
 have hpn:(y.ds.take n).length=n:=by rw[yAw];omega
 have k1:=zMz y hb (y.ds.take n) (y.ds.getD n default) (y.ds.drop (n+1)) hL;have k2:=wL d zB;have hat:=zRw (y.ds.take n) (y.ds.getD n default) (y.ds.drop (n+1));have hcl:=MR (y.ds.take n) (y.ds.getD n default) (y.ds.drop (n+1));rw[hpn]at hat hcl;have hcl2:(jF (y.ds.take n) (y.ds.getD n default) (y.ds.drop (n+1))).length=y.ds.length:=by rw[hcl,yA7];omega
 have hset:∀D:List (List Int),(jF (y.ds.take n) (y.ds.getD n default) (y.ds.drop (n+1))).set n (KD ⟨(y.ds.getD n default).rg,(y.ds.getD n default).rq,D,(y.ds.getD n default).au⟩)=jF (y.ds.take n) ⟨(y.ds.getD n default).rg,(y.ds.getD n default).rq,D,(y.ds.getD n default).au⟩ (y.ds.drop (n+1)):=λD=>by
  unfold jF;rw[yDk _ _ (by rw[yAe,hpn];exact yAg _),yAe,hpn,yCm];rfl
 have hds:∀x':xJ,y.ds.take n++x'::y.ds.drop (n+1)=y.ds.set n x':=λx'=>by
  rw[List.set_eq_take_append_cons_drop,yAd hnl]
 refine⟨⟨y.c,false,y.now,y.ds.set n ⟨(y.ds.getD n default).rg,(y.ds.getD n default).rq,(y.ds.getD n default).dr++[d],(y.ds.getD n default).au⟩,y.sg,y.sv,y.st,y.vw⟩,⟨h.v,rfl,h.n0,by dsimp only;rw[yB7];exact h.dl,λz hz=>?_,λi hi=>?_,λz hz=>?_,h.gl,h.sl,h.tl,h.wl,h.wb,h.j⟩,by unfold GX;rw[yBq,yAd ⟨⟨a0,a1⟩,h8,hr⟩];rfl,?_⟩
 ·rcases yC8 hz with hz|rfl
  ·exact h.di z hz
  ·refine⟨hI.b,hI.v,hI.q,hI.lg,hI.a,hI.n,hI.t8,hI.br,hI.bb,hI.bl,hI.au,?_,λx hx=>?_,hI.vh⟩
   ·dsimp only;rw[yAf];simp only[yAp,yBk];omega
   ·rcases yAz.1 hx with hx|hx
    ·exact hI.dr x hx
    ·rw[yBe.1 hx];exact⟨h8,hd⟩
 ·dsimp only at hi⊢;rw[yB7]at hi;rw[dF _ _ _ _ hi];split
  ·rename_i e;rw[<-e];exact h.dg n hnl
  ·exact h.dg i hi
 ·rcases yC8 hz with hz|rfl
  ·exact h.sc z hz
  ·exact h.sc (y.ds.getD n default) (zQ y.ds n hnl)
 ·unfold zWu XU at k1;rw[eC,hrf]at k1;rw[eC,<-hds];have hfin:=λH fl h1 h2=>zM0 (h:=H) (pre:=y.ds.take n) (post:=y.ds.drop (n+1)) (x:=⟨(y.ds.getD n default).rg,(y.ds.getD n default).rq,(y.ds.getD n default).dr++[d],(y.ds.getD n default).au⟩) (b:=false) (fl:=fl) h1 h2
  rw[<-hset]at hfin;clear hL hds hset hyd hI hcl;rw[show∀l:List xJ,qA ⟨y.c,false,y.now,l,y.sg,y.sv,y.st,y.vw⟩= .agg [zC wC y.c.js,zC wK y.c.ags,iA y.c.per,iA y.c.cap,iA y.c.hold,iA y.c.lock,bA false,iA y.now,zC zL l,zC vH y.sg,zC vD y.sv,zC iA y.st,zC vA y.vw]from λ_=>rfl];generalize y.ds.getD n default=x at *;generalize jF (y.ds.take n) x (y.ds.drop (n+1))=cs at *;have hxl:=zA qR x.dr;unfold KD wJ at hat;refine eM call82 λF hF=>?_
  (have zc1:=k1;have zc2:=k2;(repeat' (first|refine uP ?_|apply xM|apply xZ|intro hc|(refine zE ?_;first|(refine RN ?_;refine yJ (uI Z Z hat) Z ?_))|fail))<;>clear zc1 zc2)
  simp only[KD,yAn]at hfin;rw[yB7,hcl2]at hfin;refine zH [] Z Z ?_ Z;refine(yBa (λw=>AV.agg [zC wC y.c.js,zC wK y.c.ags,iA y.c.per,iA y.c.cap,iA y.c.hold,iA y.c.lock,bA false,iA y.now,VH w,zC vH y.sg,zC vD y.sv,zC iA y.st,zC vA y.vw]) (hfin _ true ?_ ?_)).trans ?_
  ·rfl
  ·rfl
  ·rfl
def inR (b:WI) (k:Int):Bool:=decide (0<=k/\k<(b.ss.length:Int))
def ssF (e:Ev) (s:Ss):Ss:=if e.k=1 then(if s.op=true then s else⟨true,false,[],false⟩)else if e.k=2 then⟨false,false,[],false⟩else BE s e.y
def doS (b:WI) (e:Ev):WI:=if inR b e.s=true then⟨b.y,b.ss.set e.s.toNat (ssF e (b.ss.getD e.s.toNat default))⟩else b
def sd0:AV:= .agg [.sl false [],.sl false []]
def dyF (y:Cy) (e:Ev):Cy:=if e.k=4 then GX y e.a e.y else AF y e.a e.b
def dqF (d:xJ):Int×List Rq:=(d.rg.num,d.rq)
def zGt {α:Type} {l:List α} {i:Nat} {x:α} (h:l[i]? =some x):l.set i x=l:=by
 apply yBj;intro j;rw[yCn];split
 ·rename_i e;subst e;have:=(yA5.1 h).1;rw[yAd this,h]
 ·rfl
def GY {y:Cy} (hrf:y.rf=false) (e:Ev):(dyF y e).c=y.c/\(dyF y e).now=y.now/\(dyF y e).sg=y.sg/\(dyF y e).sv=y.sv/\(dyF y e).vw=y.vw/\(dyF y e).ds.map dqF=y.ds.map dqF:=by
 unfold dyF;split
 ·unfold GX;split
  ·rename_i hc;refine⟨rfl,rfl,rfl,rfl,rfl,?_⟩
   show(y.ds.set _ _).map dqF=_
   rw[yCk];refine zGt (yAi.trans ?_);rw[yAk,yAr zB];rfl
  ·exact⟨rfl,rfl,rfl,rfl,rfl,rfl⟩
 ·unfold AF
  split<;>exact⟨rfl,rfl,rfl,rfl,rfl,rfl⟩
section
variable (b:WI) (h:LF b)
include h
def zCb:∃N:Nat,b.ss.length=N/\N<=8:=by
 have hw:=h.y.v.ag;have h1:=h.l;have h2:=kQ hw b.y.c.ags.length (yAg _);have h3:=hw.1;exact⟨_,rfl,zB⟩
theorem zZ6 (e:Ev) (hk:e.k=1∨e.k=2∨e.k=3) (hb:BY e.y) (hl:e.y.length<=1000000):zN 45 [bB b,vC e] [] (.tup [bB (doS b e),sd0,bA false]) []:=by
 obtain⟨N,hN,hN8⟩:=zCb b h;have k1:=UD b h;have hs:=h.s;have hsl:=zA kM b.ss;obtain⟨y,ss⟩:=b;dsimp only at *;unfold doS inR;dsimp only;unfold bB UC at *;dsimp only at *;by_cases hr:0<=e.s/\e.s<(ss.length:Int)
 ·rw[yAd (yAj hr)];obtain⟨r0,r1⟩:=hr;have hy:=yN kM ss e.s r0 r1;have hI:=hs _ (zQ ss e.s.toNat zB);have hIn:=hI.n;have ko:=zEu (ss.getD e.s.toNat default) zB;have kd:=zR2 (ss.getD e.s.toNat default);have kr:=zW1 (ss.getD e.s.toNat default) hIn e.y hl;dsimp only;rw[show zC kM (ss.set e.s.toNat (ssF e (ss.getD e.s.toNat default)))= .sl false ((ss.map kM).set e.s.toNat (kM (ssF e (ss.getD e.s.toNat default)))) by unfold zC;rw[yCk]];unfold ssF;clear hI;obtain⟨ek,es,ea,en,eb⟩:=e;dsimp only at *;generalize ss.getD es.toNat default=s at*
  rcases hk with rfl|rfl|rfl
  ·rw[yAd Z];generalize (if s.op=true then s else⟨true,false,[],false⟩:Ss)=s1 at *;unfold vC;refine eM call45 λF hF=>?_
   refine yQ (wV k1 ko) ?_;refine zH [] Z Z ?_ Z
   show AV.tup [AV.agg [zC wC y.c.js,zC wK y.c.ags,iA y.c.per,iA y.c.cap,iA y.c.hold,iA y.c.lock,bA false,iA y.now,zC zL y.ds,zC vH y.sg,zC vD y.sv,zC iA y.st,zC vA y.vw,.sl false (List.take ss.length ((ss.map kM).set es.toNat (kM s1)))],sd0,bA false]=_
   rw[yAo zJ1]
  ·rw[yAc xL,yAd Z];unfold vC;refine eM call45 λF hF=>?_
   refine yQ (wV k1 kd) ?_;refine zH [] Z Z ?_ Z
   show AV.tup [AV.agg [zC wC y.c.js,zC wK y.c.ags,iA y.c.per,iA y.c.cap,iA y.c.hold,iA y.c.lock,bA false,iA y.now,zC zL y.ds,zC vH y.sg,zC vD y.sv,zC iA y.st,zC vA y.vw,.sl false (List.take ss.length ((ss.map kM).set es.toNat (kM ⟨false,false,[],false⟩)))],sd0,bA false]=_
   rw[yAo zJ1]
  ·rw[yAc xL,yAc xL];unfold vC;refine eM call45 λF hF=>?_
   refine yQ (wV k1 kr) ?_;refine zH [] Z Z ?_ Z
   show AV.tup [AV.agg [zC wC y.c.js,zC wK y.c.ags,iA y.c.per,iA y.c.cap,iA y.c.hold,iA y.c.lock,bA false,iA y.now,zC zL y.ds,zC vH y.sg,zC vD y.sv,zC iA y.st,zC vA y.vw,.sl false (List.take ss.length ((ss.map kM).set es.toNat (kM (BE s eb))))],sd0,bA false]=_
   rw[yAo zJ1]
 ·rw[yAc (by rw[yAm];exact hr)];dsimp only;obtain⟨ek,es,ea,en,eb⟩:=e;dsimp only at*
  rcases hk with rfl|rfl|rfl
  all_goals
   unfold vC;dsimp only;by_cases h0:es<0
   ·(refine eM call45 λF hF=>?_)
    refine zV k1 ?_;refine zH [] Z Z ?_ Z
    show AV.tup [AV.agg [zC wC y.c.js,zC wK y.c.ags,iA y.c.per,iA y.c.cap,iA y.c.hold,iA y.c.lock,bA false,iA y.now,zC zL y.ds,zC vH y.sg,zC vD y.sv,zC iA y.st,zC vA y.vw,.sl false (List.take ss.length (ss.map kM))],sd0,bA false]=_
    rw[yAo (yCf hsl)];rfl
   ·(refine eM call45 λF hF=>?_)
    refine zV k1 ?_;refine zH [] Z Z ?_ Z
    show AV.tup [AV.agg [zC wC y.c.js,zC wK y.c.ags,iA y.c.per,iA y.c.cap,iA y.c.hold,iA y.c.lock,bA false,iA y.now,zC zL y.ds,zC vH y.sg,zC vD y.sv,zC iA y.st,zC vA y.vw,.sl false (List.take ss.length (ss.map kM))],sd0,bA false]=_
    rw[yAo (yCf hsl)];rfl
theorem zZ7 (e:Ev) (hk:e.k=4∨e.k=5) (hb:BY e.y) (hl:e.y.length<=1000000):∃y':Cy,CyI y'/\y'=dyF b.y e/\zN 45 [bB b,vC e] [] (.tup [bB ⟨y',b.ss⟩,sd0,bA false]) []:=by
 obtain⟨N,hN,hN8⟩:=zCb b h;have k1:=UD b h;have hsl:=zA kM b.ss;obtain⟨y,ss⟩:=b;have hy:=h.y;dsimp only at *;obtain⟨ek,es,ea,en,eb⟩:=e;dsimp only at*
 rcases hk with rfl|rfl
 ·obtain⟨y',i1,i2,kd⟩:=zM1 y hy ea eb hb hl;refine⟨y',i1,by rw[i2];rfl,?_⟩;have hrf:=hy.rf;have hrf':=i1.rf;have eC:qA y= .agg [zC wC y.c.js,zC wK y.c.ags,iA y.c.per,iA y.c.cap,iA y.c.hold,iA y.c.lock,bA false,iA y.now,zC zL y.ds,zC vH y.sg,zC vD y.sv,zC iA y.st,zC vA y.vw]:=by rw[<-hrf];rfl
  have eC':qA y'= .agg [zC wC y'.c.js,zC wK y'.c.ags,iA y'.c.per,iA y'.c.cap,iA y'.c.hold,iA y'.c.lock,bA false,iA y'.now,zC zL y'.ds,zC vH y'.sg,zC vD y'.sv,zC iA y'.st,zC vA y'.vw]:=by rw[<-hrf'];rfl
  rw[eC,eC']at kd;unfold bB UC at *;dsimp only at *;unfold vC;dsimp only;by_cases h0:es<0
  ·(refine eM call45 λF hF=>?_)
   refine yQ (wV k1 kd) ?_;refine zH [] Z Z ?_ Z
   show AV.tup [AV.agg [zC wC y'.c.js,zC wK y'.c.ags,iA y'.c.per,iA y'.c.cap,iA y'.c.hold,iA y'.c.lock,bA false,iA y'.now,zC zL y'.ds,zC vH y'.sg,zC vD y'.sv,zC iA y'.st,zC vA y'.vw,.sl false (List.take ss.length (ss.map kM))],sd0,bA false]=_
   rw[yAo (yCf hsl)];rfl
  ·(refine eM call45 λF hF=>?_)
   refine yQ (wV k1 kd) ?_;refine zH [] Z Z ?_ Z
   show AV.tup [AV.agg [zC wC y'.c.js,zC wK y'.c.ags,iA y'.c.per,iA y'.c.cap,iA y'.c.hold,iA y'.c.lock,bA false,iA y'.now,zC zL y'.ds,zC vH y'.sg,zC vD y'.sv,zC iA y'.st,zC vA y'.vw,.sl false (List.take ss.length (ss.map kM))],sd0,bA false]=_
   rw[yAo (yCf hsl)];rfl
 ·obtain⟨y',i1,i2,kd⟩:=zGu y hy ea en;refine⟨y',i1,by rw[i2];rfl,?_⟩;have hrf:=hy.rf;have hrf':=i1.rf;have eC:qA y= .agg [zC wC y.c.js,zC wK y.c.ags,iA y.c.per,iA y.c.cap,iA y.c.hold,iA y.c.lock,bA false,iA y.now,zC zL y.ds,zC vH y.sg,zC vD y.sv,zC iA y.st,zC vA y.vw]:=by rw[<-hrf];rfl
  have eC':qA y'= .agg [zC wC y'.c.js,zC wK y'.c.ags,iA y'.c.per,iA y'.c.cap,iA y'.c.hold,iA y'.c.lock,bA false,iA y'.now,zC zL y'.ds,zC vH y'.sg,zC vD y'.sv,zC iA y'.st,zC vA y'.vw]:=by rw[<-hrf'];rfl
  rw[eC,eC']at kd;unfold bB UC at *;dsimp only at *;unfold vC;dsimp only;by_cases h0:es<0
  ·(refine eM call45 λF hF=>?_)
   refine yQ (wV k1 kd) ?_;refine zH [] Z Z ?_ Z
   show AV.tup [AV.agg [zC wC y'.c.js,zC wK y'.c.ags,iA y'.c.per,iA y'.c.cap,iA y'.c.hold,iA y'.c.lock,bA false,iA y'.now,zC zL y'.ds,zC vH y'.sg,zC vD y'.sv,zC iA y'.st,zC vA y'.vw,.sl false (List.take ss.length (ss.map kM))],sd0,bA false]=_
   rw[yAo (yCf hsl)];rfl
  ·(refine eM call45 λF hF=>?_)
   refine yQ (wV k1 kd) ?_;refine zH [] Z Z ?_ Z
   show AV.tup [AV.agg [zC wC y'.c.js,zC wK y'.c.ags,iA y'.c.per,iA y'.c.cap,iA y'.c.hold,iA y'.c.lock,bA false,iA y'.now,zC zL y'.ds,zC vH y'.sg,zC vD y'.sv,zC iA y'.st,zC vA y'.vw,.sl false (List.take ss.length (ss.map kM))],sd0,bA false]=_
   rw[yAo (yCf hsl)];rfl
theorem SO (ss:List Ss):bC ss ss.length=ss.map λs=>(UE s).1:=by
 unfold bC;apply yBj;intro j;rw[uO,yAi];by_cases hj:j<ss.length
 ·rw[yAd hj,yAd hj,yAr hj];simp only[Option.map_some,yAk,yAr hj,yCh]
 ·rw[yAc hj,yA1 zB];rfl
def zZ8 (hn:b.y.now<1000000000) (e:Ev) (hk:e.k=6):∃(y':Cy) (Td:List (List Ms)),MtP b.y y' (kC b.ss) Td/\zN 118 [qA b.y,zC kL (kC b.ss)] [] (.tup [qA y',tdO Td (KE (b.y.now+1) y'.vw)]) (tdH Td)/\zN 45 [bB b,vC e] [] (.tup [bB ⟨y',bC b.ss b.ss.length⟩,sdA (Td.map qN) (qN [KE (b.y.now+1) y'.vw]),bA true]) []:=by
 obtain⟨N,hN,hN8⟩:=zCb b h;have k1:=UD b h;have hlen:(kC b.ss).length=b.ss.length:=by unfold kC;rw[yAe]
 obtain⟨y',Td,hM,km⟩:=zM5 b.y h.y hn (kC b.ss) (by rw[hlen];exact h.l) (λi hi=>by
  unfold kC at hi;obtain⟨s,hs,rfl⟩:=yBl.1 hi
  exact(zNf (h.s s hs)).2)
 have kd:=zM8 b h y' Td hM (zWw km);refine⟨y',Td,hM,km,?_⟩;have hsl:=zA kM b.ss;have hsl2:((bC b.ss b.ss.length).map kM).length=b.ss.length:=by unfold bC;rw[yAe,wZ]
 clear km;obtain⟨y,ss⟩:=b;obtain⟨ek,es,ea,en,eb⟩:=e;dsimp only at *;subst hk;unfold sdA at *;generalize Td.map qN=S at *;generalize qN [KE (y.now+1) y'.vw]=fb at *;unfold bB UC at *;dsimp only at *;rw[show zC kM (bC ss ss.length)= .sl false ((bC ss ss.length).map kM)from Z];generalize (bC ss ss.length).map kM=X at *;unfold vC;dsimp only;by_cases h0:es<0
 ·(refine eM call45 λF hF=>?_)
  refine yQ (wV k1 kd) ?_;refine zH [] Z Z ?_ Z
  show AV.tup [AV.agg [zC wC y'.c.js,zC wK y'.c.ags,iA y'.c.per,iA y'.c.cap,iA y'.c.hold,iA y'.c.lock,bA false,iA y'.now,zC zL y'.ds,zC vH y'.sg,zC vD y'.sv,zC iA y'.st,zC vA y'.vw,.sl false (List.take ss.length X)],AV.agg [zC (zC yA) S,zC yA fb],bA true]=_
  rw[yAo (yCf hsl2)]
 ·(refine eM call45 λF hF=>?_)
  refine yQ (wV k1 kd) ?_;refine zH [] Z Z ?_ Z
  show AV.tup [AV.agg [zC wC y'.c.js,zC wK y'.c.ags,iA y'.c.per,iA y'.c.cap,iA y'.c.hold,iA y'.c.lock,bA false,iA y'.now,zC zL y'.ds,zC vH y'.sg,zC vD y'.sv,zC iA y'.st,zC vA y'.vw,.sl false (List.take ss.length X)],AV.agg [zC (zC yA) S,zC yA fb],bA true]=_
  rw[yAo (yCf hsl2)]
end
section
structure DoR where
 b:WI
 S:List (List Int)
 f:List Int
 fl:Bool
structure zM2 (b:WI) (e:Ev) (r:DoR):Prop where
 i:LF r.b
 c:r.b.y.c=b.y.c
 n:b.y.now<=r.b.y.now/\r.b.y.now<=b.y.now+1
 s:e.k=1∨e.k=2∨e.k=3->r=⟨doS b e,[],[],false⟩
 t:r.fl=true->r.S.length=b.ss.length
 f6:r.fl=true->e.k=6
 y:e.k=4∨e.k=5->r=⟨⟨dyF b.y e,b.ss⟩,[],[],false⟩
 t6:e.k=6->∃(y':Cy) (Td:List (List Ms)),MtP b.y y' (kC b.ss) Td/\r=⟨⟨y',bC b.ss b.ss.length⟩,Td.map qN,qN [KE (b.y.now+1) y'.vw],true⟩/\zN 118 [qA b.y,zC kL (kC b.ss)] [] (.tup [qA y',tdO Td (KE (b.y.now+1) y'.vw)]) (tdH Td)
 k:zN 45 [bB b,vC e] [] (.tup [bB r.b,sdA r.S r.f,bA r.fl]) []
def zYy {e:Ev} (he:BY e.y) {s:Ss} (h:SsI s):SsI (ssF e s):=by
 unfold ssF;split
 ·split
  ·exact h
  ·exact⟨qY,yAt _⟩
 ·split
  ·exact⟨qY,yAt _⟩
  ·exact zW2 h he
def zYz {b:WI} (h:LF b) {e:Ev} (he:BY e.y):LF (doS b e):=by
 unfold doS;split
 ·refine⟨h.y,by dsimp only;rw[yB7];exact h.l,λs hs=>?_⟩;rename_i hr;unfold inR at hr;rw[yAm]at hr
  rcases yC8 hs with hs|rfl
  ·exact h.s s hs
  ·exact zYy he (h.s _ (zQ b.ss _ zB))
 ·exact h
def zY0 (b:WI) (h:LF b) (hn:b.y.now<1000000000) (e:Ev) (he:bX e):∃r,zM2 b e r:=by
 have hk:=he.k;have hyn:=he.n;have hcs:(e.k=1∨e.k=2∨e.k=3)∨(e.k=4∨e.k=5)∨e.k=6:=by omega
 rcases hcs with hk|hk|hk
 ·have k:=zZ6 b h e hk he.y zB
  have e1:(doS b e).y=b.y:=by unfold doS;split<;>rfl
  exact⟨⟨doS b e,[],[],false⟩,zYz h he.y,by dsimp only;rw[e1],by dsimp only;rw[e1];omega,λ_=>rfl,λh=>(by cases h),λh=>(by cases h),λh=>zB,λh=>zB,k⟩
 ·obtain⟨y',i1,i3,k⟩:=zZ7 b h e hk he.y zB;obtain⟨i2,i4,_⟩:=GY h.y.rf e;rw[<-i3]at i2 i4;exact⟨⟨⟨y',b.ss⟩,[],[],false⟩,⟨i1,by dsimp only;rw[i2];exact h.l,h.s⟩,i2,by dsimp only;omega,λh=>zB,λh=>(by cases h),λh=>(by cases h),λ_=>by rw[i3],λh=>zB,k⟩
 ·obtain⟨y',Td,hM,km,k⟩:=zZ8 b h hn e hk;have hll:(kC b.ss).length=b.ss.length:=by unfold kC;rw[yAe]
  refine⟨⟨⟨y',bC b.ss b.ss.length⟩,Td.map qN,qN [KE (b.y.now+1) y'.vw],true⟩,⟨hM.i,?_,λs hs=>?_⟩,hM.c,by have:=hM.n;dsimp only;omega,λh=>zB,λ_=>by dsimp only;rw[yAe,hM.l,hll],λ_=>hk,λh=>zB,λ_=>⟨y',Td,hM,rfl,km⟩,k⟩
  ·dsimp only;rw[hM.c,SO b h,yAe];exact h.l
  ·dsimp only at hs;rw[SO b h]at hs;obtain⟨s0,hs0,rfl⟩:=yBl.1 hs;exact(zNf (h.s s0 hs0)).1
open Classical in
noncomputable def gW (b:WI) (e:Ev):DoR:=if h:∃r,zM2 b e r then h.choose else⟨b,[],[],false⟩
def fY {b:WI} (h:LF b) (hn:b.y.now<1000000000) {e:Ev} (he:bX e):zM2 b e (gW b e):=by
 have hx:=zY0 b h hn e he;unfold gW;rw[yFo hx];exact hx.choose_spec
theorem zM2.st {b:WI} (h:LF b) {e:Ev} {r:DoR} (he:bX e) (D:zM2 b e r) (hf:r.fl=false):r.b.y.now=b.y.now/\r.b.y.sg=b.y.sg/\r.b.y.sv=b.y.sv/\r.b.y.vw=b.y.vw/\r.b.y.ds.map dqF=b.y.ds.map dqF:=by
 have hk:=he.k;have hc:(e.k=1∨e.k=2∨e.k=3)∨(e.k=4∨e.k=5)∨e.k=6:=by omega
 rcases hc with hc|hc|hc
 ·have e1:(doS b e).y=b.y:=by unfold doS;split<;>rfl
  rw[D.s hc];dsimp only;rw[e1];exact⟨rfl,rfl,rfl,rfl,rfl⟩
 ·rw[D.y hc];exact(GY h.y.rf e).2
 ·obtain⟨_,_,_,e2,_⟩:=D.t6 hc;rw[e2]at hf;cases hf
noncomputable def fP:WI->List Ev->WI
 |b,[]=>b
 |b,e::l=>fP (gW b e).b l
noncomputable def SP:WI->List Ev->List (List (List Int)×List Int)
 |_,[]=>[]
 |b,e::l=>(if(gW b e).fl=true then [((gW b e).S,(gW b e).f)]else [])++SP (gW b e).b l
def zEm (b:WI) (l m:List Ev):fP b (l++m)=fP (fP b l) m:=by
 induction l generalizing b with
 |nil=>rfl
 |cons e l ih=>exact ih _
def zRx (b:WI) (l m:List Ev):SP b (l++m)=SP b l++SP (fP b l) m:=by
 induction l generalizing b with
 |nil=>rfl
 |cons e l ih=>
  show _++SP _ (l++m)=_
  rw[ih,<-yA6];rfl
theorem zEn:∀(l:List Ev) {b:WI},LF b->(∀e∈l,bX e)->b.y.now+(l.length:Int)<1000000000->LF (fP b l)/\(fP b l).y.c=b.y.c/\b.y.now<=(fP b l).y.now/\(fP b l).y.now<=b.y.now+(l.length:Int)/\(SP b l).length<=l.length
 | [],b,h,_,_=>⟨h,rfl,yCj _,by simp[fP],yAg _⟩
 | e::l,b,h,he,hn=>by
  rw[yAp]at hn;have k:=fY h zB (he e zS);have kn:=k.n;obtain⟨i1,i2,i3,i4,i5⟩:=zEn l k.i (λx hx=>he x RS) zB;refine⟨i1,i2.trans k.c,?_,?_,?_⟩
  ·show b.y.now<=(fP (gW b e).b l).y.now
   omega
  ·show(fP (gW b e).b l).y.now<=_
   rw[yAp];omega
  ·show((if(gW b e).fl=true then [((gW b e).S,(gW b e).f)]else [])++SP (gW b e).b l).length<=_
   rw[yAf,yAp];split
   ·simp only[yAp,yBk];omega
   ·simp only[yBk];omega
def sdP (p:List (List Int)×List Int):AV:=sdA p.1 p.2
def zS7 (c:Cf) (hc:FM c) (l:List Ev) (hl:l.length<=1000000) (he:∀e∈l,bX e):zN 20 [wD c,zC vC l] [] (zC sdP (SP (qO c) (l.take 400))) []:=by
 have k1:=zEs c hc;have hb:=zEr c hc;have hll:=zA vC l;have h0:(qO c).y.now=0:=rfl;have ht4:(l.take 400).length<=400:=by rw[yAw];omega
 have hm4:∀e∈l.take 400,bX e:=λe h=>he e (yBy h)
 unfold bB UC at k1;refine eM call20 λF hF=>?_
 refine zV k1 ?_
 have tk4:l.take (min ((l.map vC).length:Int) 400).toNat=l.take 400:=by
  rw[yAe];by_cases h:l.length<=400
  ·rw[yAo zB,yAo zB]
  ·congr 1
   omega
 rw[tk4];have hl4:=zA vC (l.take 400);generalize l.take 400=l4 at *;refine xC 6 1001 2 Z Z Z ?_;refine yM (l4) [5,1001] [] [5,18,19] [6,20,5,18,19] Z (λi pre T U=>⟨(6,.ref 1001 0 ((SP (qO c) pre).map sdP).length)::(20,iA i)::T,(5,.box [zC wC (fP (qO c) pre).y.c.js,zC wK (fP (qO c) pre).y.c.ags,iA (fP (qO c) pre).y.c.per,iA (fP (qO c) pre).y.c.cap,iA (fP (qO c) pre).y.c.hold,iA (fP (qO c) pre).y.c.lock,bA false,iA (fP (qO c) pre).y.now,zC zL (fP (qO c) pre).y.ds,zC vH (fP (qO c) pre).y.sg,zC vD (fP (qO c) pre).y.sv,zC iA (fP (qO c) pre).y.st,zC vA (fP (qO c) pre).y.vw,zC kM (fP (qO c) pre).ss])::(1001,.arr 2 ((SP (qO c) pre).map sdP) true)::U⟩) ?_;(conv=>whnf);refine⟨by rfl,?_,?_⟩
 ·intro i pre x post hx hi;have hy:=xG vC hx hi;have hlt:=yP hx hi;have hpm:∀e∈pre,bX e:=λe h=>hm4 e (by rw[hx];simp[h])
  have hpl:pre.length<=l4.length:=by rw[hx];simp
  have hxe:=hm4 x (by rw[hx];simp);obtain⟨p1,p2,p3,p4,p5⟩:=zEn pre hb hpm (by rw[h0];omega);have D:=fY p1 zB hxe;have kd:=D.k;have e1:fP (qO c) (pre++[x])=(gW (fP (qO c) pre) x).b:=zEm _ _ _
  have e2:SP (qO c) (pre++[x])=SP (qO c) pre++(if(gW (fP (qO c) pre) x).fl=true then [((gW (fP (qO c) pre) x).S,(gW (fP (qO c) pre) x).f)]else []):=by
   rw[zRx]
   congr 1
   show _++[]=_
   rw[yA8]
  rw[e1,e2,yAn];have hsm:=zA sdP (SP (qO c) pre);clear D e1 e2 hx hpm;generalize (SP (qO c) pre).map sdP=X at *;unfold bB UC vC sdA at kd;unfold vC at hy;generalize gW (fP (qO c) pre) x=r at *;generalize fP (qO c) pre=b0 at *;obtain⟨rb,S,f,fl⟩:=r;dsimp only at *;cases fl
  ·rw[yAc yAx,yCq,yA8];refine zV kd ?_;rfl
  ·rw[yAd Z,show [(S,f)].map sdP=[.agg [zC (zC yA) S,zC yA f]]from Z];refine zV kd ?_;rfl
 ·(refine WW ?_)
  exact zH [] Z Z (yBa (AV.sl false) yAh) Z
end
noncomputable def UB:WI->List Ev->List (List Vw)
 |_,[]=>[]
 |b,e::l=>(if(gW b e).fl=true then [(gW b e).b.y.vw]else [])++UB (gW b e).b l
def zRy (b:WI) (l m:List Ev):UB b (l++m)=UB b l++UB (fP b l) m:=by
 induction l generalizing b with
 |nil=>rfl
 |cons e l ih=>
  show _++UB _ (l++m)=_
  rw[ih,<-yA6];rfl
theorem zEo:∀(l:List Ev) (b:WI),(UB b l).length<=l.length
 | [],_=>yAg _
 |e::l,b=>by
  have ih:=zEo l (gW b e).b
  show((if(gW b e).fl=true then [(gW b e).b.y.vw]else [])++UB (gW b e).b l).length<=_
  rw[yAf,yAp];split
  ·simp only[yAp,yBk];omega
  ·simp only[yBk];omega
def vsA (v:List Vw):AV:=zC vA v
def GZ (c:Cf) (hc:FM c) (l:List Ev) (hl:l.length<=1000000) (he:∀e∈l,bX e):zN 21 [wD c,zC vC l] [] (zC vsA (UB (qO c) (l.take 400))) []:=by
 have k1:=zEs c hc;have hb:=zEr c hc;have hll:=zA vC l;have h0:(qO c).y.now=0:=rfl;have ht4:(l.take 400).length<=400:=by rw[yAw];omega
 have hm4:∀e∈l.take 400,bX e:=λe h=>he e (yBy h)
 unfold bB UC at k1;refine eM call21 λF hF=>?_
 refine zV k1 ?_
 have tk4:l.take (min ((l.map vC).length:Int) 400).toNat=l.take 400:=by
  rw[yAe];by_cases h:l.length<=400
  ·rw[yAo zB,yAo zB]
  ·congr 1
   omega
 rw[tk4];have hl4:=zA vC (l.take 400);generalize l.take 400=l4 at *;refine xC 6 1001 1 Z Z Z ?_;refine yM (l4) [5,1001] [] [5,18,19] [6,20,5,18,19] Z (λi pre T U=>⟨(6,.ref 1001 0 ((UB (qO c) pre).map vsA).length)::(20,iA i)::T,(5,.box [zC wC (fP (qO c) pre).y.c.js,zC wK (fP (qO c) pre).y.c.ags,iA (fP (qO c) pre).y.c.per,iA (fP (qO c) pre).y.c.cap,iA (fP (qO c) pre).y.c.hold,iA (fP (qO c) pre).y.c.lock,bA false,iA (fP (qO c) pre).y.now,zC zL (fP (qO c) pre).y.ds,zC vH (fP (qO c) pre).y.sg,zC vD (fP (qO c) pre).y.sv,zC iA (fP (qO c) pre).y.st,zC vA (fP (qO c) pre).y.vw,zC kM (fP (qO c) pre).ss])::(1001,.arr 1 ((UB (qO c) pre).map vsA) true)::U⟩) ?_;(conv=>whnf);refine⟨by rfl,?_,?_⟩
 ·intro i pre x post hx hi;have hy:=xG vC hx hi;have hlt:=yP hx hi;have hpm:∀e∈pre,bX e:=λe h=>hm4 e (by rw[hx];simp[h])
  have hpl:pre.length<=l4.length:=by rw[hx];simp
  have hxe:=hm4 x (by rw[hx];simp);obtain⟨p1,p2,p3,p4,p5⟩:=zEn pre hb hpm (by rw[h0];omega);have D:=fY p1 zB hxe;have kd:=D.k;have e1:fP (qO c) (pre++[x])=(gW (fP (qO c) pre) x).b:=zEm _ _ _
  have e2:UB (qO c) (pre++[x])=UB (qO c) pre++(if(gW (fP (qO c) pre) x).fl=true then [(gW (fP (qO c) pre) x).b.y.vw]else []):=by
   rw[zRy]
   congr 1
   show _++[]=_
   rw[yA8]
  have hvl:=zEo pre (qO c);have Db:=D.i.y.b;have cv:=XL _ Db.v Db.vb;rw[e1,e2,yAn];have hsm:=zA vsA (UB (qO c) pre);clear D Db e1 e2 hx hpm;generalize (UB (qO c) pre).map vsA=X at *;unfold bB UC vC sdA at kd;unfold vC at hy;generalize gW (fP (qO c) pre) x=r at *;generalize fP (qO c) pre=b0 at *;obtain⟨rb,S,f,fl⟩:=r;dsimp only at *;cases fl
  ·rw[yAc yAx,yCq,yA8];refine zV kd ?_;rfl
  ·rw[yAd Z,show [rb.y.vw].map vsA=[zC vA rb.y.vw]from Z];refine IZ (wV kd cv) ?_;rfl
 ·(refine WW ?_)
  exact zH [] Z Z (yBa (AV.sl false) yAh) Z
theorem MS (x:Ag) (l:List Ag):∀a,vM (x::l) (a+1)=x.ses+vM l a
 |0=>by show(0:Int)+x.ses=x.ses+0;omega
 |a+1=>by
  have ih:=MS x l a
  show vM (x::l) (a+1)+(l.getD a default).ses=x.ses+(vM l a+(l.getD a default).ses)
  omega
theorem aW:∀(l:List Ag),(∀a∈l,1<=a.ses)->∀a,a<=l.length->0<=vM l a
 |_,_,0,_=>yCj _
 | [],_,a+1,h=>absurd h zS
 |x::l,h,a+1,ha=>by
  have:=aW l (λy hy=>h y (by simp[hy])) a (by simpa using ha);have:=h x zS;rw[MS];omega
theorem zM3:∀(l:List Ag),(∀a∈l,1<=a.ses)->∀(a:Nat) (k:Int) (i:Nat),a<l.length->0<=k->k<(l.getD a default).ses->(owR l (vM l a+k) i).1=((i+a:Nat):Int)
 | [],_,a,_,_,ha,_,_=>absurd ha zS
 |x::l,h,0,k,i,_,h0,h1=>by
  unfold owR;rw[yAd (by show(0:Int)+k<x.ses;have h1:k<x.ses:=h1;omega)];rfl
 |x::l,h,a+1,k,i,ha,h0,h1=>by
  have hn:=aW l (λy hy=>h y (by simp[hy])) a (by have:a+1<l.length+1:=ha;omega);have ih:=zM3 l (λy hy=>h y (by simp[hy])) a k (i+1) (by have:a+1<l.length+1:=ha;omega) h0 h1;unfold owR;rw[MS,yAc zB,show x.ses+vM l a+k-x.ses=vM l a+k by omega,ih];omega
def zCc {c:Cf} (hw:QP c.ags) {a k:Nat} (ha:a<c.ags.length) (hk:(k:Int)<(c.ags.getD a default).ses):(owF c (vM c.ags a+k)).1=(a:Int):=by
 have hn:=aW c.ags (λy hy=>(hw.2 y hy).1) a zB;unfold owF;rw[yAc zB,zM3 c.ags (λy hy=>(hw.2 y hy).1) a k 0 ha zB hk];omega
def MT {α:Type} (l:List α) (i:Nat) (x:α) (h:i<l.length):l.getD i x∈l:=by
 rw[yAk,yAr h];exact yDa _
def zM4 {c:Cf} (hw:QP c.ags) (T:Nat->Nat->List Ms) {a k:Nat} (ha:a<c.ags.length) (hk:(k:Int)<(c.ags.getD a default).ses):(FE c T c.ags.length).getD ((vM c.ags a).toNat+k) []=T a k:=by
 have hl:=SW hw T c.ags.length (yAg _);have hmo:vM c.ags (a+1)<=vM c.ags c.ags.length:=YS hw zB (yAg _);have hse:vM c.ags (a+1)=vM c.ags a+(c.ags.getD a default).ses:=rfl;have n1:=aW c.ags (λy hy=>(hw.2 y hy).1) a zB;obtain⟨a',k',h1,h2,h3,h4⟩:=SY hw T c.ags.length (yAg _) ((vM c.ags a).toNat+k) zB;have n2:=aW c.ags (λy hy=>(hw.2 y hy).1) a' zB;have e1:=zCc hw ha hk;have e2:=zCc hw h1 h2;rw[show vM c.ags a'+(k':Int)=vM c.ags a+k by omega,e1]at e2;obtain rfl:a=a':=by omega
 obtain rfl:k=k':=by omega
 exact h4
def NaC (y:Cy):Prop:=∀d∈y.ds,NoT d.rg.tk/\∀x∈d.au,x=false
theorem NoT.exp {l:List Tk} (h:NoT l) (now:Int):NoT (NA l now):=λt ht hu=>by
 obtain⟨j,hj,rfl⟩:=yBl.1 ht;rw[yA2]at hj;unfold zAu at hu⊢;split at hu
 ·cases hu
 ·rw[yAc ‹_›];exact h _ (zQ l j hj) hu
def zWv {ins:List In} {l:List Bool} (h:∀x∈l,x=false):∀x∈auF ins l,x=false:=λx hx=>by
 obtain⟨i,hi,rfl⟩:=ST hx;unfold auF at hi⊢;rw[wZ]at hi;rw[yAk,uO,yAd hi,yAd hi,yCh];unfold QB;split
 ·exact h _ (zQ l i hi)
 ·rfl
theorem NaC.tick {y:Cy} (N:NaC y) {ins:List In} {R:Nat->DR} (hR:TkR y ins R):NaC (fZ y R):=λd hd=>by
 obtain⟨a,ha,rfl⟩:=SU hd;obtain⟨n1,n2⟩:=N _ (zQ y.ds a ha);obtain⟨k1,k2⟩:=(hR a ha).1.na (NoT.exp n1 _);refine⟨k1,?_⟩;rw[k2];exact zWv n2
theorem NaC.dy {y:Cy} (N:NaC y) (e:Ev):NaC (dyF y e):=by
 unfold dyF;split
 ·unfold GX;split
  ·intro d hd;rename_i hc
   rcases yC8 hd with hd|rfl
   ·exact N d hd
   ·have:=N _ (zQ y.ds e.a.toNat zB);exact this
  ·exact N
 ·unfold AF;split
  ·exact N
  ·exact N
structure Tw (h:Int) (b b':WI):Prop where
 c:b'.y.c=b.y.c
 n:b'.y.now=b.y.now
 d:∀a:Nat,(a:Int)≠h->b'.y.ds.getD a default=b.y.ds.getD a default
 s:∀s:Nat,(owF b.y.c s).1≠h->b'.ss.getD s default=b.ss.getD s default
def TwO (c:Cf) (h:Int) (S S':List (List Int)) (v v':List Vw):Prop:=S'.length=S.length/\(YP v).length=(YP v').length/\∀a k:Nat,a<c.ags.length->(a:Int)≠h->(k:Int)<(c.ags.getD a default).ses->
 (vM c.ags a).toNat+k<S.length/\((S.getD ((vM c.ags a).toNat+k) []=[]/\S'.getD ((vM c.ags a).toNat+k) []=[])∨
 ∃(L:List Ms) (d:xJ) (now:Int),(∀m∈L++[jQ d v now],bS m)/\bS (jQ d v' now)/\L.length<=1001/\S.getD ((vM c.ags a).toNat+k) []=qN (L++[jQ d v now])/\S'.getD ((vM c.ags a).toNat+k) []=qN (L++[jQ d v' now]))
theorem AE (js:List Jn) (D D':Nat->Sg×Sv):∀n,(YP (AJ js D n)).length=(YP (AJ js D' n)).length
 |0=>rfl
 | n+1=>by
  have ih:=AE js D D' n
  have hv:∀(j:Jn) (p:Sg×Sv),(vwF (JD j p.1 p.2)).length=3+j.ph.length:=λj p=>by
   unfold JD vwF;split
   ·simp[vwZ];omega
   ·simp[FO,wZ];omega
  have e:∀D,YP (AJ js D (n+1))=YP (AJ js D n)++vwF (JD (js.getD n default) (D n).1 (D n).2):=λD=>by simp[YP,AJ,yCx]
  rw[e,e,yAf,yAf,ih,hv,hv]
def dW {α β:Type} (f:α->β) (l:List α) (i:Nat) (x:α) (y:β) (h:i<l.length):(l.map f).getD i y=f (l.getD i x):=by
 rw[yAk,yAi,yAr h,yAk,yAr h];rfl
def eQ {α:Type} (l:List α) (i:Nat) (x:α) (h:¬i<l.length):l.getD i x=x:=by
 rw[yAk,yA1 zB];rfl
theorem Tw.ss {h:Int} {b b':WI} (hb:LF b) (hb':LF b') (T:Tw h b b'):b'.ss.length=b.ss.length/\b'.y.ds.length=b.y.ds.length:=by
 have h1:=hb.l;have h2:=hb'.l;rw[T.c]at h2;have h3:=hb.y.dl;have h4:=hb'.y.dl;rw[T.c]at h4;omega
theorem Tw.own {h:Int} {b b':WI} (hb:LF b) (hb':LF b') (T:Tw h b b') {a:Nat} (ha:a<b.y.c.ags.length) (hh:(a:Int)≠h):∀k:Nat,(k:Int)<(b.y.c.ags.getD a default).ses->(kC b'.ss).getD ((vM b.y.c.ags a).toNat+k) default=(kC b.ss).getD ((vM b.y.c.ags a).toNat+k) default:=λk hk=>by
 have hw:=hb.y.v.ag;have hn:=aW b.y.c.ags (λy hy=>(hw.2 y hy).1) a zB
 have e:=T.s ((vM b.y.c.ags a).toNat+k) (by
  rw[show(((vM b.y.c.ags a).toNat+k:Nat):Int)=vM b.y.c.ags a+k by omega,zCc hw ha hk]
  exact hh)
 obtain⟨l1,_⟩:=T.ss hb hb';unfold kC;by_cases hs:(vM b.y.c.ags a).toNat+k<b.ss.length
 ·rw[dW _ _ _ default _ zB,dW _ _ _ default _ hs,e]
 ·rw[eQ _ _ _ QL,eQ _ _ _ QL]
theorem Tw.step {h:Int} {b b':WI} (hb:LF b) (hb':LF b') (N:NaC b.y) (T:Tw h b b') (hn:b.y.now<1000000000) {e:Ev} (he:bX e):Tw h (gW b e).b (gW b' (KG b.y.c h e)).b/\NaC (gW b e).b.y/\(gW b' (KG b.y.c h e)).fl=(gW b e).fl/\
  ((gW b e).fl=true->TwO b.y.c h (gW b e).S (gW b' (KG b.y.c h e)).S (gW b e).b.y.vw (gW b' (KG b.y.c h e)).b.y.vw):=by
 have hn':b'.y.now<1000000000:=by rw[T.n];exact hn
 obtain⟨l1,l2⟩:=T.ss hb hb';have D:=fY hb hn he;have D':=fY hb' hn' (zCs (c:=b.y.c) (a:=h) he);have hk:=he.k
 have ek:(KG b.y.c h e).k=e.k:=by unfold KG;split<;>rfl
 have es:(KG b.y.c h e).s=e.s:=by unfold KG;split<;>rfl
 have hc:(e.k=1∨e.k=2∨e.k=3)∨(e.k=4∨e.k=5)∨e.k=6:=by omega
 rcases hc with hc|hc|hc
 ·rw [D.s hc,D'.s (by rw[ek];exact hc)];dsimp only
  have hy:∀b e,(doS b e).y=b.y:=λb e=>by unfold doS;split<;>rfl
  have hir:inR b' e.s=inR b e.s:=by unfold inR;rw[l1]
  refine⟨⟨by rw[hy,hy];exact T.c,by rw[hy,hy];exact T.n,by rw[hy,hy];exact T.d,?_⟩,by rw[hy];exact N,rfl,λhf=>by cases hf⟩;rw[hy];intro s hs;have hT:=T.s s hs;unfold doS;rw[es,hir];split
  ·rename_i hr;unfold inR at hr;rw[yAm]at hr;dsimp only;by_cases hsl:s<b.ss.length
   ·rw[dF _ _ _ _ zB,dF _ _ _ _ hsl];split
    ·rename_i hq
     have ew:KG b.y.c h e=e:=by
      unfold KG;split
      ·rename_i hw;exfalso;unfold woB ON at hw;simp only[yAs,yAm]at hw;apply hs;rw[<-hw.2.1.2.2,show(s:Int)=e.s by omega]
      ·rfl
     rw[ew,hq,hT]
    ·exact hT
   ·rw[eQ _ _ _ (by rw[yB7];omega),eQ _ _ _ (by rw[yB7];omega)]
  ·exact hT
 ·have ew:KG b.y.c h e=e:=by
   unfold KG;split
   ·rename_i hw;exfalso;unfold woB at hw;simp only[yAs,yAm]at hw;omega
   ·rfl
  rw[ew]at D'⊢;rw[D.y hc,D'.y hc];dsimp only;obtain⟨c1,c2,_⟩:=GY hb.y.rf e;obtain⟨c3,c4,_⟩:=GY hb'.y.rf e;refine⟨⟨by rw[c1,c3];exact T.c,by rw[c2,c4];exact T.n,λa ha=>?_,by rw[c1];exact T.s⟩,N.dy e,rfl,λhf=>by cases hf⟩;have hT:=T.d a ha;dsimp only;unfold dyF;split
  ·unfold GX;rw[l2];by_cases hx:(0<=e.a/\e.a<(b.y.ds.length:Int))/\e.y.length=8
   ·by_cases hq:e.a.toNat=a
    ·rw[hq,hT];by_cases hd:(b.y.ds.getD a default).dr.length<8
     ·rw[yAd ⟨hx.1,hx.2,hd⟩,yAd ⟨hx.1,hx.2,hd⟩];dsimp only;rw[dF _ _ _ _ zB,dF _ _ _ _ zB,yAd Z,yAd Z]
     ·rw[yAc (λh=>hd h.2.2),yAc (λh=>hd h.2.2)];exact hT
    ·have g:∀(y:Cy) (z:xJ),(y.ds.set e.a.toNat z).getD a default=y.ds.getD a default:=λy z=>by
      rw[yAk,yEg hq,<-yAk]
     split<;>split<;>((try dsimp only);(try rw[g]);(try rw[g]);exact hT)
   ·rw[yAc (λh=>hx ⟨h.1,h.2.1⟩),yAc (λh=>hx ⟨h.1,h.2.1⟩)];exact hT
  ·unfold AF
   split<;>split<;>exact hT
 ·have ew:KG b.y.c h e=e:=by
   unfold KG;split
   ·rename_i hw;exfalso;unfold woB at hw;simp only[yAs,yAm]at hw;omega
   ·rfl
  rw[ew]at D'⊢;obtain⟨y1,Td,M,e3,_⟩:=D.t6 hc;obtain⟨y2,Td',M',e4,_⟩:=D'.t6 hc;rw[e3,e4];dsimp only;have hw:=hb.y.v.ag;have hdl:=hb.y.dl;have hil:(kC b.ss).length=b.ss.length:=by unfold kC;rw[yAe]
  have hil':(kC b'.ss).length=b.ss.length:=by unfold kC;rw[yAe,l1]
  have hOw:=λa ha hh=>T.own hb hb' (a:=a) ha hh
  obtain⟨hR,hy,hT⟩:=M.tk;obtain⟨hR',hy',hT'⟩:=M'.tk
  have hds:∀a:Nat,(a:Int)≠h->a<b.y.ds.length->dtR b'.y (kC b'.ss) a=dtR b.y (kC b.ss) a:=λa hh ha=>by
   unfold dtR;rw[T.c,T.n,T.d a hh]
   congr 1
   unfold owI owP;apply yDt;intro j hj;rw[yA2]at hj;exact hOw a zB hh j zB
  have hdd:∀a:Nat,(a:Int)≠h->y2.ds.getD a default=y1.ds.getD a default:=λa hh=>by
   rw[hy,hy']
   show(RD (b'.y.now+1) b'.y.ds (dtR b'.y (kC b'.ss)) b'.y.ds.length).getD a default=(RD (b.y.now+1) b.y.ds (dtR b.y (kC b.ss)) b.y.ds.length).getD a default
   by_cases ha:a<b.y.ds.length
   ·rw[aY zB,aY ha,hds a hh ha]
   ·rw[eQ _ _ _ (by rw[eU];omega),eQ _ _ _ (by rw[eU];omega)]
  have N1:NaC y1:=by rw[hy];exact N.tick hR
  refine⟨⟨by rw[M.c,M'.c];exact T.c,by rw[M.n,M'.n,T.n],hdd,λs hs=>?_⟩,N1,rfl,λ_=>⟨by rw[yAe,yAe,M.l,M'.l];omega,?_,λa k ha hh hk=>?_⟩⟩
  ·dsimp only at hs⊢;rw[M.c]at hs;have hq:=T.s s hs;rw[SO b' hb',SO b hb];by_cases hs:s<b.ss.length
   ·rw[dW _ _ _ default _ zB,dW _ _ _ default _ hs,hq]
   ·rw[eQ _ _ _ QL,eQ _ _ _ QL]
  ·rw[hy,hy']
   show(YP (AJ b.y.c.js _ b.y.c.js.length)).length=(YP (AJ b'.y.c.js _ b'.y.c.js.length)).length
   rw[T.c];exact AE _ _ _ _
  ·have hb1:=hb.l;have hsn:=aW b.y.c.ags (λy hy=>(hw.2 y hy).1) a zB;have hmo:vM b.y.c.ags (a+1)<=vM b.y.c.ags b.y.c.ags.length:=YS hw zB (yAg _);have hse:vM b.y.c.ags (a+1)=vM b.y.c.ags a+(b.y.c.ags.getD a default).ses:=rfl;have hML:=M.l;have hML':=M'.l;have hsl:(vM b.y.c.ags a).toNat+k<Td.length:=by omega
   have hsl':(vM b.y.c.ags a).toNat+k<Td'.length:=by omega
   refine⟨by rw[yAe];exact hsl,?_⟩;rw[dW qN _ _ [] _ hsl,dW qN _ _ [] _ hsl'];have hX:=zM4 hw (FD y1 (kC b.ss) (dtR b.y (kC b.ss)) b.y.ds.length) ha hk;have hX':=zM4 hw (FD y2 (kC b'.ss) (dtR b'.y (kC b'.ss)) b'.y.ds.length) ha hk;rw[<-hT]at hX;rw[T.c]at hT';rw[<-hT']at hX';rw[hX,hX'];have hv:=M.v (FD y1 (kC b.ss) (dtR b.y (kC b.ss)) b.y.ds.length a k) (by rw[<-hX];exact MT Td _ [] hsl);have hv':=M'.v (FD y2 (kC b'.ss) (dtR b'.y (kC b'.ss)) b'.y.ds.length a k) (by rw[<-hX'];exact MT Td' _ [] hsl')
   have hau:(y1.ds.getD a default).au.getD k default=false:=by
    have h1:=(N1 _ (zQ y1.ds a (by rw[hy];show a<(RD _ _ _ _).length;rw[eU];omega))).2;by_cases hka:k<(y1.ds.getD a default).au.length
    ·exact h1 _ (zQ _ _ hka)
    ·rw[eQ _ _ _ hka];rfl
   unfold FD at hv hv'⊢;rw[M.c]at hv⊢;rw[M'.c,T.c]at hv'⊢;rw[hOw a ha hh k hk]at hv'⊢;by_cases ho:((kC b.ss).getD ((vM b.y.c.ags a).toNat+k) default).opn=true
   ·right
    rw[yAd ho]at hv hv'⊢;rw[yAd ho];unfold tlF at hv hv'⊢;rw[hdd a hh,hds a hh zB]at hv'⊢;rw[hau,yAc yAx,yA8]at hv hv'⊢;rw[yAc yAx,yA8];rw[M'.n,T.n]at hv'⊢;rw[M.n]at hv⊢;exact⟨_,_,_,hv.2,hv'.2 _ zS,by have:=hv.1;rw[yAf,yCl]at this;omega,rfl,rfl⟩
   ·left
    rw[yAc ho,yAc ho];exact⟨rfl,rfl⟩
section
variable {P:Program} {TT:List TI} {st:St}
def MU (hP:uJ P TT) {T:Nat} {ti:TI} (hT:TT[T]? =some ti) (h1:ti.zero.all (·.oneCell')=true) (hpos:Nat.ble 1 ti.zero.length=true) (hm:Nat.ble ti.zero.length 65536=true):wS P st (.alloc T) (.fp (ti.zero.map .s) 0 0) [] [] []:=by
 refine⟨?_⟩;intro X tm h hg _ hn o a w β ho HH Ht;obtain⟨d0,o0,y0,p0,f0,g0⟩:=o;dsimp only at ho;subst ho;have hpos:=yAv hpos;have hm:=yAv hm;obtain⟨z,hz,hzz⟩:=NV (hP _ _ hT) w;have hzl:z.cells.size=ti.zero.length:=by rw[<-hzz];simp
 have hat:∀(i:Nat) (x:AV),(ti.zero.map AV.s)[i]? =some x->x= .s (z.cells.getD i undef):=λi x hx=>by
  simp only[yAi,yAq]at hx;obtain⟨u,hu,rfl⟩:=hx;rw[<-hzz]at hu;rw[gB (by simpa using hu)]
 have hv:=xH.newArr HH z.cells T 1 (ti.zero.map .s) z.cells.size (λi _=>z.cells.getD i undef) (yAg _) (by rw[yAe];unfold cA;omega) QL (λi x hx=>by rw[hat i x hx];rfl) (λi j hi hj=>by
  rw[yAe]at hi;rw[show i*1+j=i by omega]
  simp[Array.getD,show i<z.cells.size by omega]) (λi j hi hj=>by
  rw[yAe]at hi;have:=yAu.1 h1 (z.cells.getD i undef) (by rw[<-hzz];exact yBp (by simpa using kH _ i zB))
  exact this) (λi x j v hx hy=>by
  rw[hat i x hx]at hy
  cases j with
  |zero=>cases hy;exact .s _
  |succ j=>cases hy)
 have hr:(execOp a.eval ⟨d0,.alloc T,y0,p0,f0,g0⟩).run P w= .ok (.value (.pointer (some ⟨w.heap.size,0,none⟩))) (w.alloc (.cells z.cells T)):=by
  simp[execOp,Instr.alloc,hz,newVar,newRow]
 rw[hr];refine⟨β,xN.newFz HH z.cells T,.fz _ _ ?_⟩;have hxl:(ti.zero.map AV.s).length=ti.zero.length:=yAe ..;clear hat;generalize ti.zero.map AV.s=xs at *;generalize hc:(Value.slice (some ⟨w.heap.size,0,none⟩) xs.length z.cells.size)=c at hv
 cases hv with
 |nil1 a cap=>exfalso;rw[yBk]at hxl;omega
 |sl _ _ b o sz cap f hne hL hcp hh=>
  injection hc with q1 q2 q3
  injection q1 with q1
  injection q1 with q4 q5
  subst q4 q5;have hw:=hL.pos;have:=xH.fp (w:=w.alloc (.cells z.cells T)) (D:=xP X β) xs w.heap.size 0 sz 0 0 f hL zB hw hh;simpa using this
theorem JM (hP:uJ P TT) {T e key off len:Nat} {d:Operand} {ti te:TI} {xs:List AV} {v0:Value} (hdv:yO (zG st.tm) d= .ref key off len) (hk:zD st.h key=some (.arr 1 xs false)) (hT:TT[T]? =some ti) (hd:ti.d= .slice e) (he:TT[e]? =some te) (hz0:te.zero=[v0]) (hv1:v0.oneCell'=true):
  wS P st (.call ⟨.builtin .clear, #[d], #[T]⟩) (.tup []) [(key,.arr 1 (xs.take off++List.replicate len (AV.s v0)++xs.drop (off+len)) false)] [key] []:=by
 refine⟨?_⟩;intro X tm h hg hr _ o a w β ho HH Ht;obtain⟨d0,o0,y0,p0,f0,g0⟩:=o;dsimp only at ho;subst ho;have hk':=(hr key zS).trans hk;have h1:=gA Ht hg (x:=d) qX hdv;obtain⟨g1,g2,g3,g4,g5,f,g6,g7,g8⟩:=HH.ent key _ hk';obtain⟨u0,hu0,hd'⟩:=xV (hP _ _ hT) w;obtain rfl:=vP (hd'.trans hd);obtain⟨z,hz,hzz⟩:=NV (hP _ _ he) w;rw[hz0]at hzz;have hzc:z.cells= #[v0]:=by rw[<-Array.toArray_toList (xs:=z.cells),hzz]
 obtain⟨ys,hys⟩:∃ys,ys=List.replicate len (AV.s v0):=⟨_,rfl⟩;have hyl:ys.length=len:=by rw[hys];exact yB2
 have hyat:∀(i:Nat) y,ys[i]? =some y->y= .s v0:=λi y hy=>by
  rw[hys,yCb]at hy;split at hy
  ·exact(yCr hy).symm
  ·cases hy
 rw[<-hys];rw[show xs.drop (off+len)=xs.drop (off+ys.length) by rw[hyl]]
 have hnx:∀b n,(b,n)∈β key->n=xs.length∨n=0:=λb n hb=>by
  cases hbk:β key with
  |nil=>rw[hbk]at hb;simp at hb
  |cons q rr=>
   obtain⟨b0,n0⟩:=q;obtain⟨q1,q2,_⟩:=g5 b0 n0 rr hbk;rw[hbk]at hb;simp at hb
   rcases hb with⟨_,rfl⟩|hb
   ·exact .inl q1
   ·exact .inr (q2 Z b n hb)
 have hop:∀{w'},(Builtin.clear_ #[T] y0 #[a.eval d]).run P w= .ok (.tuple #[]) w'->(execOp a.eval ⟨d0,.call ⟨.builtin .clear, #[d], #[T]⟩,y0,p0,f0,g0⟩).run P w= .ok (.value (.tuple #[])) w':=λhv=>by
  simp[execOp,resolve,invoke,builtin,hv]
 have hvt:∀{w':World} {D:Nat->Prop} {h':yG} {β':uG},zY w' D h' β' (.tup []) (.tuple #[]):= .tup [] #[] Z λi v hi=>by cases hi
 by_cases hnil:len=0
 ·subst hnil;have hy0:ys=[]:=yBb hyl;subst hy0;have hxs:xs.take off++[]++xs.drop (off+([]:List AV).length)=xs:=by simp
  rw[hxs]
  obtain⟨bd,cp,hcs⟩:∃bd cp,a.eval d= .slice bd 0 cp:=by
   generalize a.eval d=cx at h1
   cases h1 with
   |fz _ _ hf=>cases hf
   |dref _ _ _ _ hd _=>rw[hk']at hd;cases hd
   |ref _ _ _ _ _ _ _ _ _ _ _ _ _ _=>exact⟨_,_,rfl⟩
   |ref0 _ _ _ _ _ _ _ _=>exact⟨_,_,rfl⟩
  rw[hop (w':=w) (by
   rw[hcs]
   cases bd with
   |none=>simp[Builtin.clear_,hu0]
   |some b=>simp[Builtin.clear_,hu0])]
  have G:=xN.step (w':=w) HH key (.arr 1 xs false) (β key) (yAg _) (λ_ _ _=>rfl) Z Z Z (λb n hm=> .inl ⟨n,hm⟩) (λ_ _ _=>rfl) (λe he=>by rw[hk']at he;cases he;exact .inr ⟨⟨_,_,rfl,yAg _⟩,λ_ n hm=>⟨n,yAg _,hm⟩⟩)
   (λE=>⟨g1,g2,λh=>by rw[zW];exact g3 h,g4,λb n r hr=>by rw[zW]at hr;exact g5 b n r hr,f,jP.evo E g6,g7,λb n hm=>by rw[zW]at hm;exact g8 b n hm⟩)
  exact⟨_,G,hvt⟩
 have hpos:0<ys.length:=by omega
 obtain⟨sz,hsz1⟩:∃sz,sz=1:=⟨1,rfl⟩;obtain⟨fy,hfy⟩:∃fy:Nat->Nat->Value,fy=λ_ _=>v0:=⟨_,rfl⟩
 rw[<-hsz1]at hk' g1 g4 g7 g8⊢
 have hf2:∀v,v∈flat fy ys.length sz->v.oneCell'=true:=λv hv=>by
  have:v=v0:=by
   obtain⟨i,hi,rfl⟩:=yEa.1 hv;subst hfy;simp[flat]
  rw[this];exact hv1
 obtain⟨b,n,cp,hcs,hbm,hnl,hcp⟩:∃b n cp,a.eval d= .slice (some ⟨b,off*sz,none⟩) len cp/\(b,n)∈β key/\off+len<=n/\len<=cp:=by
  generalize a.eval d=cx at h1
  cases h1 with
  |fz _ _ hf=>cases hf
  |dref _ _ _ _ hd _=>rw[hk']at hd;cases hd
  |ref _ _ _ sz' xs' st' b n cp hk2 hb hn hc2 hs2=>
   rw[hk']at hk2;cases hk2;exact⟨b,n,cp,rfl,hb,hn,hc2⟩
  |ref0 _ _ _ _ _ _ _ _=>omega
 have hnn:n=xs.length:=by rcases hnx b n hbm with h|h<;>omega
 subst hnn;obtain⟨cur,el,c1,c2,c3,c4⟩:=g8 b _ hbm;have hfit:(off+ys.length)*sz<=cur.size:=yBn (yA0 _ zB) c2;have hst:=run_storeCells_at P b (off*sz) el (flat fy ys.length sz) 0 cur w c1 (by rw[zP,yDm,<-yBi];exact hfit) hf2;simp only[yDm]at hst;generalize hcur':(cur.toList.take (off*sz)++flat fy ys.length sz++cur.toList.drop (off*sz+(flat fy ys.length sz).length)).toArray=cur' at hst
 have hflz:(Builtin.zeroCells z.cells ys.length).toList=flat fy ys.length sz:=by
  subst hfy hsz1;rw[hzc];apply List.ext_getElem
  ·simp[Builtin.zeroCells,zP]
  ·intro i h1 h2;simp[Builtin.zeroCells,flat,Nat.mod_one]
 rw[hop (w':=w.setRow b cur') (by
  rw[hcs];obtain⟨m,hm⟩:∃m,len=m+1:=⟨len-1,zB⟩;rw[hyl]at hflz hst;rw[hm]at hflz hst⊢
  simp[Builtin.clear_,hu0,hz,hflz,hst])]
 rw[yBi]at hfit
 have hsz':cur'.size=cur.size:=by
  rw[<-hcur'];simp only[yDf,yAf,yAw,yA7,yDc,zP];omega
 have hone2:∀q,q<cur'.size->(cur'.getD q undef).oneCell'=true:=by
  rw[<-hcur'];refine qD.get (qD.arr λv hv=>?_);have hc4:=qD.of c4
  rcases yAz.1 hv with hv|hv
  ·rcases yAz.1 hv with hv|hv
   ·exact hc4 v (yBy hv)
   ·exact hf2 v hv
  ·exact hc4 v (yBc hv)
 let f':Nat->Nat->Value:=λi j=>if off<=i/\i<off+ys.length then fy (i-off) j else f i j
 have hoff:off+ys.length<=xs.length:=by omega
 have hlen:(xs.take off++ys++xs.drop (off+ys.length)).length=xs.length:=by
  simp only[yAf,yAw,yA7];omega
 have hat:∀(i:Nat) y,(xs.take off++ys++xs.drop (off+ys.length))[i]? =some y->(off<=i/\i<off+ys.length/\ys[i-off]? =some y)∨(¬(off<=i/\i<off+ys.length)/\xs[i]? =some y):=λi y hy=>by
  have ht:(xs.take off).length=off:=by simp;omega
  by_cases h5:i<off
  ·rw[yA6,yA9 zB,yBr,yAd h5]at hy;exact .inr ⟨zB,hy⟩
  ·by_cases h6:i<off+ys.length
   ·rw[yA6,yA4 zB,ht,yA9 zB]at hy;exact .inl ⟨zB,h6,hy⟩
   ·rw[yA4 wF]at hy;simp only[yAf,ht]at hy;rw[yB3,show off+ys.length+(i-(off+ys.length))=i by omega]at hy;exact .inr ⟨zB,hy⟩
 have hcell:∀i j,i<xs.length->j<sz->cur'[i*sz+j]? =some (f' i j):=λi j hi hj=>by
  rw[<-hcur'];simp only[f',yDb];by_cases h5:i<off
  ·have hlt:i*sz+j<off*sz:=by
    have:=yA0 sz (show i+1<=off by omega);rw[yBi,yCe]at this;omega
   rw[yAc zB,yA6,yA9 wF,yBr,yAd hlt];simpa using c3 i j hi hj
  ·have ht:(List.take (off*sz) cur.toList).length=off*sz:=by simp;omega
   have hge:off*sz<=i*sz:=yA0 _ zB;by_cases h6:i<off+ys.length
   ·have e4:i*sz+j-off*sz=(i-off)*sz+j:=by rw[yFj];omega
    have hlt:(i-off)*sz+j<ys.length*sz:=by
     have:=yA0 sz (show(i-off)+1<=ys.length by omega);rw[yBi,yCe]at this;omega
    rw[yAd zB,yA6,yA4 (by rw[ht];omega),ht,yA9 (by rw[zP];omega),e4];exact qM fy zB hj
   ·have hge2:(off+ys.length)*sz<=i*sz:=yA0 _ zB;rw[yBi]at hge2;rw[yAc zB,yA4 (by simp only[yAf,ht,zP];omega),yB3];simp only[yAf,ht,zP];rw[show off*sz+ys.length*sz+(i*sz+j-(off*sz+ys.length*sz))=i*sz+j by omega];simpa using c3 i j hi hj
 obtain⟨rr,hbk,hr0⟩:∃rr,β key=(b,xs.length)::rr/\∀b' n',(b',n')∈rr->n'=0:=by
  cases hbk:β key with
  |nil=>rw[hbk]at hbm;simp at hbm
  |cons q r=>
   obtain⟨b0,n0⟩:=q;obtain⟨q1,q2,_⟩:=g5 b0 n0 r hbk;have q2:=q2 Z;rw[hbk]at hbm;simp at hbm
   rcases hbm with⟨rfl,rfl⟩|hm
   ·exact⟨r,rfl,q2⟩
   ·have:=q2 b _ hm;omega
 refine⟨cN β key (β key),xN.step HH key _ _ zS (λj hj hn=>setRow_other w b j cur' (λe=>hn xs.length DY)) Z Z Z (λb n hm=> .inl ⟨n,hm⟩) (λb n _=>uZ c1 hsz' b)
  (λe he=>by rw[hk']at he;cases he;exact .inr ⟨⟨_,_,rfl,by rw[hlen];exact yAg _⟩,λ_ n hm=>⟨n,yAg _,hm⟩⟩) λE=>⟨zB,by rw[hlen];exact g2,λ_=>by rw[zW,hbk];simp,λi' x' hx'=>?_,λb' n' r hb'=>?_,f',λi' x' j u hx' hu=>?_,λi' j hi' hj=>?_,λb' n' hb'=>?_⟩,hvt⟩
 ·rcases hat i' x' hx' with⟨_,_,h⟩|⟨_,h⟩
  ·rw[hyat _ _ h,hsz1];rfl
  ·exact g4 i' x' h
 ·rw[zW]at hb';rw[hlen];exact g5 b' n' r hb'
 ·simp only[f']
  rcases hat i' x' hx' with⟨q1,q2,h⟩|⟨q1,h⟩
  ·rw[yAd ⟨q1,q2⟩];have hx0:=hyat _ _ h;subst hx0
   have hu0:u= .s v0:=by
    cases j with
    |zero=>exact(yCr hu).symm
    |succ j=>cases hu
   subst hu0;rw[hfy];exact⟨.fz _ _ (.s _),λ_=> .s _⟩
  ·rw[yAc q1];exact⟨(g6.toV i' x' j u h hu).evo E,λ_=>(g6.toF Z i' x' j u h hu).evo E.size E.fz⟩
 ·rw[hlen]at hi';simp only[f'];split
  ·rw[hfy];exact hv1
  ·exact g7 i' j hi' hj
 ·rw[zW]at hb'
  rcases hnx b' n' hb' with rfl|rfl
  ·have hbb:b'=b:=by
    rw[hbk]at hb';simp at hb'
    rcases hb' with rfl|h
    ·rfl
    ·have:=hr0 b' _ h;omega
   subst hbb;exact⟨cur',el,setRow_heap w _ _ _ _ _ c1,by rw[hsz'];exact c2,λi' j hi' hj=>hcell i' j hi' hj,hone2⟩
  ·by_cases hbb:b'=b
   ·subst hbb;exact⟨cur',el,setRow_heap w _ _ _ _ _ c1,zB,λi' j hi' _=>by omega,hone2⟩
   ·obtain⟨c',el',q1,q2,_,q4⟩:=g8 b' 0 hb';exact⟨c',el',(setRow_other w b b' cur' hbb).trans q1,q2,λi' j hi' _=>by omega,q4⟩
def JN (hP:uJ P TT) {T n e:Nat} {x:Operand} {ti te:TI} {xs:List AV} (hx:yO (zG st.tm) x= .fp xs 0 0) (hT:TT[T]? =some ti) (hd:ti.d= .arr n e) (he:TT[e]? =some te) (hn:Nat.beq xs.length n=true):wS P st (.slice T x none none none) (.sl true xs) [] [] []:=
 yR λoo X tm h w β a ho hg _ HH Ht=>by
  obtain⟨d0,o0,y0,p0,f0,g0⟩:=oo;dsimp only at ho;subst ho;have h1:=gA Ht hg (x:=x) uF hx;have hn:=yBd hn;obtain⟨u,hu,hd'⟩:=xV (hP _ _ hT) w;obtain rfl:=zBc (hd'.trans hd);have hs:=uK (hP _ _ he) w;generalize hcx:a.eval x=cx at h1
  cases h1 with
  | fz _ _ hf=>
   cases hf with
   |fp _ b o sz i off f hL hi ho hh=>
    refine⟨.slice (some ⟨b,o,none⟩) n n,?_,.fz _ _ ?_⟩
    ·simp[execOp,Instr.sliceAt,hu,hcx,Instr.sureAddr,asAddr,Instr.sliceBounds,hs,Addr.add]
    ·rw[<-hn];exact .sl true xs b o sz xs.length f (λh=>by rw[h]at hi;cases hi) hL (yAg _) hh
end
end Av
end Go.Proofs.YteajjdidebfcjaaGreat
