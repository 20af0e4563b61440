/- Part 24. -/
import Derived.Test.YteajjdidebfcjaaGreatV23
import Derived.Lib.SliceRun
namespace Go.Proofs.YteajjdidebfcjaaGreat
namespace Av
open Tryz
set_option linter.all false
set_option maxRecDepth 4000
set_option maxHeartbeats 8000000
def zLf (l:List (List Int)) (hl:l.length<=1073741824):zO 168 [zD kE l] [] (.ref 1005 0 (l.map kE).length) [(1005,.arr 1 (l.map kE) false)]:=by
 have hll:=zA kE l;refine eM call168 λF hF=>?_
 refine yX 0 Z (λcap hx=>?_) ?_
 ·have:l=[]:=by simpa using hx
  subst this
  (repeat' (first|refine WZN ?_|apply xL|apply wB|intro hc|fail))
  refine uK 2 1005 1 Z Z Z (yU ?_);exact zL [1005] Z Z Z Z
 ·repeat' (first|(refine zE ?_;first|refine wL tok Z Z ?_|(refine xM ?_;refine zP (yG tok (.inl ⟨rfl,rfl⟩) Z Z Z Z) Z ?_)|(refine xR ?_;refine qE (nw:=[1005]) (yK tok 1005 (xs:=[]) Z Z Z Z Z Z Z Z Z) Z Z Z ?_)|(refine yD ?_;refine xF tok Z Z Z Z Z Z Z (zN _ _ (λ_=>rfl)) Z Z Z zB Z ?_)|refine uI ?_)|(first|refine xS ?_|refine xC ?_|refine vQ Z ?_|refine yC Z ?_|refine zU Z ?_|refine xH Z (λhc=>?_) λhc=>?_|refine yZ ?_|refine yU ?_|refine xB ?_|refine yQ ?_))
  exact zL [1005] Z Z Z Z
def LC (d:xI):AV:=wI d.rg (zD yL d.rq) (.ref 1005 0 (d.dr.map kE).length) (zD bA d.au)
def zLg (d:xI) (hb:cO d):zO 127 [zK d] [] (LC d) [(1005,.arr 1 (d.dr.map kE) false)]:=by
 have k1:=HB d.rg hb.rg;have hq:=hb.q;have hdn:=hb.n;have hau:=hb.a;have k2:=VL d.rq zB;have k3:=zLf d.dr zB;have k4:=CF d.au zB;have hlq:=zA yL d.rq;have hld:=zA kE d.dr;unfold LC zK wI;unfold qW at k1;refine eM call127 λF hF=>?_
 refine yR (wZ k1 k2) ?_;refine zS ((d.rq.map yL).length) [1001,1,2] [1,2] [1,2,15] [16,1,2,15] Z (λi T U=>⟨(16,iA i)::T,(1001,.arr 5 (jQ i (d.rq.map yL)) false)::U⟩) ?_;(conv=>whnf);refine⟨by rfl,?_,?_⟩
 ·intro i hi;have hi':i<d.rq.length:=by omega
  have hy:(jQ i (d.rq.map yL))[i]? =some (yL (d.rq.getD i default)):=zM yL d.rq i hi';have e:=jD yL d.rq i hi';have c2:=bS (d.rq.getD i default).legs (hb.g (d.rq.getD i default) ZK);generalize (d.rq.getD i default)=t at *;generalize jQ i (d.rq.map yL)=xs at *;generalize jQ (i+1) (d.rq.map yL)=ys at *;subst e;refine zY c2 ?_;rfl
 ·(refine zY k3 ?_)
  refine zS ((d.dr.map kE).length) [1005,1,2,1001] [1,2,1001] [1,2,38] [39,1,2,38] Z (λi T U=>⟨(39,iA i)::T,(1005,.arr 1 (jQ i (d.dr.map kE)) false)::U⟩) ?_;(conv=>whnf);refine⟨by rfl,?_,?_⟩
  ·intro i hi;have hi':i<d.dr.length:=by omega
   have hy:(jQ i (d.dr.map kE))[i]? =some (kE (d.dr.getD i default)):=zM kE d.dr i hi';have e:=jD kE d.dr i hi';have c2:=wK (d.dr.getD i default) (by have:=hb.e (d.dr.getD i default) ZK;omega);generalize (d.dr.getD i default)=t at *;generalize jQ i (d.dr.map kE)=xs at *;generalize jQ (i+1) (d.dr.map kE)=ys at *;subst e;refine zY c2 ?_;rfl
  ·(refine zY k4 ?_)
   refine zI [1005] Z Z ?_ Z
   show wI d.rg (.sl false ((d.rq.map yL).take (d.rq.map yL).length)) (.ref 1005 0 (d.dr.map kE).length) (zD bA d.au)=_
   rw[zX6];rfl
theorem HV (K:List Nat) (h:yJ):∀l:List xI,qN K h (l.map zK)=l.map zK
 | []=>rfl
 |r::l=>by rw[zZj,qN,HV K h l];rfl
theorem NR (K:List Nat) (h:yJ):∀l:List xI,wT K h (l.map zK)=l.map zK
 | []=>rfl
 |r::l=>by rw[zZj,wT,NR K h l];rfl
theorem RQ:∀l:List xI,wF (l.map zK)=true
 | []=>rfl
 |r::l=>by rw[zZj,wF,RQ l];rfl
def jN (pre:List xI) (x:xI) (post:List xI):List AV:=pre.map zK++LC x::post.map zK
def NS (pre:List xI) (x:xI) (post:List xI):(jN pre x post).length=pre.length+1+post.length:=by simp[jN];omega
def zLh {K:List Nat} (hK:K.contains 1005=true) (h:yJ) (pre:List xI) (x:xI) (post:List xI) (b:Bool):kI K h (.arr 17 (jN pre x post) ⟨b,true⟩)= .arr 17 (jN pre x post) ⟨b,true⟩:=by
 have e:qN K h (jN pre x post)=jN pre x post:=by
  unfold jN;rw[OF,HV,qN,HV]
  congr 2
  have er:wQ K h (.ref 1005 0 (x.dr.map kE).length)= .ref 1005 0 (x.dr.map kE).length:=by
   unfold wQ;rw[hK];rfl
  show AV.agg [_,_,_,_,_,_,_,_,_,_,_,_,_,_,_,wQ K h (.ref 1005 0 (x.dr.map kE).length),_]=_
  rw[er];rfl
 have e2:wF (jN pre x post)=false:=by
  unfold jN;rw[WU,RQ,wF];rfl
 show xN.arr 17 (qN K h (jN pre x post)) ⟨b,!wF (qN K h (jN pre x post))⟩=_
 rw[e,e2];rfl
def zP0 (pre:List xI) (x:xI) (post:List xI):(jN pre x post)[pre.length]? =some (LC x):=by
 unfold jN;rw[zYt zW,zX5,yAa];rfl
def zDo {pre:List xI} {x:xI} {post l:List xI} (hL:l=pre++x::post):(l.map zK).set pre.length (LC x)=jN pre x post:=by
 subst hL;unfold jN;rw[zYd,zZj,yAy _ _ zW,zX5,yAa];rfl
def zFm {pre:List xI} {x:xI} {post l:List xI} (hL:l=pre++x::post) {i:Nat} (h1:pre.length<i) (h2:i<l.length):(jN pre x post)[i]? =some (zK (l.getD i default)):=by
 subst hL;rw[<-zDo Z,yB9 zB];exact zM zK _ i h2
def zUs (y:Cy) (pre:List xI) (x:xI) (post:List xI):AV:=XK y.c y.rf y.now (.ref 1011 0 y.ds.length) (zD vJ y.sg) (zD vI y.sv) (zD iA y.st) (zD vW y.vw)
theorem zLi (y:Cy) (h:CyB y) (pre:List xI) (x:xI) (post:List xI) (hL:y.ds=pre++x::post):zO 116 [qJ y] [] (zUs y pre x post) [(1011,.arr 17 (jN pre x post) ⟨false,true⟩),(1005,.arr 1 (x.dr.map kE) false)]:=by
 have k1:=ZO y.ds (by have:=h.d;omega);have k2:=ZP y.sg (by have:=h.g;omega);have k3:=ZQ y.sv (by have:=h.s;omega);have k4:=ZR y.st (by have:=h.t;omega);have k5:=YV y.vw h.v h.vb;have hl1:=zA zK y.ds;have hl2:=zA vJ y.sg;have hl3:=zA vI y.sv;have hl4:=zA iA y.st;have hd:=h.d;have hg:=h.g;have hs:=h.s;have hlen:y.ds.length=pre.length+1+post.length:=by rw[hL];simp;omega
 have hcl:=NS pre x post;have hfr:∀(K:List Nat) (H:yJ),K.contains 1005=true->kI K H (.arr 17 (jN pre x post) ⟨false,true⟩)= .arr 17 (jN pre x post) ⟨false,true⟩:=λK H hK=>zLh hK H pre x post false
 unfold qJ zUs XK;refine eM call116 λF hF=>?_
 refine zY k1 ?_;rw[hl1]
 refine vH (λn st=>∃i,n+i=y.ds.length/\st=if i<=pre.length then(⟨[(13,iA i),(1,.ptr 1 0 0),(2,.ptr 2 0 0),(12,iA y.ds.length)],[(1,.box [zD vC y.c.js,zD vU y.c.ags,iA y.c.per,iA y.c.cap,iA y.c.hold,iA y.c.lock,bA y.rf,iA y.now,.ref 1011 0 y.ds.length,zD vJ y.sg,zD vI y.sv,zD iA y.st,zD vW y.vw]),(2,.box [.s (.slice none 0 0),.s (.slice none 0 0),iA 0,iA 0,iA 0,iA 0,bA false,iA 0,.s (.slice none 0 0),.s (.slice none 0 0),.s (.slice none 0 0),.s (.slice none 0 0),.s (.slice none 0 0)]),(1011,.arr 17 (y.ds.map zK) false)]⟩:St)
  else⟨[(13,iA i),(1,.ptr 1 0 0),(2,.ptr 2 0 0),(12,iA y.ds.length)],[(1,.box [zD vC y.c.js,zD vU y.c.ags,iA y.c.per,iA y.c.cap,iA y.c.hold,iA y.c.lock,bA y.rf,iA y.now,.ref 1011 0 y.ds.length,zD vJ y.sg,zD vI y.sv,zD iA y.st,zD vW y.vw]),(2,.box [.s (.slice none 0 0),.s (.slice none 0 0),iA 0,iA 0,iA 0,iA 0,bA false,iA 0,.s (.slice none 0 0),.s (.slice none 0 0),.s (.slice none 0 0),.s (.slice none 0 0),.s (.slice none 0 0)]),(1011,.arr 17 (jN pre x post) ⟨false,true⟩),(1005,.arr 1 (x.dr.map kE) false)]⟩) y.ds.length [1,2,1011,1005] [13,1,2,12] Z ⟨0,zB,by rw[zX3 (zYl _)];rfl⟩ ?_
 rintro n st ⟨i,hi,rfl⟩;by_cases hip:i<pre.length
 ·rw[zX3 zB];have hil:i<y.ds.length:=by omega
  have hy:=zM zK y.ds i hil;have c2:=aB (y.ds.getD i default) (h.db _ (zX y.ds i hil));have e:=jD zK y.ds i hil;generalize y.ds.getD i default=d at *;generalize y.ds.map zK=xs at *;have hsame:=fV hy;refine zY c2 ?_;refine⟨n-1,zB,i+1,zB,?_⟩;rw[zX3 zB]
  show(⟨_,[_,_,(1011,.arr 17 (xs.set i (zK d)) false)]⟩:St)=_
  rw[hsame];rfl
 by_cases hie:i=pre.length
 ·rw[zX3 zB];subst hie;have hil:pre.length<y.ds.length:=by omega
  have hx:y.ds.getD pre.length default=x:=by rw[hL,zYc,zYt (zX7 _),yAa];rfl
  have hy:=zM zK y.ds pre.length hil;have c2:=zLg (y.ds.getD pre.length default) (h.db _ (zX y.ds pre.length hil));rw[hx]at hy c2;have hof:=zDo hL;generalize y.ds.map zK=xs at *;refine OO 1011 Z ?_;unfold LC at c2;refine zY c2 ?_;refine⟨n-1,zB,pre.length+1,zB,?_⟩;rw[zX2 zB]
  show(⟨_,[_,_,(1011,kI _ _ (.arr 17 (xs.set pre.length (LC x)) ⟨false,true⟩)),_]⟩:St)=_
  rw[hof,hfr _ _ Z];rfl
 rw[zX2 zB];by_cases hil:i<y.ds.length
 ·have hy:=zFm hL zB hil;have c2:=aB (y.ds.getD i default) (h.db _ (zX y.ds i hil));have hsame:=fV hy;generalize y.ds.getD i default=d at *;generalize jN pre x post=cs at *;refine zY c2 ?_;refine⟨n-1,zB,i+1,zB,?_⟩;rw[zX2 zB]
  show(⟨_,[_,_,(1011,kI _ _ (.arr 17 (cs.set i (zK d)) ⟨false,true⟩)),_]⟩:St)=_
  rw[hsame,hfr _ _ Z];rfl
 have hie2:i=y.ds.length:=by omega
 subst hie2;generalize jN pre x post=cs at *;refine zY k2 ?_;rw[hl2];refine vH (λn st=>∃i,n+i=y.sg.length/\st=(⟨[(34,iA i),(1,.ptr 1 0 0),(2,.ptr 2 0 0),(33,iA y.sg.length)],[(1,.box [zD vC y.c.js,zD vU y.c.ags,iA y.c.per,iA y.c.cap,iA y.c.hold,iA y.c.lock,bA y.rf,iA y.now,.ref 1011 0 y.ds.length,.ref 1012 0 y.sg.length,zD vI y.sv,zD iA y.st,zD vW y.vw]),(2,.box [.s (.slice none 0 0),.s (.slice none 0 0),iA 0,iA 0,iA 0,iA 0,bA false,iA 0,.s (.slice none 0 0),.s (.slice none 0 0),.s (.slice none 0 0),.s (.slice none 0 0),.s (.slice none 0 0)]),(1011,.arr 17 cs ⟨false,true⟩),(1005,.arr 1 (x.dr.map kE) false),(1012,.arr 5 (y.sg.map vJ) false)]⟩:St)) y.sg.length [1,2,1011,1005,1012] [34,1,2,33] Z ⟨0,zB,?_⟩ ?_
 ·show(⟨_,[_,_,(1011,kI _ _ (.arr 17 cs ⟨false,true⟩)),_,_]⟩:St)=_
  rw[hfr _ _ Z];rfl
 rintro n st ⟨i,hi2,rfl⟩;by_cases hil:i<y.sg.length
 ·have hy:=zM vJ y.sg i hil;have hgb:=h.gb _ (zX y.sg i hil);have c2:=zB7 (y.sg.getD i default) zB zB;have hsame:=fV hy;generalize y.sg.getD i default=d at *;generalize y.sg.map vJ=xs at *;refine zY c2 ?_;refine⟨n-1,zB,i+1,zB,?_⟩
  show(⟨_,[_,_,(1011,kI _ _ (.arr 17 cs ⟨false,true⟩)),_,(1012,.arr 5 (xs.set i (vJ d)) false)]⟩:St)=_
  rw[hsame,hfr _ _ Z];rfl
 have hie3:i=y.sg.length:=by omega
 subst hie3;refine zY k3 ?_;rw[hl3];refine vH (λn st=>∃i,n+i=y.sv.length/\st=(⟨[(55,iA i),(1,.ptr 1 0 0),(2,.ptr 2 0 0),(54,iA y.sv.length)],[(1,.box [zD vC y.c.js,zD vU y.c.ags,iA y.c.per,iA y.c.cap,iA y.c.hold,iA y.c.lock,bA y.rf,iA y.now,.ref 1011 0 y.ds.length,.ref 1012 0 y.sg.length,.ref 1013 0 y.sv.length,zD iA y.st,zD vW y.vw]),(2,.box [.s (.slice none 0 0),.s (.slice none 0 0),iA 0,iA 0,iA 0,iA 0,bA false,iA 0,.s (.slice none 0 0),.s (.slice none 0 0),.s (.slice none 0 0),.s (.slice none 0 0),.s (.slice none 0 0)]),(1011,.arr 17 cs ⟨false,true⟩),(1005,.arr 1 (x.dr.map kE) false),(1012,.arr 5 (y.sg.map vJ) false),(1013,.arr 3 (y.sv.map vI) false)]⟩:St)) y.sv.length [1,2,1011,1005,1012,1013] [55,1,2,54] Z ⟨0,zB,?_⟩ ?_
 ·show(⟨_,[_,_,(1011,kI _ _ (.arr 17 cs ⟨false,true⟩)),_,_,_]⟩:St)=_
  rw[hfr _ _ Z];rfl
 rintro n st ⟨i,hi3,rfl⟩;by_cases hil:i<y.sv.length
 ·have hy:=zM vI y.sv i hil;have hsb:=h.sb _ (zX y.sv i hil);have c2:=UD (y.sv.getD i default) ⟨zB⟩;have hsame:=fV hy;generalize y.sv.getD i default=d at *;generalize y.sv.map vI=xs at *;refine zY c2 ?_;refine⟨n-1,zB,i+1,zB,?_⟩
  show(⟨_,[_,_,(1011,kI _ _ (.arr 17 cs ⟨false,true⟩)),_,_,(1013,.arr 3 (xs.set i (vI d)) false)]⟩:St)=_
  rw[hsame,hfr _ _ Z];rfl
 have hie4:i=y.sv.length:=by omega
 subst hie4;refine yR (wZ k4 k5) ?_;refine zI [1011,1005] Z Z ?_ ?_
 ·show AV.agg [zD vC y.c.js,zD vU y.c.ags,iA y.c.per,iA y.c.cap,iA y.c.hold,iA y.c.lock,bA y.rf,iA y.now,.ref 1011 0 y.ds.length,.sl false (List.take y.sg.length (y.sg.map vJ)),.sl false (List.take y.sv.length (y.sv.map vI)),.sl false (List.take (y.st.map iA).length (y.st.map iA)),zD vW y.vw]=_
  rw[zYe (zZ5 hl2),zYe (zZ5 hl3),zX6];rfl
 ·show [(1011,kI _ _ (.arr 17 cs ⟨false,true⟩)),(1005,_)]=_
  rw[hfr _ _ Z];rfl
def zLj {h:yJ} {pre post:List xI} {x:xI} {b fl:Bool} (h1:h 1011=some (.arr 17 (jN pre x post) ⟨b,true⟩)) (h2:h 1005=some (.arr 1 (x.dr.map kE) ⟨fl,false⟩)):
  wQ [] h (.ref 1011 0 (jN pre x post).length)=zD zK (pre++x::post):=by
 have e:wT [] h (jN pre x post)=(pre++x::post).map zK:=by
  unfold jN;rw[RD,NR,wT,NR,zYd,zZj]
  congr 1
  congr 1
  have e2:qS [] h (.ref 1005 0 (x.dr.map kE).length)=zD kE x.dr:=by
   simp only[qS,h2]
   show AV.sl false (((x.dr.map kE).drop 0).take (x.dr.map kE).length)=_
   rw[zYq,zX6];rfl
  show AV.agg [_,_,_,_,_,_,_,_,_,_,_,_,_,_,_,qS [] h (.ref 1005 0 (x.dr.map kE).length),_]=_
  rw[e2];rfl
 have hl2:(jN pre x post).length=((pre++x::post).map zK).length:=by rw[NS];simp;omega
 rw[hl2];simp only[wQ,h1]
 show(bif wF (wT [] h (jN pre x post))then AV.sl false (((wT [] h (jN pre x post)).drop 0).take _)else .bot)=_
 rw[e,RQ,zYq,zX6];rfl
def drD (d:xI) (x:List Int):xI:=⟨d.rg,d.rq,d.dr++[x],d.au⟩
def HW (y:Cy) (a:Int) (x:List Int):Cy:=if(0<=a/\a<(y.ds.length:Int))/\x.length=8/\(y.ds.getD a.toNat default).dr.length<8 then⟨y.c,false,y.now,y.ds.set a.toNat (drD (y.ds.getD a.toNat default) x),y.sg,y.sv,y.st,y.vw⟩else y
theorem zLk (y:Cy) (h:CyI y) (a:Int) (d:List Int) (hd:BY d) (hd9:d.length<=1000000):∃y':Cy,CyI y'/\y'=HW y a d/\zO 82 [qJ y,iA a,zD yA d] [] (qJ y') []:=by
 have hb:=h.b;have hrf:=h.rf;have hdl:=zA zK y.ds;have hdm:=zA yA d;have eC:qJ y= .agg [zD vC y.c.js,zD vU y.c.ags,iA y.c.per,iA y.c.cap,iA y.c.hold,iA y.c.lock,bA false,iA y.now,zD zK y.ds,zD vJ y.sg,zD vI y.sv,zD iA y.st,zD vW y.vw]:=by rw[<-hrf];rfl
 by_cases ha:0<=a/\a<(y.ds.length:Int)
 case neg=>
  refine⟨y,h,by unfold HW;rw[zX2 (λh=>ha h.1)],?_⟩;have k1:=ZS y hb;rw[eC]at k1⊢;by_cases h0:a<0
  ·(refine eM call82 λF hF=>?_)
   refine zY k1 ?_;exact zJ
  ·(refine eM call82 λF hF=>?_)
   refine zY k1 ?_;exact zJ
 obtain⟨a0,a1⟩:=ha;by_cases h8:d.length=8
 case neg=>
  refine⟨y,h,by unfold HW;rw[zX2 (λh=>h8 h.2.1)],?_⟩;have k1:=ZS y hb;rw[eC]at k1⊢;refine eM call82 λF hF=>?_
  refine zY k1 ?_;exact zJ
 have hyd:=yN zK y.ds a a0 a1;have hI:=h.di _ (zX y.ds a.toNat zB);have hdn:=hI.dn;by_cases hr:(y.ds.getD a.toNat default).dr.length<8
 case neg=>
  refine⟨y,h,by unfold HW;rw[zX2 (λh=>hr h.2.2)],?_⟩;have k1:=PU y hb;unfold zGg zGh XK at k1;rw[eC,hrf]at k1;rw[eC];generalize y.ds.getD a.toNat default=x at *;have hxl:=zA kE x.dr;unfold zK wI at hyd;refine eM call82 λF hF=>?_
  (have zc1:=k1;(repeat' (first|refine uJ ?_|apply xL|apply wB|intro hc|(refine zE ?_;first|(refine cG ?_;refine zP (xV Z Z hyd) Z ?_))|fail))<;>clear zc1)
  refine zI [] Z Z ?_ Z
  show AV.agg [zD vC y.c.js,zD vU y.c.ags,iA y.c.per,iA y.c.cap,iA y.c.hold,iA y.c.lock,bA false,iA y.now,.sl false (List.take (y.ds.map zK).length (y.ds.map zK)),.sl false (List.take (y.sg.map vJ).length (y.sg.map vJ)),.sl false (List.take (y.sv.map vI).length (y.sv.map vI)),.sl false (List.take (y.st.map iA).length (y.st.map iA)),zD vW y.vw]=_
  rw[zX6,zX6,zX6,zX6];rfl
 obtain⟨n,hn⟩:∃n:Nat,a=(n:Int):=⟨a.toNat,zB⟩;subst hn;have hnl:n<y.ds.length:=by omega
 rw[zZp]at hI hr hdn
 have hL:y.ds=y.ds.take n++y.ds.getD n default::y.ds.drop (n+1):=by
  rw[zYc,zYk hnl]
  show _=_++y.ds[n]::_
  rw[<-yAe hnl,yBf]
 have hpn:(y.ds.take n).length=n:=by rw[zYn];omega
 have k1:=zLi y hb (y.ds.take n) (y.ds.getD n default) (y.ds.drop (n+1)) hL;have k2:=wK d zB;have hat:=zP0 (y.ds.take n) (y.ds.getD n default) (y.ds.drop (n+1));have hcl:=NS (y.ds.take n) (y.ds.getD n default) (y.ds.drop (n+1));rw[hpn]at hat hcl;have hcl2:(jN (y.ds.take n) (y.ds.getD n default) (y.ds.drop (n+1))).length=y.ds.length:=by rw[hcl,zYv];omega
 have hset:∀D:List (List Int),(jN (y.ds.take n) (y.ds.getD n default) (y.ds.drop (n+1))).set n (LC ⟨(y.ds.getD n default).rg,(y.ds.getD n default).rq,D,(y.ds.getD n default).au⟩)=jN (y.ds.take n) ⟨(y.ds.getD n default).rg,(y.ds.getD n default).rq,D,(y.ds.getD n default).au⟩ (y.ds.drop (n+1)):=λD=>by
  unfold jN;rw[yAy _ _ (by rw[zX5,hpn];exact zX7 _),zX5,hpn,yAa];rfl
 have hds:∀x':xI,y.ds.take n++x'::y.ds.drop (n+1)=y.ds.set n x':=λx'=>by
  rw[List.set_eq_take_append_cons_drop,zX3 hnl]
 refine⟨⟨y.c,false,y.now,y.ds.set n ⟨(y.ds.getD n default).rg,(y.ds.getD n default).rq,(y.ds.getD n default).dr++[d],(y.ds.getD n default).au⟩,y.sg,y.sv,y.st,y.vw⟩,⟨h.v,rfl,h.n0,by dsimp only;rw[zZx];exact h.dl,λz hz=>?_,λi hi=>?_,λz hz=>?_,h.gl,h.sl,h.tl,h.wl,h.wb,h.j⟩,by unfold HW;rw[zZp,zX3 ⟨⟨a0,a1⟩,h8,hr⟩];rfl,?_⟩
 ·rcases yAv hz with hz|rfl
  ·exact h.di z hz
  ·refine⟨hI.b,hI.v,hI.q,hI.lg,hI.a,hI.n,hI.t8,hI.br,hI.bb,hI.bl,hI.au,?_,λx hx=>?_,hI.vh⟩
   ·dsimp only;rw[zX4];simp only[zYh,zZc];omega
   ·rcases zYy.1 hx with hx|hx
    ·exact hI.dr x hx
    ·rw[zZd.1 hx];exact⟨h8,hd⟩
 ·dsimp only at hi⊢;rw[zZx]at hi;rw[dZ _ _ _ _ hi];split
  ·rename_i e;rw[<-e];exact h.dg n hnl
  ·exact h.dg i hi
 ·rcases yAv hz with hz|rfl
  ·exact h.sc z hz
  ·exact h.sc (y.ds.getD n default) (zX y.ds n hnl)
 ·unfold zUs XK at k1;rw[eC,hrf]at k1;rw[eC,<-hds];have hfin:=λH fl h1 h2=>zLj (h:=H) (pre:=y.ds.take n) (post:=y.ds.drop (n+1)) (x:=⟨(y.ds.getD n default).rg,(y.ds.getD n default).rq,(y.ds.getD n default).dr++[d],(y.ds.getD n default).au⟩) (b:=false) (fl:=fl) h1 h2
  rw[<-hset]at hfin;clear hL hds hset hyd hI hcl;rw[show∀l:List xI,qJ ⟨y.c,false,y.now,l,y.sg,y.sv,y.st,y.vw⟩= .agg [zD vC y.c.js,zD vU y.c.ags,iA y.c.per,iA y.c.cap,iA y.c.hold,iA y.c.lock,bA false,iA y.now,zD zK l,zD vJ y.sg,zD vI y.sv,zD iA y.st,zD vW y.vw]from λ_=>rfl];generalize y.ds.getD n default=x at *;generalize jN (y.ds.take n) x (y.ds.drop (n+1))=cs at *;have hxl:=zA kE x.dr;unfold LC wI at hat;refine eM call82 λF hF=>?_
  (have zc1:=k1;have zc2:=k2;(repeat' (first|refine uJ ?_|apply xL|apply wB|intro hc|(refine zE ?_;first|(refine cG ?_;refine zP (xV Z Z hat) Z ?_))|fail))<;>clear zc1 zc2)
  simp only[LC,zYd]at hfin;rw[zZx,hcl2]at hfin;refine zI [] Z Z ?_ Z;refine(zY3 (λw=>AV.agg [zD vC y.c.js,zD vU y.c.ags,iA y.c.per,iA y.c.cap,iA y.c.hold,iA y.c.lock,bA false,iA y.now,VE w,zD vJ y.sg,zD vI y.sv,zD iA y.st,zD vW y.vw]) (hfin _ true ?_ ?_)).trans ?_
  ·rfl
  ·rfl
  ·rfl
def inR (b:SO) (k:Int):Bool:=decide (0<=k/\k<(b.ss.length:Int))
def ssF (e:Ev) (s:Ss):Ss:=if e.k=1 then(if s.op=true then s else⟨true,false,[],false⟩)else if e.k=2 then⟨false,false,[],false⟩else FK s e.y
def doS (b:SO) (e:Ev):SO:=if inR b e.s=true then⟨b.y,b.ss.set e.s.toNat (ssF e (b.ss.getD e.s.toNat default))⟩else b
def sd0:AV:= .agg [.sl false [],.sl false []]
def dyF (y:Cy) (e:Ev):Cy:=if e.k=4 then HW y e.a e.y else BA y e.a e.b
def dqF (d:xI):Int×List Rq:=(d.rg.num,d.rq)
def zFn {α:Type} {l:List α} {i:Nat} {x:α} (h:l[i]? =some x):l.set i x=l:=by
 apply zZf;intro j;rw[yAb];split
 ·rename_i e;subst e;have:=(zYu.1 h).1;rw[zX3 this,h]
 ·rfl
def HX {y:Cy} (hrf:y.rf=false) (e:Ev):(dyF y e).c=y.c/\(dyF y e).now=y.now/\(dyF y e).sg=y.sg/\(dyF y e).sv=y.sv/\(dyF y e).vw=y.vw/\(dyF y e).ds.map dqF=y.ds.map dqF:=by
 unfold dyF;split
 ·unfold HW;split
  ·rename_i hc;refine⟨rfl,rfl,rfl,rfl,rfl,?_⟩
   show(y.ds.set _ _).map dqF=_
   rw[zZ8];refine zFn (zX8.trans ?_);rw[zYc,zYk zB];rfl
  ·exact⟨rfl,rfl,rfl,rfl,rfl,rfl⟩
 ·unfold BA
  split<;>exact⟨rfl,rfl,rfl,rfl,rfl,rfl⟩
section
variable (b:SO) (h:GQ b)
include h
def zBk:∃N:Nat,b.ss.length=N/\N<=8:=by
 have hw:=h.y.v.ag;have h1:=h.l;have h2:=eG hw b.y.c.ags.length (zX7 _);have h3:=hw.1;exact⟨_,rfl,zB⟩
theorem zXw (e:Ev) (hk:e.k=1∨e.k=2∨e.k=3) (hb:BY e.y) (hl:e.y.length<=1000000):zO 45 [ZB b,dU e] [] (.tup [ZB (doS b e),sd0,bA false]) []:=by
 obtain⟨N,hN,hN8⟩:=zBk b h;have k1:=VU b h;have hs:=h.s;have hsl:=zA jB b.ss;obtain⟨y,ss⟩:=b;dsimp only at *;unfold doS inR;dsimp only;unfold ZB RR at *;dsimp only at *;by_cases hr:0<=e.s/\e.s<(ss.length:Int)
 ·rw[zX3 (zYa hr)];obtain⟨r0,r1⟩:=hr;have hy:=yN jB ss e.s r0 r1;have hI:=hs _ (zX ss e.s.toNat zB);have hIn:=hI.n;have ko:=zDu (ss.getD e.s.toNat default) zB;have kd:=zP8 (ss.getD e.s.toNat default);have kr:=zUz (ss.getD e.s.toNat default) hIn e.y hl;dsimp only;rw[show zD jB (ss.set e.s.toNat (ssF e (ss.getD e.s.toNat default)))= .sl false ((ss.map jB).set e.s.toNat (jB (ssF e (ss.getD e.s.toNat default)))) by unfold zD;rw[zZ8]];unfold ssF;clear hI;obtain⟨ek,es,ea,en,eb⟩:=e;dsimp only at *;generalize ss.getD es.toNat default=s at*
  rcases hk with rfl|rfl|rfl
  ·rw[zX3 Z];generalize (if s.op=true then s else⟨true,false,[],false⟩:Ss)=s1 at *;unfold dU;refine eM call45 λF hF=>?_
   refine yR (wZ k1 ko) ?_;refine zI [] Z Z ?_ Z
   show AV.tup [AV.agg [zD vC y.c.js,zD vU y.c.ags,iA y.c.per,iA y.c.cap,iA y.c.hold,iA y.c.lock,bA false,iA y.now,zD zK y.ds,zD vJ y.sg,zD vI y.sv,zD iA y.st,zD vW y.vw,.sl false (List.take ss.length ((ss.map jB).set es.toNat (jB s1)))],sd0,bA false]=_
   rw[zYe zJv]
  ·rw[zX2 zV,zX3 Z];unfold dU;refine eM call45 λF hF=>?_
   refine yR (wZ k1 kd) ?_;refine zI [] Z Z ?_ Z
   show AV.tup [AV.agg [zD vC y.c.js,zD vU y.c.ags,iA y.c.per,iA y.c.cap,iA y.c.hold,iA y.c.lock,bA false,iA y.now,zD zK y.ds,zD vJ y.sg,zD vI y.sv,zD iA y.st,zD vW y.vw,.sl false (List.take ss.length ((ss.map jB).set es.toNat (jB ⟨false,false,[],false⟩)))],sd0,bA false]=_
   rw[zYe zJv]
  ·rw[zX2 zV,zX2 zV];unfold dU;refine eM call45 λF hF=>?_
   refine yR (wZ k1 kr) ?_;refine zI [] Z Z ?_ Z
   show AV.tup [AV.agg [zD vC y.c.js,zD vU y.c.ags,iA y.c.per,iA y.c.cap,iA y.c.hold,iA y.c.lock,bA false,iA y.now,zD zK y.ds,zD vJ y.sg,zD vI y.sv,zD iA y.st,zD vW y.vw,.sl false (List.take ss.length ((ss.map jB).set es.toNat (jB (FK s eb))))],sd0,bA false]=_
   rw[zYe zJv]
 ·rw[zX2 (by rw[zX9];exact hr)];dsimp only;obtain⟨ek,es,ea,en,eb⟩:=e;dsimp only at*
  rcases hk with rfl|rfl|rfl
  all_goals
   unfold dU;dsimp only;by_cases h0:es<0
   ·(refine eM call45 λF hF=>?_)
    refine zY k1 ?_;refine zI [] Z Z ?_ Z
    show AV.tup [AV.agg [zD vC y.c.js,zD vU y.c.ags,iA y.c.per,iA y.c.cap,iA y.c.hold,iA y.c.lock,bA false,iA y.now,zD zK y.ds,zD vJ y.sg,zD vI y.sv,zD iA y.st,zD vW y.vw,.sl false (List.take ss.length (ss.map jB))],sd0,bA false]=_
    rw[zYe (zZ5 hsl)];rfl
   ·(refine eM call45 λF hF=>?_)
    refine zY k1 ?_;refine zI [] Z Z ?_ Z
    show AV.tup [AV.agg [zD vC y.c.js,zD vU y.c.ags,iA y.c.per,iA y.c.cap,iA y.c.hold,iA y.c.lock,bA false,iA y.now,zD zK y.ds,zD vJ y.sg,zD vI y.sv,zD iA y.st,zD vW y.vw,.sl false (List.take ss.length (ss.map jB))],sd0,bA false]=_
    rw[zYe (zZ5 hsl)];rfl
theorem zXx (e:Ev) (hk:e.k=4∨e.k=5) (hb:BY e.y) (hl:e.y.length<=1000000):∃y':Cy,CyI y'/\y'=dyF b.y e/\zO 45 [ZB b,dU e] [] (.tup [ZB ⟨y',b.ss⟩,sd0,bA false]) []:=by
 obtain⟨N,hN,hN8⟩:=zBk b h;have k1:=VU b h;have hsl:=zA jB b.ss;obtain⟨y,ss⟩:=b;have hy:=h.y;dsimp only at *;obtain⟨ek,es,ea,en,eb⟩:=e;dsimp only at*
 rcases hk with rfl|rfl
 ·obtain⟨y',i1,i2,kd⟩:=zLk y hy ea eb hb hl;refine⟨y',i1,by rw[i2];rfl,?_⟩;have hrf:=hy.rf;have hrf':=i1.rf;have eC:qJ y= .agg [zD vC y.c.js,zD vU y.c.ags,iA y.c.per,iA y.c.cap,iA y.c.hold,iA y.c.lock,bA false,iA y.now,zD zK y.ds,zD vJ y.sg,zD vI y.sv,zD iA y.st,zD vW y.vw]:=by rw[<-hrf];rfl
  have eC':qJ y'= .agg [zD vC y'.c.js,zD vU y'.c.ags,iA y'.c.per,iA y'.c.cap,iA y'.c.hold,iA y'.c.lock,bA false,iA y'.now,zD zK y'.ds,zD vJ y'.sg,zD vI y'.sv,zD iA y'.st,zD vW y'.vw]:=by rw[<-hrf'];rfl
  rw[eC,eC']at kd;unfold ZB RR at *;dsimp only at *;unfold dU;dsimp only;by_cases h0:es<0
  ·(refine eM call45 λF hF=>?_)
   refine yR (wZ k1 kd) ?_;refine zI [] Z Z ?_ Z
   show AV.tup [AV.agg [zD vC y'.c.js,zD vU y'.c.ags,iA y'.c.per,iA y'.c.cap,iA y'.c.hold,iA y'.c.lock,bA false,iA y'.now,zD zK y'.ds,zD vJ y'.sg,zD vI y'.sv,zD iA y'.st,zD vW y'.vw,.sl false (List.take ss.length (ss.map jB))],sd0,bA false]=_
   rw[zYe (zZ5 hsl)];rfl
  ·(refine eM call45 λF hF=>?_)
   refine yR (wZ k1 kd) ?_;refine zI [] Z Z ?_ Z
   show AV.tup [AV.agg [zD vC y'.c.js,zD vU y'.c.ags,iA y'.c.per,iA y'.c.cap,iA y'.c.hold,iA y'.c.lock,bA false,iA y'.now,zD zK y'.ds,zD vJ y'.sg,zD vI y'.sv,zD iA y'.st,zD vW y'.vw,.sl false (List.take ss.length (ss.map jB))],sd0,bA false]=_
   rw[zYe (zZ5 hsl)];rfl
 ·obtain⟨y',i1,i2,kd⟩:=zFo y hy ea en;refine⟨y',i1,by rw[i2];rfl,?_⟩;have hrf:=hy.rf;have hrf':=i1.rf;have eC:qJ y= .agg [zD vC y.c.js,zD vU y.c.ags,iA y.c.per,iA y.c.cap,iA y.c.hold,iA y.c.lock,bA false,iA y.now,zD zK y.ds,zD vJ y.sg,zD vI y.sv,zD iA y.st,zD vW y.vw]:=by rw[<-hrf];rfl
  have eC':qJ y'= .agg [zD vC y'.c.js,zD vU y'.c.ags,iA y'.c.per,iA y'.c.cap,iA y'.c.hold,iA y'.c.lock,bA false,iA y'.now,zD zK y'.ds,zD vJ y'.sg,zD vI y'.sv,zD iA y'.st,zD vW y'.vw]:=by rw[<-hrf'];rfl
  rw[eC,eC']at kd;unfold ZB RR at *;dsimp only at *;unfold dU;dsimp only;by_cases h0:es<0
  ·(refine eM call45 λF hF=>?_)
   refine yR (wZ k1 kd) ?_;refine zI [] Z Z ?_ Z
   show AV.tup [AV.agg [zD vC y'.c.js,zD vU y'.c.ags,iA y'.c.per,iA y'.c.cap,iA y'.c.hold,iA y'.c.lock,bA false,iA y'.now,zD zK y'.ds,zD vJ y'.sg,zD vI y'.sv,zD iA y'.st,zD vW y'.vw,.sl false (List.take ss.length (ss.map jB))],sd0,bA false]=_
   rw[zYe (zZ5 hsl)];rfl
  ·(refine eM call45 λF hF=>?_)
   refine yR (wZ k1 kd) ?_;refine zI [] Z Z ?_ Z
   show AV.tup [AV.agg [zD vC y'.c.js,zD vU y'.c.ags,iA y'.c.per,iA y'.c.cap,iA y'.c.hold,iA y'.c.lock,bA false,iA y'.now,zD zK y'.ds,zD vJ y'.sg,zD vI y'.sv,zD iA y'.st,zD vW y'.vw,.sl false (List.take ss.length (ss.map jB))],sd0,bA false]=_
   rw[zYe (zZ5 hsl)];rfl
theorem TX (ss:List Ss):bO ss ss.length=ss.map λs=>(VV s).1:=by
 unfold bO;apply zZf;intro j;rw[qD,zX8];by_cases hj:j<ss.length
 ·rw[zX3 hj,zX3 hj,zYk hj];simp only[Option.map_some,zYc,zYk hj,yAg]
 ·rw[zX2 hj,zYx zB];rfl
def zXy (hn:b.y.now<1000000000) (e:Ev) (hk:e.k=6):∃(y':Cy) (Td:List (List Ms)),MtP b.y y' (kP b.ss) Td/\zO 118 [qJ b.y,zD kX (kP b.ss)] [] (.tup [qJ y',tdO Td (LD (b.y.now+1) y'.vw)]) (tdH Td)/\zO 45 [ZB b,dU e] [] (.tup [ZB ⟨y',bO b.ss b.ss.length⟩,sdA (Td.map TY) (TY [LD (b.y.now+1) y'.vw]),bA true]) []:=by
 obtain⟨N,hN,hN8⟩:=zBk b h;have k1:=VU b h;have hlen:(kP b.ss).length=b.ss.length:=by unfold kP;rw[zX5]
 obtain⟨y',Td,hM,km⟩:=zLo b.y h.y hn (kP b.ss) (by rw[hlen];exact h.l) (λi hi=>by
  unfold kP at hi;obtain⟨s,hs,rfl⟩:=zZn.1 hi
  exact(zLz (h.s s hs)).2)
 have kd:=zLs b h y' Td hM (zUu km);refine⟨y',Td,hM,km,?_⟩;have hsl:=zA jB b.ss;have hsl2:((bO b.ss b.ss.length).map jB).length=b.ss.length:=by unfold bO;rw[zX5,vE]
 clear km;obtain⟨y,ss⟩:=b;obtain⟨ek,es,ea,en,eb⟩:=e;dsimp only at *;subst hk;unfold sdA at *;generalize Td.map TY=S at *;generalize TY [LD (y.now+1) y'.vw]=fb at *;unfold ZB RR at *;dsimp only at *;rw[show zD jB (bO ss ss.length)= .sl false ((bO ss ss.length).map jB)from Z];generalize (bO ss ss.length).map jB=X at *;unfold dU;dsimp only;by_cases h0:es<0
 ·(refine eM call45 λF hF=>?_)
  refine yR (wZ k1 kd) ?_;refine zI [] Z Z ?_ Z
  show AV.tup [AV.agg [zD vC y'.c.js,zD vU y'.c.ags,iA y'.c.per,iA y'.c.cap,iA y'.c.hold,iA y'.c.lock,bA false,iA y'.now,zD zK y'.ds,zD vJ y'.sg,zD vI y'.sv,zD iA y'.st,zD vW y'.vw,.sl false (List.take ss.length X)],AV.agg [zD (zD yA) S,zD yA fb],bA true]=_
  rw[zYe (zZ5 hsl2)]
 ·(refine eM call45 λF hF=>?_)
  refine yR (wZ k1 kd) ?_;refine zI [] Z Z ?_ Z
  show AV.tup [AV.agg [zD vC y'.c.js,zD vU y'.c.ags,iA y'.c.per,iA y'.c.cap,iA y'.c.hold,iA y'.c.lock,bA false,iA y'.now,zD zK y'.ds,zD vJ y'.sg,zD vI y'.sv,zD iA y'.st,zD vW y'.vw,.sl false (List.take ss.length X)],AV.agg [zD (zD yA) S,zD yA fb],bA true]=_
  rw[zYe (zZ5 hsl2)]
end
section
structure DoR where
 b:SO
 S:List (List Int)
 f:List Int
 fl:Bool
structure zLl (b:SO) (e:Ev) (r:DoR):Prop where
 i:GQ r.b
 c:r.b.y.c=b.y.c
 n:b.y.now<=r.b.y.now/\r.b.y.now<=b.y.now+1
 s:e.k=1∨e.k=2∨e.k=3->r=⟨doS b e,[],[],false⟩
 t:r.fl=true->r.S.length=b.ss.length
 f6:r.fl=true->e.k=6
 y:e.k=4∨e.k=5->r=⟨⟨dyF b.y e,b.ss⟩,[],[],false⟩
 t6:e.k=6->∃(y':Cy) (Td:List (List Ms)),MtP b.y y' (kP b.ss) Td/\r=⟨⟨y',bO b.ss b.ss.length⟩,Td.map TY,TY [LD (b.y.now+1) y'.vw],true⟩/\zO 118 [qJ b.y,zD kX (kP b.ss)] [] (.tup [qJ y',tdO Td (LD (b.y.now+1) y'.vw)]) (tdH Td)
 k:zO 45 [ZB b,dU e] [] (.tup [ZB r.b,sdA r.S r.f,bA r.fl]) []
def zWv {e:Ev} (he:BY e.y) {s:Ss} (h:SsI s):SsI (ssF e s):=by
 unfold ssF;split
 ·split
  ·exact h
  ·exact⟨jP,zYl _⟩
 ·split
  ·exact⟨jP,zYl _⟩
  ·exact zU0 h he
def zWw {b:SO} (h:GQ b) {e:Ev} (he:BY e.y):GQ (doS b e):=by
 unfold doS;split
 ·refine⟨h.y,by dsimp only;rw[zZx];exact h.l,λs hs=>?_⟩;rename_i hr;unfold inR at hr;rw[zX9]at hr
  rcases yAv hs with hs|rfl
  ·exact h.s s hs
  ·exact zWv he (h.s _ (zX b.ss _ zB))
 ·exact h
def zWx (b:SO) (h:GQ b) (hn:b.y.now<1000000000) (e:Ev) (he:LG e):∃r,zLl b e r:=by
 have hk:=he.k;have hyn:=he.n;have hcs:(e.k=1∨e.k=2∨e.k=3)∨(e.k=4∨e.k=5)∨e.k=6:=by omega
 rcases hcs with hk|hk|hk
 ·have k:=zXw b h e hk he.y zB
  have e1:(doS b e).y=b.y:=by unfold doS;split<;>rfl
  exact⟨⟨doS b e,[],[],false⟩,zWw h he.y,by dsimp only;rw[e1],by dsimp only;rw[e1];omega,λ_=>rfl,λh=>(by cases h),λh=>(by cases h),λh=>zB,λh=>zB,k⟩
 ·obtain⟨y',i1,i3,k⟩:=zXx b h e hk he.y zB;obtain⟨i2,i4,_⟩:=HX h.y.rf e;rw[<-i3]at i2 i4;exact⟨⟨⟨y',b.ss⟩,[],[],false⟩,⟨i1,by dsimp only;rw[i2];exact h.l,h.s⟩,i2,by dsimp only;omega,λh=>zB,λh=>(by cases h),λh=>(by cases h),λ_=>by rw[i3],λh=>zB,k⟩
 ·obtain⟨y',Td,hM,km,k⟩:=zXy b h hn e hk;have hll:(kP b.ss).length=b.ss.length:=by unfold kP;rw[zX5]
  refine⟨⟨⟨y',bO b.ss b.ss.length⟩,Td.map TY,TY [LD (b.y.now+1) y'.vw],true⟩,⟨hM.i,?_,λs hs=>?_⟩,hM.c,by have:=hM.n;dsimp only;omega,λh=>zB,λ_=>by dsimp only;rw[zX5,hM.l,hll],λ_=>hk,λh=>zB,λ_=>⟨y',Td,hM,rfl,km⟩,k⟩
  ·dsimp only;rw[hM.c,TX b h,zX5];exact h.l
  ·dsimp only at hs;rw[TX b h]at hs;obtain⟨s0,hs0,rfl⟩:=zZn.1 hs;exact(zLz (h.s s0 hs0)).1
open Classical in
noncomputable def bQ (b:SO) (e:Ev):DoR:=if h:∃r,zLl b e r then h.choose else⟨b,[],[],false⟩
def VR {b:SO} (h:GQ b) (hn:b.y.now<1000000000) {e:Ev} (he:LG e):zLl b e (bQ b e):=by
 have hx:=zWx b h hn e he;unfold bQ;rw[dif_pos hx];exact hx.choose_spec
theorem zLl.st {b:SO} (h:GQ b) {e:Ev} {r:DoR} (he:LG e) (D:zLl b e r) (hf:r.fl=false):r.b.y.now=b.y.now/\r.b.y.sg=b.y.sg/\r.b.y.sv=b.y.sv/\r.b.y.vw=b.y.vw/\r.b.y.ds.map dqF=b.y.ds.map dqF:=by
 have hk:=he.k;have hc:(e.k=1∨e.k=2∨e.k=3)∨(e.k=4∨e.k=5)∨e.k=6:=by omega
 rcases hc with hc|hc|hc
 ·have e1:(doS b e).y=b.y:=by unfold doS;split<;>rfl
  rw[D.s hc];dsimp only;rw[e1];exact⟨rfl,rfl,rfl,rfl,rfl⟩
 ·rw[D.y hc];exact(HX h.y.rf e).2
 ·obtain⟨_,_,_,e2,_⟩:=D.t6 hc;rw[e2]at hf;cases hf
noncomputable def VS:SO->List Ev->SO
 |b,[]=>b
 |b,e::l=>VS (bQ b e).b l
noncomputable def rnS:SO->List Ev->List (List (List Int)×List Int)
 |_,[]=>[]
 |b,e::l=>(if(bQ b e).fl=true then [((bQ b e).S,(bQ b e).f)]else [])++rnS (bQ b e).b l
def zP1 (b:SO) (l m:List Ev):VS b (l++m)=VS (VS b l) m:=by
 induction l generalizing b with
 |nil=>rfl
 |cons e l ih=>exact ih _
theorem zRa:∀(l:List Ev) {b:SO},GQ b->(∀e∈l,LG e)->b.y.now+(l.length:Int)<1000000000->GQ (VS b l)/\(VS b l).y.c=b.y.c/\b.y.now<=(VS b l).y.now/\(VS b l).y.now<=b.y.now+(l.length:Int)/\(rnS b l).length<=l.length
 | [],b,h,_,_=>⟨h,rfl,yAc _,by simp[VS],zX7 _⟩
 | e::l,b,h,he,hn=>by
  rw[zYh]at hn;have k:=VR h zB (he e zW);have kn:=k.n;obtain⟨i1,i2,i3,i4,i5⟩:=zRa l k.i (λx hx=>he x OU) zB;refine⟨i1,i2.trans k.c,?_,?_,?_⟩
  ·show b.y.now<=(VS (bQ b e).b l).y.now
   omega
  ·show(VS (bQ b e).b l).y.now<=_
   rw[zYh];omega
  ·show((if(bQ b e).fl=true then [((bQ b e).S,(bQ b e).f)]else [])++rnS (bQ b e).b l).length<=_
   rw[zX4,zYh];split
   ·simp only[zYh,zZc];omega
   ·simp only[zZc];omega
end
noncomputable def GP:SO->List Ev->List (List Vw)
 |_,[]=>[]
 |b,e::l=>(if(bQ b e).fl=true then [(bQ b e).b.y.vw]else [])++GP (bQ b e).b l
def zP2 (b:SO) (l m:List Ev):GP b (l++m)=GP b l++GP (VS b l) m:=by
 induction l generalizing b with
 |nil=>rfl
 |cons e l ih=>
  show _++GP _ (l++m)=_
  rw[ih,<-zYw];rfl
theorem zDp:∀(l:List Ev) (b:SO),(GP b l).length<=l.length
 | [],_=>zX7 _
 |e::l,b=>by
  have ih:=zDp l (bQ b e).b
  show((if(bQ b e).fl=true then [(bQ b e).b.y.vw]else [])++GP (bQ b e).b l).length<=_
  rw[zX4,zYh];split
  ·simp only[zYh,zZc];omega
  ·simp only[zZc];omega
def vsA (v:List Vw):AV:=zD vW v
def zP3 (c:Cf) (hc:BI c) (l:List Ev) (hl:l.length<=1000000) (he:∀e∈l,LG e):zO 21 [vL c,zD dU l] [] (zD vsA (GP (ZH c) (l.take 400))) []:=by
 have k1:=zP6 c hc;have hb:=zRc c hc;have hll:=zA dU l;have h0:(ZH c).y.now=0:=rfl;have ht4:(l.take 400).length<=400:=by rw[zYn];omega
 have hm4:∀e∈l.take 400,LG e:=λe h=>he e (zZl h)
 unfold ZB RR at k1;refine eM call21 λF hF=>?_
 refine zY k1 ?_
 have tk4:l.take (min ((l.map dU).length:Int) 400).toNat=l.take 400:=by
  rw[zX5];by_cases h:l.length<=400
  ·rw[zYe zB,zYe zB]
  ·congr 1
   omega
 rw[tk4];have hl4:=zA dU (l.take 400);generalize l.take 400=l4 at *;refine xA 6 1001 1 Z Z Z ?_;refine yT (l4) [5,1001] [] [5,18,19] [6,20,5,18,19] Z (λi pre T U=>⟨(6,.ref 1001 0 ((GP (ZH c) pre).map vsA).length)::(20,iA i)::T,(5,.box [zD vC (VS (ZH c) pre).y.c.js,zD vU (VS (ZH c) pre).y.c.ags,iA (VS (ZH c) pre).y.c.per,iA (VS (ZH c) pre).y.c.cap,iA (VS (ZH c) pre).y.c.hold,iA (VS (ZH c) pre).y.c.lock,bA false,iA (VS (ZH c) pre).y.now,zD zK (VS (ZH c) pre).y.ds,zD vJ (VS (ZH c) pre).y.sg,zD vI (VS (ZH c) pre).y.sv,zD iA (VS (ZH c) pre).y.st,zD vW (VS (ZH c) pre).y.vw,zD jB (VS (ZH c) pre).ss])::(1001,.arr 1 ((GP (ZH c) pre).map vsA) true)::U⟩) ?_;(conv=>whnf);refine⟨by rfl,?_,?_⟩
 ·intro i pre x post hx hi;have hy:=xQ dU hx hi;have hlt:=yW hx hi;have hpm:∀e∈pre,LG e:=λe h=>hm4 e (by rw[hx];simp[h])
  have hpl:pre.length<=l4.length:=by rw[hx];simp
  have hxe:=hm4 x (by rw[hx];simp);obtain⟨p1,p2,p3,p4,p5⟩:=zRa pre hb hpm (by rw[h0];omega);have D:=VR p1 zB hxe;have kd:=D.k;have e1:VS (ZH c) (pre++[x])=(bQ (VS (ZH c) pre) x).b:=zP1 _ _ _
  have e2:GP (ZH c) (pre++[x])=GP (ZH c) pre++(if(bQ (VS (ZH c) pre) x).fl=true then [(bQ (VS (ZH c) pre) x).b.y.vw]else []):=by
   rw[zP2]
   congr 1
   show _++[]=_
   rw[zY4]
  have hvl:=zDp pre (ZH c);have Db:=D.i.y.b;have cv:=YV _ Db.v Db.vb;rw[e1,e2,zYd];have hsm:=zA vsA (GP (ZH c) pre);clear D Db e1 e2 hx hpm;generalize (GP (ZH c) pre).map vsA=X at *;unfold ZB RR dU sdA at kd;unfold dU at hy;generalize bQ (VS (ZH c) pre) x=r at *;generalize VS (ZH c) pre=b0 at *;obtain⟨rb,S,f,fl⟩:=r;dsimp only at *;cases fl
  ·rw[zX2 zYp,yAl,zY4];refine zY kd ?_;rfl
  ·rw[zX3 Z,show [rb.y.vw].map vsA=[zD vW rb.y.vw]from Z];refine EV (wZ kd cv) ?_;rfl
 ·(refine WW ?_)
  exact zI [] Z Z (zY3 (AV.sl false) zX6) Z
theorem NT (x:Ag) (l:List Ag):∀a,qV (x::l) (a+1)=x.ses+qV l a
 |0=>by show(0:Int)+x.ses=x.ses+0;omega
 |a+1=>by
  have ih:=NT x l a
  show qV (x::l) (a+1)+(l.getD a default).ses=x.ses+(qV l a+(l.getD a default).ses)
  omega
theorem VT:∀(l:List Ag),(∀a∈l,1<=a.ses)->∀a,a<=l.length->0<=qV l a
 |_,_,0,_=>yAc _
 | [],_,a+1,h=>absurd h zW
 |x::l,h,a+1,ha=>by
  have:=VT l (λy hy=>h y (by simp[hy])) a (by simpa using ha);have:=h x zW;rw[NT];omega
theorem zLm:∀(l:List Ag),(∀a∈l,1<=a.ses)->∀(a:Nat) (k:Int) (i:Nat),a<l.length->0<=k->k<(l.getD a default).ses->(owR l (qV l a+k) i).1=((i+a:Nat):Int)
 | [],_,a,_,_,ha,_,_=>absurd ha zW
 |x::l,h,0,k,i,_,h0,h1=>by
  unfold owR;rw[zX3 (by show(0:Int)+k<x.ses;have h1:k<x.ses:=h1;omega)];rfl
 |x::l,h,a+1,k,i,ha,h0,h1=>by
  have hn:=VT l (λy hy=>h y (by simp[hy])) a (by have:a+1<l.length+1:=ha;omega);have ih:=zLm l (λy hy=>h y (by simp[hy])) a k (i+1) (by have:a+1<l.length+1:=ha;omega) h0 h1;unfold owR;rw[NT,zX2 zB,show x.ses+qV l a+k-x.ses=qV l a+k by omega,ih];omega
def zBl {c:Cf} (hw:AD c.ags) {a k:Nat} (ha:a<c.ags.length) (hk:(k:Int)<(c.ags.getD a default).ses):(owF c (qV c.ags a+k)).1=(a:Int):=by
 have hn:=VT c.ags (λy hy=>(hw.2 y hy).1) a zB;unfold owF;rw[zX2 zB,zLm c.ags (λy hy=>(hw.2 y hy).1) a k 0 ha zB hk];omega
def NU {α:Type} (l:List α) (i:Nat) (x:α) (h:i<l.length):l.getD i x∈l:=by
 rw[zYc,zYk h];exact yAr _
def zLn {c:Cf} (hw:AD c.ags) (T:Nat->Nat->List Ms) {a k:Nat} (ha:a<c.ags.length) (hk:(k:Int)<(c.ags.getD a default).ses):(GC c T c.ags.length).getD ((qV c.ags a).toNat+k) []=T a k:=by
 have hl:=SE hw T c.ags.length (zX7 _);have hmo:qV c.ags (a+1)<=qV c.ags c.ags.length:=TZ hw zB (zX7 _);have hse:qV c.ags (a+1)=qV c.ags a+(c.ags.getD a default).ses:=rfl;have n1:=VT c.ags (λy hy=>(hw.2 y hy).1) a zB;obtain⟨a',k',h1,h2,h3,h4⟩:=SF hw T c.ags.length (zX7 _) ((qV c.ags a).toNat+k) zB;have n2:=VT c.ags (λy hy=>(hw.2 y hy).1) a' zB;have e1:=zBl hw ha hk;have e2:=zBl hw h1 h2;rw[show qV c.ags a'+(k':Int)=qV c.ags a+k by omega,e1]at e2;obtain rfl:a=a':=by omega
 obtain rfl:k=k':=by omega
 exact h4
def NaC (y:Cy):Prop:=∀d∈y.ds,NoT d.rg.tk/\∀x∈d.au,x=false
theorem NoT.exp {l:List Tk} (h:NoT l) (now:Int):NoT (NN l now):=λt ht hu=>by
 obtain⟨j,hj,rfl⟩:=zZn.1 ht;rw[zYs]at hj;unfold zBe at hu⊢;split at hu
 ·cases hu
 ·rw[zX2 ‹_›];exact h _ (zX l j hj) hu
def zUt {ins:List In} {l:List Bool} (h:∀x∈l,x=false):∀x∈auF ins l,x=false:=λx hx=>by
 obtain⟨i,hi,rfl⟩:=SA hx;unfold auF at hi⊢;rw[vE]at hi;rw[zYc,qD,zX3 hi,zX3 hi,yAg];unfold RA;split
 ·exact h _ (zX l i hi)
 ·rfl
theorem NaC.tick {y:Cy} (N:NaC y) {ins:List In} {R:Nat->DR} (hR:TkR y ins R):NaC (dB y R):=λd hd=>by
 obtain⟨a,ha,rfl⟩:=SD hd;obtain⟨n1,n2⟩:=N _ (zX y.ds a ha);obtain⟨k1,k2⟩:=(hR a ha).1.na (NoT.exp n1 _);refine⟨k1,?_⟩;rw[k2];exact zUt n2
theorem NaC.dy {y:Cy} (N:NaC y) (e:Ev):NaC (dyF y e):=by
 unfold dyF;split
 ·unfold HW;split
  ·intro d hd;rename_i hc
   rcases yAv hd with hd|rfl
   ·exact N d hd
   ·have:=N _ (zX y.ds e.a.toNat zB);exact this
  ·exact N
 ·unfold BA;split
  ·exact N
  ·exact N
structure Tw (h:Int) (b b':SO):Prop where
 c:b'.y.c=b.y.c
 n:b'.y.now=b.y.now
 d:∀a:Nat,(a:Int)≠h->b'.y.ds.getD a default=b.y.ds.getD a default
 s:∀s:Nat,(owF b.y.c s).1≠h->b'.ss.getD s default=b.ss.getD s default
def TwO (c:Cf) (h:Int) (S S':List (List Int)) (v v':List Vw):Prop:=S'.length=S.length/\(WM v).length=(WM v').length/\∀a k:Nat,a<c.ags.length->(a:Int)≠h->(k:Int)<(c.ags.getD a default).ses->
 (qV c.ags a).toNat+k<S.length/\((S.getD ((qV c.ags a).toNat+k) []=[]/\S'.getD ((qV c.ags a).toNat+k) []=[])∨
 ∃(L:List Ms) (d:xI) (now:Int),(∀m∈L++[cD d v now],RT m)/\RT (cD d v' now)/\L.length<=1001/\S.getD ((qV c.ags a).toNat+k) []=TY (L++[cD d v now])/\S'.getD ((qV c.ags a).toNat+k) []=TY (L++[cD d v' now]))
theorem CZ (js:List Jn) (D D':Nat->Sg×Sv):∀n,(WM (BE js D n)).length=(WM (BE js D' n)).length
 |0=>rfl
 | n+1=>by
  have ih:=CZ js D D' n
  have hv:∀(j:Jn) (p:Sg×Sv),(vwF (LF j p.1 p.2)).length=3+j.ph.length:=λj p=>by
   unfold LF vwF;split
   ·simp[vwZ];omega
   ·simp[GE,vE];omega
  have e:∀D,WM (BE js D (n+1))=WM (BE js D n)++vwF (LF (js.getD n default) (D n).1 (D n).2):=λD=>by simp[WM,BE,yAw]
  rw[e,e,zX4,zX4,ih,hv,hv]
def aE {α β:Type} (f:α->β) (l:List α) (i:Nat) (x:α) (y:β) (h:i<l.length):(l.map f).getD i y=f (l.getD i x):=by
 rw[zYc,zX8,zYk h,zYc,zYk h];rfl
def dR {α:Type} (l:List α) (i:Nat) (x:α) (h:¬i<l.length):l.getD i x=x:=by
 rw[zYc,zYx zB];rfl
theorem Tw.ss {h:Int} {b b':SO} (hb:GQ b) (hb':GQ b') (T:Tw h b b'):b'.ss.length=b.ss.length/\b'.y.ds.length=b.y.ds.length:=by
 have h1:=hb.l;have h2:=hb'.l;rw[T.c]at h2;have h3:=hb.y.dl;have h4:=hb'.y.dl;rw[T.c]at h4;omega
theorem Tw.own {h:Int} {b b':SO} (hb:GQ b) (hb':GQ b') (T:Tw h b b') {a:Nat} (ha:a<b.y.c.ags.length) (hh:(a:Int)≠h):∀k:Nat,(k:Int)<(b.y.c.ags.getD a default).ses->(kP b'.ss).getD ((qV b.y.c.ags a).toNat+k) default=(kP b.ss).getD ((qV b.y.c.ags a).toNat+k) default:=λk hk=>by
 have hw:=hb.y.v.ag;have hn:=VT b.y.c.ags (λy hy=>(hw.2 y hy).1) a zB
 have e:=T.s ((qV b.y.c.ags a).toNat+k) (by
  rw[show(((qV b.y.c.ags a).toNat+k:Nat):Int)=qV b.y.c.ags a+k by omega,zBl hw ha hk]
  exact hh)
 obtain⟨l1,_⟩:=T.ss hb hb';unfold kP;by_cases hs:(qV b.y.c.ags a).toNat+k<b.ss.length
 ·rw[aE _ _ _ default _ zB,aE _ _ _ default _ hs,e]
 ·rw[dR _ _ _ LZ,dR _ _ _ LZ]
theorem Tw.step {h:Int} {b b':SO} (hb:GQ b) (hb':GQ b') (N:NaC b.y) (T:Tw h b b') (hn:b.y.now<1000000000) {e:Ev} (he:LG e):Tw h (bQ b e).b (bQ b' (BH b.y.c h e)).b/\NaC (bQ b e).b.y/\(bQ b' (BH b.y.c h e)).fl=(bQ b e).fl/\
  ((bQ b e).fl=true->TwO b.y.c h (bQ b e).S (bQ b' (BH b.y.c h e)).S (bQ b e).b.y.vw (bQ b' (BH b.y.c h e)).b.y.vw):=by
 have hn':b'.y.now<1000000000:=by rw[T.n];exact hn
 obtain⟨l1,l2⟩:=T.ss hb hb';have D:=VR hb hn he;have D':=VR hb' hn' (zU6 (c:=b.y.c) (a:=h) he);have hk:=he.k
 have ek:(BH b.y.c h e).k=e.k:=by unfold BH;split<;>rfl
 have es:(BH b.y.c h e).s=e.s:=by unfold BH;split<;>rfl
 have hc:(e.k=1∨e.k=2∨e.k=3)∨(e.k=4∨e.k=5)∨e.k=6:=by omega
 rcases hc with hc|hc|hc
 ·rw [D.s hc,D'.s (by rw[ek];exact hc)];dsimp only
  have hy:∀b e,(doS b e).y=b.y:=λb e=>by unfold doS;split<;>rfl
  have hir:inR b' e.s=inR b e.s:=by unfold inR;rw[l1]
  refine⟨⟨by rw[hy,hy];exact T.c,by rw[hy,hy];exact T.n,by rw[hy,hy];exact T.d,?_⟩,by rw[hy];exact N,rfl,λhf=>by cases hf⟩;rw[hy];intro s hs;have hT:=T.s s hs;unfold doS;rw[es,hir];split
  ·rename_i hr;unfold inR at hr;rw[zX9]at hr;dsimp only;by_cases hsl:s<b.ss.length
   ·rw[dZ _ _ _ _ zB,dZ _ _ _ _ hsl];split
    ·rename_i hq
     have ew:BH b.y.c h e=e:=by
      unfold BH;split
      ·rename_i hw;exfalso;unfold woB KT at hw;simp only[zYg,zX9]at hw;apply hs;rw[<-hw.2.1.2.2,show(s:Int)=e.s by omega]
      ·rfl
     rw[ew,hq,hT]
    ·exact hT
   ·rw[dR _ _ _ (by rw[zZx];omega),dR _ _ _ (by rw[zZx];omega)]
  ·exact hT
 ·have ew:BH b.y.c h e=e:=by
   unfold BH;split
   ·rename_i hw;exfalso;unfold woB at hw;simp only[zYg,zX9]at hw;omega
   ·rfl
  rw[ew]at D'⊢;rw[D.y hc,D'.y hc];dsimp only;obtain⟨c1,c2,_⟩:=HX hb.y.rf e;obtain⟨c3,c4,_⟩:=HX hb'.y.rf e;refine⟨⟨by rw[c1,c3];exact T.c,by rw[c2,c4];exact T.n,λa ha=>?_,by rw[c1];exact T.s⟩,N.dy e,rfl,λhf=>by cases hf⟩;have hT:=T.d a ha;dsimp only;unfold dyF;split
  ·unfold HW;rw[l2];by_cases hx:(0<=e.a/\e.a<(b.y.ds.length:Int))/\e.y.length=8
   ·by_cases hq:e.a.toNat=a
    ·rw[hq,hT];by_cases hd:(b.y.ds.getD a default).dr.length<8
     ·rw[zX3 ⟨hx.1,hx.2,hd⟩,zX3 ⟨hx.1,hx.2,hd⟩];dsimp only;rw[dZ _ _ _ _ zB,dZ _ _ _ _ zB,zX3 Z,zX3 Z]
     ·rw[zX2 (λh=>hd h.2.2),zX2 (λh=>hd h.2.2)];exact hT
    ·have g:∀(y:Cy) (z:xI),(y.ds.set e.a.toNat z).getD a default=y.ds.getD a default:=λy z=>by
      rw[zYc,yB9 hq,<-zYc]
     split<;>split<;>((try dsimp only);(try rw[g]);(try rw[g]);exact hT)
   ·rw[zX2 (λh=>hx ⟨h.1,h.2.1⟩),zX2 (λh=>hx ⟨h.1,h.2.1⟩)];exact hT
  ·unfold BA
   split<;>split<;>exact hT
 ·have ew:BH b.y.c h e=e:=by
   unfold BH;split
   ·rename_i hw;exfalso;unfold woB at hw;simp only[zYg,zX9]at hw;omega
   ·rfl
  rw[ew]at D'⊢;obtain⟨y1,Td,M,e3,_⟩:=D.t6 hc;obtain⟨y2,Td',M',e4,_⟩:=D'.t6 hc;rw[e3,e4];dsimp only;have hw:=hb.y.v.ag;have hdl:=hb.y.dl;have hil:(kP b.ss).length=b.ss.length:=by unfold kP;rw[zX5]
  have hil':(kP b'.ss).length=b.ss.length:=by unfold kP;rw[zX5,l1]
  have hOw:=λa ha hh=>T.own hb hb' (a:=a) ha hh
  obtain⟨hR,hy,hT⟩:=M.tk;obtain⟨hR',hy',hT'⟩:=M'.tk
  have hds:∀a:Nat,(a:Int)≠h->a<b.y.ds.length->dtR b'.y (kP b'.ss) a=dtR b.y (kP b.ss) a:=λa hh ha=>by
   unfold dtR;rw[T.c,T.n,T.d a hh]
   congr 1
   unfold owI BS;apply yA3;intro j hj;rw[zYs]at hj;exact hOw a zB hh j zB
  have hdd:∀a:Nat,(a:Int)≠h->y2.ds.getD a default=y1.ds.getD a default:=λa hh=>by
   rw[hy,hy']
   show(SP (b'.y.now+1) b'.y.ds (dtR b'.y (kP b'.ss)) b'.y.ds.length).getD a default=(SP (b.y.now+1) b.y.ds (dtR b.y (kP b.ss)) b.y.ds.length).getD a default
   by_cases ha:a<b.y.ds.length
   ·rw[ZC zB,ZC ha,hds a hh ha]
   ·rw[dR _ _ _ (by rw[dS];omega),dR _ _ _ (by rw[dS];omega)]
  have N1:NaC y1:=by rw[hy];exact N.tick hR
  refine⟨⟨by rw[M.c,M'.c];exact T.c,by rw[M.n,M'.n,T.n],hdd,λs hs=>?_⟩,N1,rfl,λ_=>⟨by rw[zX5,zX5,M.l,M'.l];omega,?_,λa k ha hh hk=>?_⟩⟩
  ·dsimp only at hs⊢;rw[M.c]at hs;have hq:=T.s s hs;rw[TX b' hb',TX b hb];by_cases hs:s<b.ss.length
   ·rw[aE _ _ _ default _ zB,aE _ _ _ default _ hs,hq]
   ·rw[dR _ _ _ LZ,dR _ _ _ LZ]
  ·rw[hy,hy']
   show(WM (BE b.y.c.js _ b.y.c.js.length)).length=(WM (BE b'.y.c.js _ b'.y.c.js.length)).length
   rw[T.c];exact CZ _ _ _ _
  ·have hb1:=hb.l;have hsn:=VT b.y.c.ags (λy hy=>(hw.2 y hy).1) a zB;have hmo:qV b.y.c.ags (a+1)<=qV b.y.c.ags b.y.c.ags.length:=TZ hw zB (zX7 _);have hse:qV b.y.c.ags (a+1)=qV b.y.c.ags a+(b.y.c.ags.getD a default).ses:=rfl;have hML:=M.l;have hML':=M'.l;have hsl:(qV b.y.c.ags a).toNat+k<Td.length:=by omega
   have hsl':(qV b.y.c.ags a).toNat+k<Td'.length:=by omega
   refine⟨by rw[zX5];exact hsl,?_⟩;rw[aE TY _ _ [] _ hsl,aE TY _ _ [] _ hsl'];have hX:=zLn hw (GB y1 (kP b.ss) (dtR b.y (kP b.ss)) b.y.ds.length) ha hk;have hX':=zLn hw (GB y2 (kP b'.ss) (dtR b'.y (kP b'.ss)) b'.y.ds.length) ha hk;rw[<-hT]at hX;rw[T.c]at hT';rw[<-hT']at hX';rw[hX,hX'];have hv:=M.v (GB y1 (kP b.ss) (dtR b.y (kP b.ss)) b.y.ds.length a k) (by rw[<-hX];exact NU Td _ [] hsl);have hv':=M'.v (GB y2 (kP b'.ss) (dtR b'.y (kP b'.ss)) b'.y.ds.length a k) (by rw[<-hX'];exact NU Td' _ [] hsl')
   have hau:(y1.ds.getD a default).au.getD k default=false:=by
    have h1:=(N1 _ (zX y1.ds a (by rw[hy];show a<(SP _ _ _ _).length;rw[dS];omega))).2;by_cases hka:k<(y1.ds.getD a default).au.length
    ·exact h1 _ (zX _ _ hka)
    ·rw[dR _ _ _ hka];rfl
   unfold GB at hv hv'⊢;rw[M.c]at hv⊢;rw[M'.c,T.c]at hv'⊢;rw[hOw a ha hh k hk]at hv'⊢;by_cases ho:((kP b.ss).getD ((qV b.y.c.ags a).toNat+k) default).opn=true
   ·right
    rw[zX3 ho]at hv hv'⊢;rw[zX3 ho];unfold tlF at hv hv'⊢;rw[hdd a hh,hds a hh zB]at hv'⊢;rw[hau,zX2 zYp,zY4]at hv hv'⊢;rw[zX2 zYp,zY4];rw[M'.n,T.n]at hv'⊢;rw[M.n]at hv⊢;exact⟨_,_,_,hv.2,hv'.2 _ zW,by have:=hv.1;rw[zX4,yAk]at this;omega,rfl,rfl⟩
   ·left
    rw[zX2 ho,zX2 ho];exact⟨rfl,rfl⟩
section
variable {P:Program} {TT:List TI} {st:St}
def NV (hP:uZ P TT) {T:Nat} {ti:TI} (hT:TT[T]? =some ti) (h1:ti.zero.all (·.oneCell')=true) (hpos:Nat.ble 1 ti.zero.length=true) (hm:Nat.ble ti.zero.length 65536=true):wV P st (.alloc T) (.fp (ti.zero.map .s) 0 0) [] [] []:=by
 refine⟨?_⟩;intro X tm h hg _ hn o a w β ho HH Ht;obtain⟨d0,o0,y0,p0,f0,g0⟩:=o;dsimp only at ho;subst ho;have hpos:=zYm hpos;have hm:=zYm hm;obtain⟨z,hz,hzz⟩:=OY (hP _ _ hT) w;have hzl:z.cells.size=ti.zero.length:=by rw[<-hzz];simp
 have hat:∀(i:Nat) (x:AV),(ti.zero.map AV.s)[i]? =some x->x= .s (z.cells.getD i undef):=λi x hx=>by
  simp only[zX8,zYf]at hx;obtain⟨u,hu,rfl⟩:=hx;rw[<-hzz]at hu;rw[gV (by simpa using hu)]
 have hv:=xE.newArr HH z.cells T 1 (ti.zero.map .s) z.cells.size (λi _=>z.cells.getD i undef) (zX7 _) (by rw[zX5];unfold cU;omega) LZ (λi x hx=>by rw[hat i x hx];rfl) (λi j hi hj=>by
  rw[zX5]at hi;rw[show i*1+j=i by omega]
  simp[Array.getD,show i<z.cells.size by omega]) (λi j hi hj=>by
  rw[zX5]at hi;have:=zYi.1 h1 (z.cells.getD i undef) (by rw[<-hzz];exact zZk (by simpa using kW _ i zB))
  exact this) (λi x j v hx hy=>by
  rw[hat i x hx]at hy
  cases j with
  |zero=>cases hy;exact .s _
  |succ j=>cases hy)
 have hr:(execOp a.eval ⟨d0,.alloc T,y0,p0,f0,g0⟩).run P w= .ok (.value (.pointer (some ⟨w.heap.size,0,none⟩))) (w.alloc (.cells z.cells T)):=by
  simp[execOp,Instr.alloc,hz,newVar,newRow]
 rw[hr];refine⟨β,xK.newFz HH z.cells T,.fz _ _ ?_⟩;have hxl:(ti.zero.map AV.s).length=ti.zero.length:=zX5 ..;clear hat;generalize ti.zero.map AV.s=xs at *;generalize hc:(Value.slice (some ⟨w.heap.size,0,none⟩) xs.length z.cells.size)=c at hv
 cases hv with
 |nil1 a cap=>exfalso;rw[zZc]at hxl;omega
 |sl _ _ b o sz cap f hne hL hcp hh=>
  injection hc with q1 q2 q3
  injection q1 with q1
  injection q1 with q4 q5
  subst q4 q5;have hw:=hL.pos;have:=xE.fp (w:=w.alloc (.cells z.cells T)) (D:=xO X β) xs w.heap.size 0 sz 0 0 f hL zB hw hh;simpa using this
theorem KM (hP:uZ P TT) {T e key off len:Nat} {d:Operand} {ti te:TI} {xs:List AV} {v0:Value} (hdv:yM (zG st.tm) d= .ref key off len) (hk:zC st.h key=some (.arr 1 xs false)) (hT:TT[T]? =some ti) (hd:ti.d= .slice e) (he:TT[e]? =some te) (hz0:te.zero=[v0]) (hv1:v0.oneCell'=true):
  wV P st (.call ⟨.builtin .clear, #[d], #[T]⟩) (.tup []) [(key,.arr 1 (xs.take off++List.replicate len (AV.s v0)++xs.drop (off+len)) false)] [key] []:=by
 refine⟨?_⟩;intro X tm h hg hr _ o a w β ho HH Ht;obtain⟨d0,o0,y0,p0,f0,g0⟩:=o;dsimp only at ho;subst ho;have hk':=(hr key zW).trans hk;have h1:=gU Ht hg (x:=d) kJ hdv;obtain⟨g1,g2,g3,g4,g5,f,g6,g7,g8⟩:=HH.ent key _ hk';obtain⟨u0,hu0,hd'⟩:=xU (hP _ _ hT) w;obtain rfl:=vX (hd'.trans hd);obtain⟨z,hz,hzz⟩:=OY (hP _ _ he) w;rw[hz0]at hzz;have hzc:z.cells= #[v0]:=by rw[<-Array.toArray_toList (xs:=z.cells),hzz]
 obtain⟨ys,hys⟩:∃ys,ys=List.replicate len (AV.s v0):=⟨_,rfl⟩;have hyl:ys.length=len:=by rw[hys];exact zZs
 have hyat:∀(i:Nat) y,ys[i]? =some y->y= .s v0:=λi y hy=>by
  rw[hys,zZ0]at hy;split at hy
  ·exact(yAh hy).symm
  ·cases hy
 rw[<-hys];rw[show xs.drop (off+len)=xs.drop (off+ys.length) by rw[hyl]]
 have hnx:∀b n,(b,n)∈β key->n=xs.length∨n=0:=λb n hb=>by
  cases hbk:β key with
  |nil=>rw[hbk]at hb;simp at hb
  |cons q rr=>
   obtain⟨b0,n0⟩:=q;obtain⟨q1,q2,_⟩:=g5 b0 n0 rr hbk;rw[hbk]at hb;simp at hb
   rcases hb with⟨_,rfl⟩|hb
   ·exact .inl q1
   ·exact .inr (q2 Z b n hb)
 have hop:∀{w'},(Builtin.clear_ #[T] y0 #[a.eval d]).run P w= .ok (.tuple #[]) w'->(execOp a.eval ⟨d0,.call ⟨.builtin .clear, #[d], #[T]⟩,y0,p0,f0,g0⟩).run P w= .ok (.value (.tuple #[])) w':=λhv=>by
  simp[execOp,resolve,invoke,builtin,hv]
 have hvt:∀{w':World} {D:Nat->Prop} {h':yJ} {β':uW},yB w' D h' β' (.tup []) (.tuple #[]):= .tup [] #[] Z λi v hi=>by cases hi
 by_cases hnil:len=0
 ·subst hnil;have hy0:ys=[]:=zYz hyl;subst hy0;have hxs:xs.take off++[]++xs.drop (off+([]:List AV).length)=xs:=by simp
  rw[hxs]
  obtain⟨bd,cp,hcs⟩:∃bd cp,a.eval d= .slice bd 0 cp:=by
   generalize a.eval d=cx at h1
   cases h1 with
   |fz _ _ hf=>cases hf
   |dref _ _ _ _ hd _=>rw[hk']at hd;cases hd
   |ref _ _ _ _ _ _ _ _ _ _ _ _ _ _=>exact⟨_,_,rfl⟩
   |ref0 _ _ _ _ _ _ _ _=>exact⟨_,_,rfl⟩
  rw[hop (w':=w) (by
   rw[hcs]
   cases bd with
   |none=>simp[Builtin.clear_,hu0]
   |some b=>simp[Builtin.clear_,hu0])]
  have G:=xK.step (w':=w) HH key (.arr 1 xs false) (β key) (zX7 _) (λ_ _ _=>rfl) Z Z Z (λb n hm=> .inl ⟨n,hm⟩) (λ_ _ _=>rfl) (λe he=>by rw[hk']at he;cases he;exact .inr ⟨⟨_,_,rfl,zX7 _⟩,λ_ n hm=>⟨n,zX7 _,hm⟩⟩)
   (λE=>⟨g1,g2,λh=>by rw[zZ];exact g3 h,g4,λb n r hr=>by rw[zZ]at hr;exact g5 b n r hr,f,gD.evo E g6,g7,λb n hm=>by rw[zZ]at hm;exact g8 b n hm⟩)
  exact⟨_,G,hvt⟩
 have hpos:0<ys.length:=by omega
 obtain⟨sz,hsz1⟩:∃sz,sz=1:=⟨1,rfl⟩;obtain⟨fy,hfy⟩:∃fy:Nat->Nat->Value,fy=λ_ _=>v0:=⟨_,rfl⟩
 rw[<-hsz1]at hk' g1 g4 g7 g8⊢
 have hf2:∀v,v∈flat fy ys.length sz->v.oneCell'=true:=λv hv=>by
  have:v=v0:=by
   obtain⟨i,hi,rfl⟩:=yBy.1 hv;subst hfy;simp[flat]
  rw[this];exact hv1
 obtain⟨b,n,cp,hcs,hbm,hnl,hcp⟩:∃b n cp,a.eval d= .slice (some ⟨b,off*sz,none⟩) len cp/\(b,n)∈β key/\off+len<=n/\len<=cp:=by
  generalize a.eval d=cx at h1
  cases h1 with
  |fz _ _ hf=>cases hf
  |dref _ _ _ _ hd _=>rw[hk']at hd;cases hd
  |ref _ _ _ sz' xs' st' b n cp hk2 hb hn hc2 hs2=>
   rw[hk']at hk2;cases hk2;exact⟨b,n,cp,rfl,hb,hn,hc2⟩
  |ref0 _ _ _ _ _ _ _ _=>omega
 have hnn:n=xs.length:=by rcases hnx b n hbm with h|h<;>omega
 subst hnn;obtain⟨cur,el,c1,c2,c3,c4⟩:=g8 b _ hbm;have hfit:(off+ys.length)*sz<=cur.size:=zY9 (zYo _ zB) c2;have hst:=run_storeCells_at P b (off*sz) el (flat fy ys.length sz) 0 cur w c1 (by rw[zQ,yBa,<-zY8];exact hfit) hf2;simp only[yBa]at hst;generalize hcur':(cur.toList.take (off*sz)++flat fy ys.length sz++cur.toList.drop (off*sz+(flat fy ys.length sz).length)).toArray=cur' at hst
 have hflz:(Builtin.zeroCells z.cells ys.length).toList=flat fy ys.length sz:=by
  subst hfy hsz1;rw[hzc];apply List.ext_getElem
  ·simp[Builtin.zeroCells,zQ]
  ·intro i h1 h2;simp[Builtin.zeroCells,flat,Nat.mod_one]
 rw[hop (w':=w.setRow b cur') (by
  rw[hcs];obtain⟨m,hm⟩:∃m,len=m+1:=⟨len-1,zB⟩;rw[hyl]at hflz hst;rw[hm]at hflz hst⊢
  simp[Builtin.clear_,hu0,hz,hflz,hst])]
 rw[zY8]at hfit
 have hsz':cur'.size=cur.size:=by
  rw[<-hcur'];simp only[yA6,zX4,zYn,zYv,yA2,zQ];omega
 have hone2:∀q,q<cur'.size->(cur'.getD q undef).oneCell'=true:=by
  rw[<-hcur'];refine qT.get (qT.arr λv hv=>?_);have hc4:=qT.of c4
  rcases zYy.1 hv with hv|hv
  ·rcases zYy.1 hv with hv|hv
   ·exact hc4 v (zZl hv)
   ·exact hf2 v hv
  ·exact hc4 v (zY1 hv)
 let f':Nat->Nat->Value:=λi j=>if off<=i/\i<off+ys.length then fy (i-off) j else f i j
 have hoff:off+ys.length<=xs.length:=by omega
 have hlen:(xs.take off++ys++xs.drop (off+ys.length)).length=xs.length:=by
  simp only[zX4,zYn,zYv];omega
 have hat:∀(i:Nat) y,(xs.take off++ys++xs.drop (off+ys.length))[i]? =some y->(off<=i/\i<off+ys.length/\ys[i-off]? =some y)∨(¬(off<=i/\i<off+ys.length)/\xs[i]? =some y):=λi y hy=>by
  have ht:(xs.take off).length=off:=by simp;omega
  by_cases h5:i<off
  ·rw[zYw,zY0 zB,zZi,zX3 h5]at hy;exact .inr ⟨zB,hy⟩
  ·by_cases h6:i<off+ys.length
   ·rw[zYw,zYt zB,ht,zY0 zB]at hy;exact .inl ⟨zB,h6,hy⟩
   ·rw[zYt xX]at hy;simp only[zX4,ht]at hy;rw[zZt,show off+ys.length+(i-(off+ys.length))=i by omega]at hy;exact .inr ⟨zB,hy⟩
 have hcell:∀i j,i<xs.length->j<sz->cur'[i*sz+j]? =some (f' i j):=λi j hi hj=>by
  rw[<-hcur'];simp only[f',yAx];by_cases h5:i<off
  ·have hlt:i*sz+j<off*sz:=by
    have:=zYo sz (show i+1<=off by omega);rw[zY8,zZ3]at this;omega
   rw[zX2 zB,zYw,zY0 xX,zZi,zX3 hlt];simpa using c3 i j hi hj
  ·have ht:(List.take (off*sz) cur.toList).length=off*sz:=by simp;omega
   have hge:off*sz<=i*sz:=zYo _ zB;by_cases h6:i<off+ys.length
   ·have e4:i*sz+j-off*sz=(i-off)*sz+j:=by rw[yC4];omega
    have hlt:(i-off)*sz+j<ys.length*sz:=by
     have:=zYo sz (show(i-off)+1<=ys.length by omega);rw[zY8,zZ3]at this;omega
    rw[zX3 zB,zYw,zYt (by rw[ht];omega),ht,zY0 (by rw[zQ];omega),e4];exact kD fy zB hj
   ·have hge2:(off+ys.length)*sz<=i*sz:=zYo _ zB;rw[zY8]at hge2;rw[zX2 zB,zYt (by simp only[zX4,ht,zQ];omega),zZt];simp only[zX4,ht,zQ];rw[show off*sz+ys.length*sz+(i*sz+j-(off*sz+ys.length*sz))=i*sz+j by omega];simpa using c3 i j hi hj
 obtain⟨rr,hbk,hr0⟩:∃rr,β key=(b,xs.length)::rr/\∀b' n',(b',n')∈rr->n'=0:=by
  cases hbk:β key with
  |nil=>rw[hbk]at hbm;simp at hbm
  |cons q r=>
   obtain⟨b0,n0⟩:=q;obtain⟨q1,q2,_⟩:=g5 b0 n0 r hbk;have q2:=q2 Z;rw[hbk]at hbm;simp at hbm
   rcases hbm with⟨rfl,rfl⟩|hm
   ·exact⟨r,rfl,q2⟩
   ·have:=q2 b _ hm;omega
 refine⟨bD β key (β key),xK.step HH key _ _ zW (λj hj hn=>setRow_other w b j cur' (λe=>hn xs.length DO)) Z Z Z (λb n hm=> .inl ⟨n,hm⟩) (λb n _=>qO c1 hsz' b)
  (λe he=>by rw[hk']at he;cases he;exact .inr ⟨⟨_,_,rfl,by rw[hlen];exact zX7 _⟩,λ_ n hm=>⟨n,zX7 _,hm⟩⟩) λE=>⟨zB,by rw[hlen];exact g2,λ_=>by rw[zZ,hbk];simp,λi' x' hx'=>?_,λb' n' r hb'=>?_,f',λi' x' j u hx' hu=>?_,λi' j hi' hj=>?_,λb' n' hb'=>?_⟩,hvt⟩
 ·rcases hat i' x' hx' with⟨_,_,h⟩|⟨_,h⟩
  ·rw[hyat _ _ h,hsz1];rfl
  ·exact g4 i' x' h
 ·rw[zZ]at hb';rw[hlen];exact g5 b' n' r hb'
 ·simp only[f']
  rcases hat i' x' hx' with⟨q1,q2,h⟩|⟨q1,h⟩
  ·rw[zX3 ⟨q1,q2⟩];have hx0:=hyat _ _ h;subst hx0
   have hu0:u= .s v0:=by
    cases j with
    |zero=>exact(yAh hu).symm
    |succ j=>cases hu
   subst hu0;rw[hfy];exact⟨.fz _ _ (.s _),λ_=> .s _⟩
  ·rw[zX2 q1];exact⟨(g6.toV i' x' j u h hu).evo E,λ_=>(g6.toF Z i' x' j u h hu).evo E.size E.fz⟩
 ·rw[hlen]at hi';simp only[f'];split
  ·rw[hfy];exact hv1
  ·exact g7 i' j hi' hj
 ·rw[zZ]at hb'
  rcases hnx b' n' hb' with rfl|rfl
  ·have hbb:b'=b:=by
    rw[hbk]at hb';simp at hb'
    rcases hb' with rfl|h
    ·rfl
    ·have:=hr0 b' _ h;omega
   subst hbb;exact⟨cur',el,setRow_heap w _ _ _ _ _ c1,by rw[hsz'];exact c2,λi' j hi' hj=>hcell i' j hi' hj,hone2⟩
  ·by_cases hbb:b'=b
   ·subst hbb;exact⟨cur',el,setRow_heap w _ _ _ _ _ c1,zB,λi' j hi' _=>by omega,hone2⟩
   ·obtain⟨c',el',q1,q2,_,q4⟩:=g8 b' 0 hb';exact⟨c',el',(setRow_other w b b' cur' hbb).trans q1,q2,λi' j hi' _=>by omega,q4⟩
def KN (hP:uZ P TT) {T n e:Nat} {x:Operand} {ti te:TI} {xs:List AV} (hx:yM (zG st.tm) x= .fp xs 0 0) (hT:TT[T]? =some ti) (hd:ti.d= .arr n e) (he:TT[e]? =some te) (hn:Nat.beq xs.length n=true):wV P st (.slice T x none none none) (.sl true xs) [] [] []:=
 yO λoo X tm h w β a ho hg _ HH Ht=>by
  obtain⟨d0,o0,y0,p0,f0,g0⟩:=oo;dsimp only at ho;subst ho;have h1:=gU Ht hg (x:=x) uT hx;have hn:=zY2 hn;obtain⟨u,hu,hd'⟩:=xU (hP _ _ hT) w;obtain rfl:=zAs (hd'.trans hd);have hs:=qA (hP _ _ he) w;generalize hcx:a.eval x=cx at h1
  cases h1 with
  | fz _ _ hf=>
   cases hf with
   |fp _ b o sz i off f hL hi ho hh=>
    refine⟨.slice (some ⟨b,o,none⟩) n n,?_,.fz _ _ ?_⟩
    ·simp[execOp,Instr.sliceAt,hu,hcx,Instr.sureAddr,asAddr,Instr.sliceBounds,hs,Addr.add]
    ·rw[<-hn];exact .sl true xs b o sz xs.length f (λh=>by rw[h]at hi;cases hi) hL (zX7 _) hh
end
end Av
end Go.Proofs.YteajjdidebfcjaaGreat
