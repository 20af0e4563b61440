/- Part 20. -/
import Derived.Test.YteajjdidebfcjaaGreatV19
namespace Go.Proofs.YteajjdidebfcjaaGreat
namespace Av
open Tryz
set_option linter.all false
set_option maxRecDepth 4000
set_option maxHeartbeats 4000000
structure Cy where
 c:Cf
 rf:Bool
 now:Int
 ds:List xI
 sg:List Sg
 sv:List Sv
 st:List Int
 vw:List Vw
instance:Inhabited xI:=⟨⟨⟨0,⟨[],0,0,[],0,0,0,0⟩,[],[],⟨0,0,0⟩⟩,[],[],[]⟩⟩
instance:Inhabited Sg:=⟨⟨⟨[],0,[],0⟩,false⟩⟩
instance:Inhabited Sv:=⟨⟨-1,0,[]⟩⟩
def XK (c:Cf) (rf:Bool) (now:Int) (a b s t v:AV):AV:= .agg [zD vC c.js,zD vU c.ags,iA c.per,iA c.cap,iA c.hold,iA c.lock,bA rf,iA now,a,b,s,t,v]
def qJ (y:Cy):AV:=XK y.c y.rf y.now (zD zK y.ds) (zD vJ y.sg) (zD vI y.sv) (zD iA y.st) (zD vW y.vw)
def zGg (y:Cy):AV:=XK y.c y.rf y.now (.ref 1011 0 (y.ds.map zK).length) (.ref 1012 0 (y.sg.map vJ).length) (.ref 1013 0 (y.sv.map vI).length) (.ref 1014 0 (y.st.map iA).length) (zD vW y.vw)
def zGh (y:Cy):List (Nat×xN):=[(1011,.arr 17 (y.ds.map zK) false),(1012,.arr 5 (y.sg.map vJ) false),(1013,.arr 3 (y.sv.map vI) false),(1014,.arr 1 (y.st.map iA) false)]
structure CyB (y:Cy):Prop where
 d:y.ds.length<=1000
 db:∀d∈y.ds,cO d
 g:y.sg.length<=1000
 gb:∀s∈y.sg,s.c.li.length<=1000/\s.c.nx.length<=1000
 s:y.sv.length<=1000
 sb:∀s∈y.sv,s.en.length<=1000
 t:y.st.length<=1000
 v:y.vw.length<=1000
 vb:∀v∈y.vw,v.co.length<=1000/\v.cn.length<=1000
def ZO (l:List xI) (hl:l.length<=1073741824):zO 147 [zD zK l] [] (.ref 1011 0 (l.map zK).length) [(1011,.arr 17 (l.map zK) false)]:=by
 have hll:=zA zK l;refine eM call147 λF hF=>?_
 refine yX 0 Z (λcap hx=>?_) ?_
 ·have:l=[]:=by simpa using hx
  subst this
  (repeat' (first|refine WZN ?_|apply xL|apply wB|intro hc|fail))
  refine uK 2 1011 17 Z Z Z (yU ?_);exact zL [1011] Z Z Z Z
 ·repeat' (first|(refine zE ?_;first|refine wL tok Z Z ?_|(refine xM ?_;refine zP (yG tok (.inl ⟨rfl,rfl⟩) Z Z Z Z) Z ?_)|(refine xR ?_;refine qE (nw:=[1011]) (yK tok 1011 (xs:=[]) Z Z Z Z Z Z Z Z Z) Z Z Z ?_)|(refine yD ?_;refine xF tok Z Z Z Z Z Z Z (zN _ _ (λ_=>rfl)) Z Z Z zB Z ?_)|refine uI ?_)|(first|refine xS ?_|refine xC ?_|refine vQ Z ?_|refine yC Z ?_|refine zU Z ?_|refine xH Z (λhc=>?_) λhc=>?_|refine yZ ?_|refine yU ?_|refine xB ?_|refine yQ ?_))
  exact zL [1011] Z Z Z Z
def ZP (l:List Sg) (hl:l.length<=1073741824):zO 148 [zD vJ l] [] (.ref 1012 0 (l.map vJ).length) [(1012,.arr 5 (l.map vJ) false)]:=by
 have hll:=zA vJ l;refine eM call148 λF hF=>?_
 refine yX 0 Z (λcap hx=>?_) ?_
 ·have:l=[]:=by simpa using hx
  subst this
  (repeat' (first|refine WZN ?_|apply xL|apply wB|intro hc|fail))
  refine uK 2 1012 5 Z Z Z (yU ?_);exact zL [1012] Z Z Z Z
 ·repeat' (first|(refine zE ?_;first|refine wL tok Z Z ?_|(refine xM ?_;refine zP (yG tok (.inl ⟨rfl,rfl⟩) Z Z Z Z) Z ?_)|(refine xR ?_;refine qE (nw:=[1012]) (yK tok 1012 (xs:=[]) Z Z Z Z Z Z Z Z Z) Z Z Z ?_)|(refine yD ?_;refine xF tok Z Z Z Z Z Z Z (zN _ _ (λ_=>rfl)) Z Z Z zB Z ?_)|refine uI ?_)|(first|refine xS ?_|refine xC ?_|refine vQ Z ?_|refine yC Z ?_|refine zU Z ?_|refine xH Z (λhc=>?_) λhc=>?_|refine yZ ?_|refine yU ?_|refine xB ?_|refine yQ ?_))
  exact zL [1012] Z Z Z Z
def ZQ (l:List Sv) (hl:l.length<=1073741824):zO 150 [zD vI l] [] (.ref 1013 0 (l.map vI).length) [(1013,.arr 3 (l.map vI) false)]:=by
 have hll:=zA vI l;refine eM call150 λF hF=>?_
 refine yX 0 Z (λcap hx=>?_) ?_
 ·have:l=[]:=by simpa using hx
  subst this
  (repeat' (first|refine WZN ?_|apply xL|apply wB|intro hc|fail))
  refine uK 2 1013 3 Z Z Z (yU ?_);exact zL [1013] Z Z Z Z
 ·repeat' (first|(refine zE ?_;first|refine wL tok Z Z ?_|(refine xM ?_;refine zP (yG tok (.inl ⟨rfl,rfl⟩) Z Z Z Z) Z ?_)|(refine xR ?_;refine qE (nw:=[1013]) (yK tok 1013 (xs:=[]) Z Z Z Z Z Z Z Z Z) Z Z Z ?_)|(refine yD ?_;refine xF tok Z Z Z Z Z Z Z (zN _ _ (λ_=>rfl)) Z Z Z zB Z ?_)|refine uI ?_)|(first|refine xS ?_|refine xC ?_|refine vQ Z ?_|refine yC Z ?_|refine zU Z ?_|refine xH Z (λhc=>?_) λhc=>?_|refine yZ ?_|refine yU ?_|refine xB ?_|refine yQ ?_))
  exact zL [1013] Z Z Z Z
def ZR (l:List Int) (hl:l.length<=1073741824):zO 91 [zD iA l] [] (.ref 1014 0 (l.map iA).length) [(1014,.arr 1 (l.map iA) false)]:=by
 have hll:=zA iA l;refine eM call91 λF hF=>?_
 refine yX 0 Z (λcap hx=>?_) ?_
 ·have:l=[]:=by simpa using hx
  subst this
  (repeat' (first|refine WZN ?_|apply xL|apply wB|intro hc|fail))
  refine uK 2 1014 1 Z Z Z (yU ?_);exact zL [1014] Z Z Z Z
 ·repeat' (first|(refine zE ?_;first|refine wL tok Z Z ?_|(refine xM ?_;refine zP (yG tok (.inl ⟨rfl,rfl⟩) Z Z Z Z) Z ?_)|(refine xR ?_;refine qE (nw:=[1014]) (yK tok 1014 (xs:=[]) Z Z Z Z Z Z Z Z Z) Z Z Z ?_)|(refine yD ?_;refine xF tok Z Z Z Z Z Z Z (zN _ _ (λ_=>rfl)) Z Z Z zB Z ?_)|refine uI ?_)|(first|refine xS ?_|refine xC ?_|refine vQ Z ?_|refine yC Z ?_|refine zU Z ?_|refine xH Z (λhc=>?_) λhc=>?_|refine yZ ?_|refine yU ?_|refine xB ?_|refine yQ ?_))
  exact zL [1014] Z Z Z Z
theorem ZS (y:Cy) (h:CyB y):zO 116 [qJ y] [] (qJ y) []:=by
 have k1:=ZO y.ds (by have:=h.d;omega);have k2:=ZP y.sg (by have:=h.g;omega);have k3:=ZQ y.sv (by have:=h.s;omega);have k4:=ZR y.st (by have:=h.t;omega);have k5:=YV y.vw h.v h.vb;have hl1:=zA zK y.ds;have hl2:=zA vJ y.sg;have hl3:=zA vI y.sv;have hl4:=zA iA y.st;have hd:=h.d;have hg:=h.g;have hs:=h.s;unfold qJ XK;refine eM call116 λF hF=>?_
 refine zY k1 ?_;refine zS ((y.ds.map zK).length) [1011,1,2] [1,2] [1,2,12] [13,1,2,12] Z (λi T U=>⟨(13,iA i)::T,(1011,.arr 17 (jQ i (y.ds.map zK)) false)::U⟩) ?_;(conv=>whnf);refine⟨by rfl,?_,?_⟩
 ·intro i hi;have hi':i<y.ds.length:=by omega
  have hy:(jQ i (y.ds.map zK))[i]? =some (zK (y.ds.getD i default)):=zM zK y.ds i hi';have e:=jD zK y.ds i hi';have c2:=aB (y.ds.getD i default) (h.db _ ZK);generalize (y.ds.getD i default)=t at *;generalize jQ i (y.ds.map zK)=xs at *;generalize jQ (i+1) (y.ds.map zK)=ys at *;subst e;refine zY c2 ?_;rfl
 ·(refine zY k2 ?_)
  refine zS ((y.sg.map vJ).length) [1012,1,2,1011] [1,2,1011] [1,2,33] [34,1,2,33] Z (λi T U=>⟨(34,iA i)::T,(1012,.arr 5 (jQ i (y.sg.map vJ)) false)::U⟩) ?_;(conv=>whnf);refine⟨by rfl,?_,?_⟩
  ·intro i hi;have hi':i<y.sg.length:=by omega
   have hy:(jQ i (y.sg.map vJ))[i]? =some (vJ (y.sg.getD i default)):=zM vJ y.sg i hi';have e:=jD vJ y.sg i hi';have c2:=zB7 (y.sg.getD i default) (by have:=h.gb (y.sg.getD i default) ZK;omega) (by have:=h.gb (y.sg.getD i default) ZK;omega);generalize (y.sg.getD i default)=t at *;generalize jQ i (y.sg.map vJ)=xs at *;generalize jQ (i+1) (y.sg.map vJ)=ys at *;subst e;refine zY c2 ?_;rfl
  ·(refine zY k3 ?_)
   refine zS ((y.sv.map vI).length) [1013,1,2,1011,1012] [1,2,1011,1012] [1,2,54] [55,1,2,54] Z (λi T U=>⟨(55,iA i)::T,(1013,.arr 3 (jQ i (y.sv.map vI)) false)::U⟩) ?_;(conv=>whnf);refine⟨by rfl,?_,?_⟩
   ·intro i hi;have hi':i<y.sv.length:=by omega
    have hy:(jQ i (y.sv.map vI))[i]? =some (vI (y.sv.getD i default)):=zM vI y.sv i hi';have e:=jD vI y.sv i hi';have c2:=UD (y.sv.getD i default) ⟨by have:=h.sb (y.sv.getD i default) ZK;omega⟩;generalize (y.sv.getD i default)=t at *;generalize jQ i (y.sv.map vI)=xs at *;generalize jQ (i+1) (y.sv.map vI)=ys at *;subst e;refine zY c2 ?_;rfl
   ·(refine yR (wZ k4 k5) ?_)
    refine zI [] Z Z ?_ Z
    show AV.agg [zD vC y.c.js,zD vU y.c.ags,iA y.c.per,iA y.c.cap,iA y.c.hold,iA y.c.lock,bA y.rf,iA y.now,.sl false ((y.ds.map zK).take (y.ds.map zK).length),.sl false ((y.sg.map vJ).take (y.sg.map vJ).length),.sl false ((y.sv.map vI).take (y.sv.map vI).length),.sl false ((y.st.map iA).take (y.st.map iA).length),zD vW y.vw]=_
    rw[zX6,zX6,zX6,zX6];rfl
def PU (y:Cy) (h:CyB y):zO 116 [qJ y] [] (zGg y) (zGh y):=by
 have k1:=ZO y.ds (by have:=h.d;omega);have k2:=ZP y.sg (by have:=h.g;omega);have k3:=ZQ y.sv (by have:=h.s;omega);have k4:=ZR y.st (by have:=h.t;omega);have k5:=YV y.vw h.v h.vb;have hl1:=zA zK y.ds;have hl2:=zA vJ y.sg;have hl3:=zA vI y.sv;have hl4:=zA iA y.st;have hd:=h.d;have hg:=h.g;have hs:=h.s;unfold qJ zGg XK zGh;refine eM call116 λF hF=>?_
 refine zY k1 ?_;refine zS ((y.ds.map zK).length) [1011,1,2] [1,2] [1,2,12] [13,1,2,12] Z (λi T U=>⟨(13,iA i)::T,(1011,.arr 17 (jQ i (y.ds.map zK)) false)::U⟩) ?_;(conv=>whnf);refine⟨by rfl,?_,?_⟩
 ·intro i hi;have hi':i<y.ds.length:=by omega
  have hy:(jQ i (y.ds.map zK))[i]? =some (zK (y.ds.getD i default)):=zM zK y.ds i hi';have e:=jD zK y.ds i hi';have c2:=aB (y.ds.getD i default) (h.db _ ZK);generalize (y.ds.getD i default)=t at *;generalize jQ i (y.ds.map zK)=xs at *;generalize jQ (i+1) (y.ds.map zK)=ys at *;subst e;refine zY c2 ?_;rfl
 ·(refine zY k2 ?_)
  refine zS ((y.sg.map vJ).length) [1012,1,2,1011] [1,2,1011] [1,2,33] [34,1,2,33] Z (λi T U=>⟨(34,iA i)::T,(1012,.arr 5 (jQ i (y.sg.map vJ)) false)::U⟩) ?_;(conv=>whnf);refine⟨by rfl,?_,?_⟩
  ·intro i hi;have hi':i<y.sg.length:=by omega
   have hy:(jQ i (y.sg.map vJ))[i]? =some (vJ (y.sg.getD i default)):=zM vJ y.sg i hi';have e:=jD vJ y.sg i hi';have c2:=zB7 (y.sg.getD i default) (by have:=h.gb (y.sg.getD i default) ZK;omega) (by have:=h.gb (y.sg.getD i default) ZK;omega);generalize (y.sg.getD i default)=t at *;generalize jQ i (y.sg.map vJ)=xs at *;generalize jQ (i+1) (y.sg.map vJ)=ys at *;subst e;refine zY c2 ?_;rfl
  ·(refine zY k3 ?_)
   refine zS ((y.sv.map vI).length) [1013,1,2,1011,1012] [1,2,1011,1012] [1,2,54] [55,1,2,54] Z (λi T U=>⟨(55,iA i)::T,(1013,.arr 3 (jQ i (y.sv.map vI)) false)::U⟩) ?_;(conv=>whnf);refine⟨by rfl,?_,?_⟩
   ·intro i hi;have hi':i<y.sv.length:=by omega
    have hy:(jQ i (y.sv.map vI))[i]? =some (vI (y.sv.getD i default)):=zM vI y.sv i hi';have e:=jD vI y.sv i hi';have c2:=UD (y.sv.getD i default) ⟨by have:=h.sb (y.sv.getD i default) ZK;omega⟩;generalize (y.sv.getD i default)=t at *;generalize jQ i (y.sv.map vI)=xs at *;generalize jQ (i+1) (y.sv.map vI)=ys at *;subst e;refine zY c2 ?_;rfl
   ·(refine yR (wZ k4 k5) ?_)
    exact zL [1011,1012,1013,1014] Z Z Z Z
def zMm (j:Jn) (h:j.ph.length<=8):zO 111 [vC j] [] (.agg [bA true,bA false,.ref 1021 0 (j.ph.map vK).length,.ref 1022 0 (j.ph.map vK).length]) [(1021,.arr 1 (List.replicate (j.ph.map vK).length (iA 0)) false),(1022,.arr 1 (List.replicate (j.ph.map vK).length (iA 0)) false)]:=by
 have hl:=zA vK j.ph;unfold vC zD;generalize j.ph.map vK=P at *;refine eM call111 λF hF=>?_
 (repeat' (first|refine uJ ?_|apply xL|apply wB|intro hc|(refine zE ?_;first|(refine eP ?_;first|refine bM 1021 tok Z Z Z Z Z Z Z Z Z Z Z Z Z zB zB Z Z Z ?_|refine bM 1022 tok Z Z Z Z Z Z Z Z Z Z Z Z Z zB zB Z Z Z ?_))|fail))
 exact zL [1021,1022] Z Z Z Z
def cnT (p:Ph) (l:Li):Int:=if l.lamp=1 then max (lnF p-1-l.tk) 0 else if l.lamp=2 then p.yel-1-l.tk else if l.lamp=3 then p.red-1-l.tk else 0
def coT (l:Li):Int:=if l.lamp=1∨l.lamp=2 then l.lamp else 0
def zGi (p:Ph) (h:PhB p) (l:Li) (ht: -1000000000000<=l.tk/\l.tk<=1000000000000) (hn: -1000<=lnF p/\lnF p<=1000) (hy: -1000<=p.yel/\p.yel<=1000) (hr: -1000<=p.red/\p.red<=1000):zO 146 [vK p,vT l] [] (iA (cnT p l)) []:=by
 have c:=zCd p h;unfold cnT;generalize lnF p=n at *;by_cases h1:l.lamp=1
 ·rw[zX3 h1];refine eM call146 λF hF=>?_
  refine zY c ?_;exact zJ
 rw[zX2 h1];by_cases h2:l.lamp=2
 ·rw[zX3 h2];refine eM call146 λF hF=>?_
  refine WW ?_;exact zJ
 rw[zX2 h2];by_cases h3:l.lamp=3
 ·rw[zX3 h3];refine eM call146 λF hF=>?_
  refine WW ?_;exact zJ
 ·rw[zX2 h3];refine eM call146 λF hF=>?_
  refine WW ?_;exact zJ
def KX (s:Sg) (n i:Nat):List Int:=YY (λp _=>coT (vN s.c p)) (List.replicate n 0) i
def GE (j:Jn) (s:Sg) (n i:Nat):List Int:=YY (λp _=>cnT (xD j p) (vN s.c p)) (List.replicate n 0) i
def LF (j:Jn) (s:Sg) (v:Sv):Vw:=if s.lat=true then vwZ j.ph.length else⟨false,v.ph != -1,KX s j.ph.length j.ph.length,GE j s j.ph.length j.ph.length⟩
def zW6 (n:Nat):List.replicate n (iA 0)=(List.replicate n (0:Int)).map iA:=by simp
theorem zGj (j:Jn) (J:JV j) (s:Sg) (C:CV j s.c) (v:Sv):zO 114 [vC j,vJ s,vI v] [] (vW (LF j s v)) []:=by
 have k:=zMm j J.n.2;have hl:=zA vK j.ph;have hn:=J.n;have hll:(s.c.li.map vT).length=j.ph.length:=by rw[zX5];exact C.n
 unfold LF;rw[zW6]at k;unfold vJ vI
 cases hlat:s.lat with
 |true=>
  rw[zX3 Z];unfold vC at *;refine eM call114 λF hF=>?_
  refine zY k ?_;refine zI [] Z Z ?_ Z
  show AV.agg [bA true,bA false,.sl false (List.take (j.ph.map vK).length ((List.replicate (j.ph.map vK).length (0:Int)).map iA)),.sl false (List.take (j.ph.map vK).length ((List.replicate (j.ph.map vK).length (0:Int)).map iA))]=_
  rw[zYe zW,hl];rfl
 | false=>
  rw[zX2 zYp];have e1:(List.replicate (j.ph.map vK).length (0:Int)).map iA=(KX s j.ph.length 0).map iA:=by unfold KX;rw[jU,hl]
  have e2:(List.replicate (j.ph.map vK).length (0:Int)).map iA=(GE j s j.ph.length 0).map iA:=by unfold GE;rw[jU,hl]
  have k:zO 111 [vC j] [] (.agg [bA true,bA false,.ref 1021 0 (j.ph.map vK).length,.ref 1022 0 (j.ph.map vK).length]) [(1021,.arr 1 ((KX s j.ph.length 0).map iA) false),(1022,.arr 1 ((GE j s j.ph.length 0).map iA) false)]:=by rw[<-e1,<-e2];exact k
  clear e1 e2;have f1:∀i,((KX s j.ph.length i).map iA).length=j.ph.length:=λi=>by rw[zX5];unfold KX;rw[vE,zZs]
  have f2:∀i,((GE j s j.ph.length i).map iA).length=j.ph.length:=λi=>by rw[zX5];unfold GE;rw[vE,zZs]
  have g1:∀i,i<j.ph.length->(KX s j.ph.length (i+1)).map iA=((KX s j.ph.length i).map iA).set i (iA (coT (vN s.c i))):=λi hi=>by unfold KX;rw[qP _ _ _ _ (by rw[zZs];exact hi)]
  have g2:∀i,i<j.ph.length->(GE j s j.ph.length (i+1)).map iA=((GE j s j.ph.length i).map iA).set i (iA (cnT (xD j i) (vN s.c i))):=λi hi=>by unfold GE;rw[qP _ _ _ _ (by rw[zZs];exact hi)]
  unfold vC zD at *;refine eM call114 λF hF=>?_
  refine zY k ?_;refine zS ((j.ph.map vK).length) [1021,1022,4,6,7] [4,6,7] [4,6,7,22,23] [24,4,6,7,22,23] Z (λi T U=>⟨(24,iA i)::T,(1021,.arr 1 ((KX s j.ph.length i).map iA) false)::(1022,.arr 1 ((GE j s j.ph.length i).map iA) false)::U⟩) ?_;(conv=>whnf);refine⟨by rfl,?_,?_⟩
  ·intro i hi;have hi':i<j.ph.length:=by omega
   have hy:(j.ph.map vK)[i]? =some (vK (xD j i)):=zM vK j.ph i hi';have hz:(s.c.li.map vT)[i]? =some (vT (vN s.c i)):=zM vT s.c.li i (by have:=C.n;omega);have ht:=J.ti i hi';have hv:=C.k i hi';have x1:=f1 i;have x2:=f2 i;have y1:=g1 i hi';have y2:=g2 i hi'
   have htk: -1000000000000<=(vN s.c i).tk/\(vN s.c i).tk<=1000000000000:=by
    unfold ML at hv
    repeat' split at hv
    all_goals (first|(rw[zX9]at hv;omega)|cases hv)
   have kc:=zGi (xD j i) ⟨zB,zB,zB,zB⟩ (vN s.c i) htk (by unfold lnF;omega) zB zB;rw[y1,y2];have a1:((KX s j.ph.length i).map iA)[i]? =some (iA ((KX s j.ph.length i).getD i default)):=zM iA _ i (by rw[zX5]at x1;omega);have a2:(((KX s j.ph.length i).map iA).set i (iA 0))[i]? =some (iA 0):=by rw[yAb,zX3 Z,zX3 zB]
   have a3:((GE j s j.ph.length i).map iA)[i]? =some (iA ((GE j s j.ph.length i).getD i default)):=zM iA _ i (by rw[zX5]at x2;omega);clear y1 y2 g1 g2 f1 f2 k;generalize (KX s j.ph.length i).getD i default=v1 at *;generalize (GE j s j.ph.length i).getD i default=v2 at *;generalize cnT (xD j i) (vN s.c i)=cc at *;generalize (KX s j.ph.length i).map iA=A at *;generalize (GE j s j.ph.length i).map iA=B at *;generalize xD j i=p at *;unfold coT;generalize vN s.c i=l at *;obtain⟨lm,tk⟩:=l;dsimp only at *;by_cases h1:lm=1
   ·rw[zX3 (.inl h1),<-yCy (a:=iA 0)];refine zY kc ?_;rfl
   by_cases h2:lm=2
   ·rw[zX3 (.inr h2),<-yCy (a:=iA 0)];refine zY kc ?_;rfl
   ·rw[zX2 (λh=>h.elim h1 h2)];refine zY kc ?_;rfl
  ·(refine WW ?_)
   refine zI [] Z Z ?_ Z
   show AV.agg [bA false,bA (v.ph != -1),.sl false (List.take (j.ph.map vK).length ((KX s j.ph.length (j.ph.map vK).length).map iA)),.sl false (List.take (j.ph.map vK).length ((GE j s j.ph.length (j.ph.map vK).length).map iA))]=_
   rw[zYe (by rw[f1];omega),zYe (by rw[f2];omega),hl];rfl
def zQe (j:Jn) (J:JV j) (s:Sg) (v:Sv):BL (LF j s v):=by
 have hn:=J.n.2;unfold LF;split
 ·exact zVl hn
 ·refine⟨by show(KX _ _ _).length<=8;unfold KX;rw[vE,zZs];exact hn,by show(GE _ _ _ _).length<=8;unfold GE;rw[vE,zZs];exact hn,λx hx=>?_⟩;obtain⟨i,hi,rfl⟩:=yAf hx;have h1:=qD (λp (_:Int)=>coT (vN s.c p)) (List.replicate j.ph.length 0) j.ph.length i;unfold KX at hi⊢;rw[zYk hi]at h1;rw[vE]at hi;rw[zX3 hi]at h1
  injection h1 with h1
  rw[h1];split
  ·unfold coT;split<;>omega
  ·rename_i hni;rw[zZs]at hi;omega
def zRr (y:Int):0<=IntKind.u8.wrap y/\IntKind.u8.wrap y<256:=by
 unfold IntKind.wrap;simp[IntKind.signed,IntKind.bits];omega
def fr4 (s:Int):List Int:=[IntKind.u8.wrap (s.fdiv (2 ^ (min (24:Int).toNat IntKind.u32.bits))),IntKind.u8.wrap (s.fdiv (2 ^ (min (16:Int).toNat IntKind.u32.bits))),IntKind.u8.wrap (s.fdiv (2 ^ (min (8:Int).toNat IntKind.u32.bits))),IntKind.u8.wrap s]
def KY (k:Int) (p:List Int) (k0:0<=k) (k1:k<=255) (hb:BY p) (hp:p.length<=200):∃q,q=90::165::(aI k p.length++p)++fr4 (eK (aI k p.length++p))/\BY q/\q.length=p.length+10/\zO 29 [iA k,zD yA p] [] (.tup [.ref 1031 0 (q.map yA).length,iA 0]) [(1031,.arr 1 (q.map yA) true)]:=by
 have hlp:=zA yA p;have hh:∀y,(p.map yA)[0]? =some y->y.cells.length=1:=zN _ _ (λ_=>rfl)
 have hu:IntKind.u8.wrap (qG (((p.map yA).length:Nat):Int) 8)=0:=by
  have:qG (((p.map yA).length:Nat):Int) 8=0:=by
   unfold qG;rw[zX5,zZ1 _ zV]
   show(p.length:Int)/256=0
   omega
  rw[this];rfl
 have hdb:=zQt k0 k1 hb hp;have kc:=zAi (aI k p.length++p) (by unfold aI;simp;omega) hdb
 have kc:zO 65 [.sl false ((([AV.s (.int .u8 90),.s (.int .u8 165),.s (.int .u8 1),.s (.int .u8 k),.s (.int .u8 (IntKind.u8.wrap (qG (((p.map yA).length:Nat):Int) 8))),.s (.int .u8 (((p.map yA).length:Nat):Int))]++p.map yA).drop 2).take (([AV.s (.int .u8 90),.s (.int .u8 165),.s (.int .u8 1),.s (.int .u8 k),.s (.int .u8 (IntKind.u8.wrap (qG (((p.map yA).length:Nat):Int) 8))),.s (.int .u8 (((p.map yA).length:Nat):Int))]++p.map yA).length-2))] [] (uA (eK (aI k p.length++p))) []:=by
  rw[hu,zX5];rw[zYe zW];exact kc
 generalize eK (aI k p.length++p)=s at *;refine⟨90::165::(aI k p.length++p)++fr4 s,rfl,?_,?_,?_⟩
 ·intro x hx
  rcases zYy.1 hx with hx|hx
  ·simp only[zZg]at hx
   rcases hx with rfl|rfl|hx
   ·omega
   ·omega
   ·exact hdb x hx
  ·simp only[fr4,zZg,yBj,yCo]at hx
   rcases hx with rfl|rfl|rfl|rfl<;>exact zRr _
 ·simp[aI,fr4]
 have hX:(90::165::(aI k p.length++p)++fr4 s).map yA=([AV.s (.int .u8 90),.s (.int .u8 165),.s (.int .u8 1),.s (.int .u8 k),.s (.int .u8 (IntKind.u8.wrap (qG (((p.map yA).length:Nat):Int) 8))),.s (.int .u8 (((p.map yA).length:Nat):Int))]++p.map yA)++[.s (.int .u8 (IntKind.u8.wrap (s.fdiv (2 ^ (min (24:Int).toNat IntKind.u32.bits))))),.s (.int .u8 (IntKind.u8.wrap (s.fdiv (2 ^ (min (16:Int).toNat IntKind.u32.bits))))),.s (.int .u8 (IntKind.u8.wrap (s.fdiv (2 ^ (min (8:Int).toNat IntKind.u32.bits))))),.s (.int .u8 (IntKind.u8.wrap s))]:=by
  rw[hu,zX5];simp only[aI,fr4,zYd,zZj,yAl,yA0,yAm,zYw];rfl
 rw[hX];refine eM call29 λF hF=>?_
 (have zc1:=kc;(repeat' (first|refine MF ?_|apply xL|apply wB|intro hc|(refine zE ?_;first|(refine xR ?_;first|refine qE (nw:=[1031]) (yK tok 1031 (xs:=[_,_,_,_,_,_]) Z Z Z Z Z Z Z Z Z) Z Z Z ?_|refine bV tok Z Z ?_)|(refine uB ?_;refine fT tok Z Z Z Z Z Z Z zB (by simp<;>omega) Z ?_))|refine SB ?_|fail))<;>clear zc1)
 exact zL [1031] Z Z Z Z
def qV (l:List Ag):Nat->Int
 |0=>0
 |i+1=>qV l i+(l.getD i default).ses
def AD (l:List Ag):Prop:=l.length<=4/\∀a∈l,1<=a.ses/\a.ses<=2
theorem AD.at {l:List Ag} (h:AD l) {i:Nat} (hi:i<l.length):1<=(l.getD i default).ses/\(l.getD i default).ses<=2:=by
 refine h.2 _ ?_;rw[zYc,zYk hi];exact yAr _
theorem eG {l:List Ag} (h:AD l):∀i,i<=l.length->(i:Int)<=qV l i/\qV l i<=2*i
 |0,_=>⟨yAc _,yAc _⟩
 |i+1,hi=>by
  have h1:=eG h i zB;have h2:=h.at (i:=i) zB;unfold qV;omega
structure LG (e:Ev):Prop where
 k:1<=e.k/\e.k<=6
 s:0<=e.s/\e.s<=100
 a:0<=e.a/\e.a<=100
 b:0<=e.b/\e.b<=100
 y:BY e.y
 n:e.y.length<=1000
def evb {k s a b:Int} {y:List Int} (hk:1<=k/\k<=6) (hs:0<=s/\s<=100) (ha:0<=a/\a<=100) (hb:0<=b/\b<=100) (hy:BY y) (hn:y.length<=1000):LG ⟨k,s,a,b,y⟩:=⟨hk,hs,ha,hb,hy,hn⟩
def jP:BY []:=λx hx=>by cases hx
def EvL (l:List Ev) (n:Nat):Prop:=l.length<=n/\∀e∈l,LG e
theorem EvL.nil:EvL [] 0:=⟨zX7 _,λe h=>by cases h⟩
theorem EvL.app {l:List Ev} {n:Nat} (h:EvL l n) {e:Ev} (he:LG e):EvL (l++[e]) (n+1):=
 ⟨by have:=h.1;rw[zX4,yAk];omega,λx hx=>(zYy.1 hx).elim (h.2 x) λhx=>by rw[zZd.1 hx];exact he⟩
theorem EvL.le {l:List Ev} {n m:Nat} (h:EvL l n) (hm:n<=m):EvL l m:=⟨zY9 h.1 hm,h.2⟩
structure BI (c:Cf):Prop where
 j:1<=c.js.length/\c.js.length<=4
 jv:∀j∈c.js,JV j
 a:1<=c.ags.length/\c.ags.length<=4
 av:∀a∈c.ags,AgV a
 p:1<=c.per/\c.per<=600
 cp:0<=c.cap/\c.cap<=100
 h:1<=c.hold/\c.hold<=60
 l:0<=c.lock/\c.lock<=600
theorem BI.w {c:Cf} (h:BI c):CfW c:=⟨h.j.2,λj hj=>(h.jv j hj).n⟩
theorem BI.ag {c:Cf} (h:BI c):AD c.ags:=⟨h.a.2,λa ha=>(h.av a ha).e⟩
def zU7 (d:Dk) (r:Int) (hr:0<=r/\r<=63):BI (QH d r):=by
 have hn:=zV5 d r;have h1:=wW d (4-1+1) zB;have h2:=wW (ad d) 4 zB;have h3:=wW (ad (ad d)) (3-1+1) zB;have h4:=wW (ad (ad (ad d))) 5 zB;refine⟨zB,λj hj=>?_,zB,λa ha=>?_,?_,?_,?_,?_⟩
 ·rw[zH8]at hj;obtain⟨e,rfl⟩:=zCi _ _ j hj;exact zSb e
 ·obtain⟨i,hi,rfl⟩:=yAf ha;have:=(zSs d r hr (i:Int) zB zB).1.v;rw[show(i:Int).toNat=i from Z]at this;rw[show(QH d r).ags[i]=(QH d r).ags.getD i default by simp[List.getD,hi]];exact this
 all_goals (unfold QH;dsimp only;omega)
def zD4 (c:Cf) (h:BI c):zO 110 [vL c] [] (bA true) []:=by
 have hj:=h.j;have ha:=h.a;have hjl:=zA vC c.js;have hal:=zA vU c.ags;have w1:=cB ((c.js.map vC).length:Int) 1 4 zB;have w2:=cB ((c.ags.map vU).length:Int) 1 4 zB;have w3:=cB c.per 1 600 h.p;have w4:=cB c.cap 0 100 h.cp;have w5:=cB c.hold 1 60 h.h;have w6:=cB c.lock 0 600 h.l;unfold vL zD;refine eM call110 λF hF=>?_
 refine yR (wZ w1 w2) ?_;refine zS ((c.js.map vC).length) [1] [1] [1,20,21] [22,1,20,21] Z (λi T U=>⟨(22,iA i)::T,U⟩) ?_;(conv=>whnf);refine⟨by rfl,?_,?_⟩
 ·intro i hi;have hy:=zM vC c.js i zB;have kj:=RV _ (h.jv _ (zX c.js i zB));generalize c.js.getD i default=j at *;refine zY kj ?_;rfl
 ·(refine WW ?_)
  refine zS ((c.ags.map vU).length) [1] [1] [1,31,32] [33,1,31,32] Z (λi T U=>⟨(33,iA i)::T,U⟩) ?_;(conv=>whnf);refine⟨by rfl,?_,?_⟩
  ·intro i hi;have hy:=zM vU c.ags i zB;have kj:=zE6 _ (h.av _ (zX c.ags i zB));generalize c.ags.getD i default=a at *;refine zY kj ?_;rfl
  ·(refine yR (XU w3 w4 w5 w6) ?_)
   exact zJ
def KZ (c:Cf) (i:Nat):List xI:=(List.range i).map λk:Nat=>VQ (k:Int) (c.ags.getD k default) (c.ags.getD k default).ses.toNat
def PV (j:Jn):Sv:=zMw j.ph.length
def ZT (c:Cf):Cy:=⟨c,false,0,KZ c c.ags.length,c.js.map eJ,c.js.map PV,c.js.map λ_=> -1,c.js.map λj=>LF j (eJ j) (PV j)⟩
theorem zRs (c:Cf) (h:BI c):zO 76 [vL c] [] (qJ (ZT c)) []:=by
 have kp:=zD4 c h;have hj:=h.j;have ha:=h.a;have hjl:=zA vC c.js;have hal:=zA vU c.ags;have hdl:∀i,((KZ c i).map zK).length=i:=λi=>by simp[KZ]
 have hfin:qJ (ZT c)= .agg [zD vC c.js,zD vU c.ags,iA c.per,iA c.cap,iA c.hold,iA c.lock,bA false,iA 0,zD zK (KZ c c.ags.length),zD vJ (c.js.map eJ),zD vI (c.js.map PV),zD iA (c.js.map λ_=> -1),zD vW (c.js.map λj=>LF j (eJ j) (PV j))]:=rfl;rw[hfin];unfold vL zD at *;refine eM call76 λF hF=>?_
 refine zY kp ?_;refine uY 3 8 1011 17 Z Z Z Z Z ?_;refine zS ((c.ags.map vU).length) [3,1011,1,2] [1,2] [1,2,3,35,36] [37,1,2,3,35,36] Z (λi T U=>⟨(37,iA i)::T,(3,.box [.sl false (c.js.map vC),.sl false (c.ags.map vU),iA c.per,iA c.cap,iA c.hold,iA c.lock,bA false,iA 0,.ref 1011 0 ((KZ c i).map zK).length,.s (.slice none 0 0),.s (.slice none 0 0),.s (.slice none 0 0),.s (.slice none 0 0)])::(1011,.arr 17 ((KZ c i).map zK) true)::U⟩) ?_;(conv=>whnf);refine⟨by rfl,?_,?_⟩
 ·intro i hi;have hy:=zM vU c.ags i zB;have kd:=(zQo (i:Int) _ (h.av _ (zX c.ags i zB))).1;have e:(KZ c (i+1)).map zK=(KZ c i).map zK++[zK (VQ (i:Int) (c.ags.getD i default) (c.ags.getD i default).ses.toNat)]:=by unfold KZ;rw[yAw,zYd,zYd];rfl
  have hdl:=hdl i;rw[e];clear kp hfin e;generalize VQ (i:Int) (c.ags.getD i default) (c.ags.getD i default).ses.toNat=dk at *;generalize c.ags.getD i default=a at *;generalize (KZ c i).map zK=X at *;unfold zK wI at*
  (have zc1:=kd;(repeat' (first|refine MF ?_|apply xL|apply wB|intro hc|(refine zE ?_;first|(refine xR ?_;refine bV tok Z Z ?_))|refine SB ?_|fail))<;>clear zc1)
  rfl
 ·(refine WW ?_)
  refine uY 3 9 1012 5 Z Z Z Z Z ?_;refine uY 3 10 1013 3 Z Z Z Z Z ?_;refine uY 3 11 1014 1 Z Z Z Z Z ?_;refine uY 3 12 1015 4 Z Z Z Z Z ?_;rw[hal];refine zS ((c.js.map vC).length) [3,1012,1013,1014,1015,2,1011] [2,1011] [2,3,52,53] [54,2,3,52,53] Z (λi T U=>⟨(54,iA i)::T,(3,.box [.sl false (c.js.map vC),.sl false (c.ags.map vU),iA c.per,iA c.cap,iA c.hold,iA c.lock,bA false,iA 0,.ref 1011 0 ((KZ c c.ags.length).map zK).length,.ref 1012 0 (((c.js.take i).map eJ).map vJ).length,.ref 1013 0 (((c.js.take i).map PV).map vI).length,.ref 1014 0 ((c.js.take i).map λ_=>iA (-1)).length,.ref 1015 0 (((c.js.take i).map λj=>LF j (eJ j) (PV j)).map vW).length])::(1012,.arr 5 (((c.js.take i).map eJ).map vJ) true)::(1013,.arr 3 (((c.js.take i).map PV).map vI) true)::(1014,.arr 1 ((c.js.take i).map λ_=>iA (-1)) true)::(1015,.arr 4 (((c.js.take i).map λj=>LF j (eJ j) (PV j)).map vW) true)::U⟩) ?_;(conv=>whnf);refine⟨by rfl,?_,?_⟩
  ·intro i hi;have hi':i<c.js.length:=by omega
   have hy:=zM vC c.js i hi';have J:=h.jv _ (zX c.js i hi')
   have et:c.js.take (i+1)=c.js.take i++[c.js.getD i default]:=by
    rw[zYc,zYk hi',yAg,yCd hi']
   have hlt:(c.js.take i).length<=4:=by rw[zYn];omega
   have k1:=zGp _ J;have k2:=zR1 (c.js.getD i default).ph.length zC7;have k3:=zGj _ J (eJ (c.js.getD i default)) (zG8 J) (PV (c.js.getD i default));have hpl:((c.js.getD i default).ph.map vK).length=(c.js.getD i default).ph.length:=zX5 ..;rw[et];simp only[zYd,zZj,yAl];have m1:(((c.js.take i).map eJ).map vJ).length=(c.js.take i).length:=by simp
   have m2:(((c.js.take i).map PV).map vI).length=(c.js.take i).length:=by simp
   have m3:((c.js.take i).map λ_=>iA (-1)).length=(c.js.take i).length:=by simp
   have m4:(((c.js.take i).map λj=>LF j (eJ j) (PV j)).map vW).length=(c.js.take i).length:=by simp
   rw[show zMw (c.js.getD i default).ph.length=PV (c.js.getD i default)from Z,<-hpl]at k2;clear et hfin kp;generalize LF (c.js.getD i default) (eJ (c.js.getD i default)) (PV (c.js.getD i default))=w at *;generalize eJ (c.js.getD i default)=s at *;generalize PV (c.js.getD i default)=v at *;generalize c.js.getD i default=j at *;generalize ((c.js.take i).map eJ).map vJ=X1 at *;generalize ((c.js.take i).map PV).map vI=X2 at *;generalize (c.js.take i).map (λ_=>iA (-1))=X3 at *;generalize ((c.js.take i).map λj=>LF j (eJ j) (PV j)).map vW=X4 at *;unfold vC zD vJ vI vW at*
   (have zc1:=k1;have zc2:=k2;have zc3:=k3;(repeat' (first|refine MF ?_|apply xL|apply wB|intro hc|(refine zE ?_;first|(refine xR ?_;refine bV tok Z Z ?_))|refine SB ?_|fail))<;>clear zc1 zc2 zc3)
   rfl
  ·rw[hjl,zX6];refine WW ?_;refine zI [] Z Z ?_ Z
   show AV.agg [.sl false (c.js.map vC),.sl false (c.ags.map vU),iA c.per,iA c.cap,iA c.hold,iA c.lock,bA false,iA 0,.sl false (List.take ((KZ c c.ags.length).map zK).length (List.drop 0 ((KZ c c.ags.length).map zK))),.sl false (List.take ((c.js.map eJ).map vJ).length (List.drop 0 ((c.js.map eJ).map vJ))),.sl false (List.take ((c.js.map PV).map vI).length (List.drop 0 ((c.js.map PV).map vI))),.sl false (List.take (c.js.map λ_=>iA (-1)).length (List.drop 0 (c.js.map λ_=>iA (-1)))),.sl false (List.take ((c.js.map λj=>LF j (eJ j) (PV j)).map vW).length (List.drop 0 ((c.js.map λj=>LF j (eJ j) (PV j)).map vW)))]=_
   rw[zYq,zX6,zYq,zX6,zYq,zX6,zYq,zX6,zYq,zX6,show(c.js.map λ_=>iA (-1))=(c.js.map λ_=>(-1:Int)).map iA by rw[yCl];rfl]
def zRt (j:Int) (x:Lg):zO 161 [xW x,.ptr 5 0 0] [(5,.box [iA j])] (bA (x.jn==j)) [(5,.box [iA j])]:=by
 refine eM call161 λF hF=>?_
 refine WW ?_;exact zL [5] Z Z Z Z
def zRu (j:Int) (l:List Lg) (hb:l.length<=1000):zO 160 [zD xW l,.fn 161 [.ptr 5 0 0]] [(5,.box [iA j])] (iA (SJ (λr:Lg=>r.jn==j) l)) [(5,.box [iA j])]:=by
 have hl:=zA xW l;refine eM call160 λF hF=>?_
 refine WW ?_;refine kN (l) [5] [5] [0,1,7] [8,0,1,7] Z (λi pre T U zs=>(∀y∈pre,(y.jn==j)=false)/\zs=⟨(8,iA i)::T,U⟩) ?_;(conv=>whnf);refine⟨?_,?_,?_⟩
 ·exact⟨by simp,rfl⟩
 ·rintro i pre x post st hx hi ⟨hp,rfl⟩;have hy:=xQ xW hx hi;have hlt:=yW hx hi;have c:=zRt j x;have hit:=PB (p:=λr:Lg=>r.jn==j) hx hp
  cases he:(x.jn==j)<;>rw[he]at c
  ·clear hx hit;refine zY c ?_;exact⟨λy hy=>by simp only[zYy,zZd]at hy;rcases hy with hy|rfl;exact hp y hy;exact he,rfl⟩
  ·rw[hit he,hi];clear hx hit;refine zY c ?_;exact zL [5] Z Z Z Z
 ·rintro st ⟨hp,rfl⟩;rw[ZZ hp];refine WW ?_;exact zL [5] rfl rfl rfl rfl
def FD (ag j:Int) (x:Rq):List Cl:=if SJ (λr:Lg=>r.jn==j) x.legs<0 then []else if(x.legs.getD (SJ (λr:Lg=>r.jn==j) x.legs).toNat default).sc= -1 then []else [⟨ag,x.id,(x.legs.getD (SJ (λr:Lg=>r.jn==j) x.legs).toNat default).ph,x.cls,(x.legs.getD (SJ (λr:Lg=>r.jn==j) x.legs).toNat default).sc⟩]
def bR (ag j:Int) (l:List Rq):List Cl:=(l.map (FD ag j)).flatten
def zGk (ag j:Int) (x:Rq):(FD ag j x).length<=1:=by
 unfold FD;split
 ·exact zYl _
 ·split
  ·exact zYl _
  ·exact zX7 _
def zD5 (ag j:Int) (l:List Rq) (x:Rq):bR ag j (l++[x])=bR ag j l++FD ag j x:=by simp[bR]
theorem ZU (ag j:Int):∀l:List Rq,(bR ag j l).length<=l.length
 | []=>zX7 _
 |x::l=>by
  have h1:=zGk ag j x;have h2:=ZU ag j l;have e:bR ag j (x::l)=FD ag j x++bR ag j l:=rfl;rw[e,zX4,zYh];omega
def zD6 (l:List Rq) (ag j:Int) (hn:l.length<=1000) (hb:∀r∈l,r.legs.length<=1000):zO 121 [zD yL l,iA ag,iA j] [] (zD cT (bR ag j l)) []:=by
 have hl:=zA yL l;refine eM call121 λF hF=>?_
 refine WW ?_;refine xA 7 1001 5 Z Z Z ?_;refine yT (l) [1001,5] [5] [1,5,12,13] [7,14,1,5,12,13] Z (λi pre T U=>⟨(7,.ref 1001 0 ((bR ag j pre).map cT).length)::(14,iA i)::T,(1001,.arr 5 ((bR ag j pre).map cT) true)::U⟩) ?_;(conv=>whnf);refine⟨by rfl,?_,?_⟩
 ·intro i pre x post hx hi;have hy:=xQ yL hx hi;have hlt:=yW hx hi;have kx:=zRu j x.legs (hb x (vF hx));have hq:=ZU ag j pre;have hql:((bR ag j pre).map cT).length=(bR ag j pre).length:=zX5 ..;have hpl:pre.length<=l.length:=by rw[hx];simp
  have hxl:(x.legs.map xW).length=x.legs.length:=zX5 ..;rw[zD5,zYd]
  have hlo: -1<=SJ (λr:Lg=>r.jn==j) x.legs/\(0<=SJ (λr:Lg=>r.jn==j) x.legs->SJ (λr:Lg=>r.jn==j) x.legs<x.legs.length):=by
   cases ha:x.legs.any (λr:Lg=>r.jn==j)with
   |true=>have:=zAf ha;omega
   |false=>rw[SJ,ha,zX2 zYp];omega
  unfold FD;clear hx;generalize (bR ag j pre).map cT=X at *;by_cases h0:SJ (λr:Lg=>r.jn==j) x.legs<0
  ·rw[zX3 h0,yAl,zY4];generalize SJ (λr:Lg=>r.jn==j) x.legs=at1 at *;refine zY kx ?_;rfl
  ·rw[zX2 h0];have hyg:=yN xW x.legs (SJ (λr:Lg=>r.jn==j) x.legs) zB zB;generalize SJ (λr:Lg=>r.jn==j) x.legs=at1 at *;generalize x.legs.getD at1.toNat default=g at *;by_cases h1:g.sc= -1
   ·rw[zX3 h1,yAl,zY4];refine zY kx ?_;rfl
   ·rw[zX2 h1];refine zY kx ?_;rfl
 ·(refine WW ?_)
  exact zI [] Z Z (zY3 (AV.sl false) zX6) Z
def cA (j:Int) (l:List xI):List Cl:=(l.map λd=>bR d.rg.num j d.rq).flatten
def zD7 (j:Int) (l:List xI) (d:xI):cA j (l++[d])=cA j l++bR d.rg.num j d.rq:=by simp[cA]
theorem FE (j:Int):∀l:List xI,(∀d∈l,d.rq.length<=1000)->(cA j l).length<=1000*l.length
 | [],_=>zX7 _
 |d::l,h=>by
  have h1:=ZU d.rg.num j d.rq;have h2:=FE j l (λx hx=>h x OU);have h3:=h d zW;have e:cA j (d::l)=bR d.rg.num j d.rq++cA j l:=rfl;rw[e,zX4,zYh];omega
def zD8 (c:Cf) (rf:Bool) (now:Int) (ds:List xI) (j:Int) (hd:ds.length<=1000) (hb:∀d∈ds,cO d) (A B C D:List AV) (a b e f:Nat):
  zO 86 [XK c rf now (zD zK ds) (.ref 1012 0 a) (.ref 1013 0 b) (.ref 1014 0 e) (.ref 1015 0 f),iA j] [(1012,.arr 5 A false),(1013,.arr 3 B false),(1014,.arr 1 C false),(1015,.arr 4 D false)] (zD cT (cA j ds)) [(1012,.arr 5 A false),(1013,.arr 3 B false),(1014,.arr 1 C false),(1015,.arr 4 D false)]:=by
 have hl:=zA zK ds;unfold XK;refine eM call86 λF hF=>?_
 refine WW ?_;refine xA 5 1001 5 Z Z Z ?_;refine yT (ds) [1001,1012,1013,1014,1015] [1012,1013,1014,1015] [1,9,10] [5,11,1,9,10] Z (λi pre T U=>⟨(5,.ref 1001 0 ((cA j pre).map cT).length)::(11,iA i)::T,(1001,.arr 5 ((cA j pre).map cT) true)::U⟩) ?_;(conv=>whnf);refine⟨by rfl,?_,?_⟩
 ·intro i pre x post hx hi;have hy:=xQ zK hx hi;have hlt:=yW hx hi;have hbx:=hb x (vF hx);have kx:=zD6 x.rq x.rg.num j hbx.q hbx.g;have hq:=FE j pre (λd hd=>(hb d (by rw[hx];simp[hd])).q);have hql:((cA j pre).map cT).length=(cA j pre).length:=zX5 ..;have hq2:=ZU x.rg.num j x.rq;have hq3:((bR x.rg.num j x.rq).map cT).length=(bR x.rg.num j x.rq).length:=zX5 ..;have hpl:pre.length<=ds.length:=by rw[hx];simp
  have hxq:=hbx.q;rw[zD7,zYd];clear hx;generalize (cA j pre).map cT=X at *;unfold zD at kx;generalize bR x.rg.num j x.rq=Y at *;unfold zK wI at hy;refine zY kx ?_;rfl
 ·(refine WW ?_)
  exact zI [1012,1013,1014,1015] Z Z (zY3 (AV.sl false) zX6) Z
def FF (a:Ag) (h:1<=a.ses/\a.ses<=2):zO 192 [vU a] [] (iA a.ses) []:=by
 refine eM call192 λF hF=>?_
 refine WW ?_;refine zI [] Z Z (zY3 iA ?_) Z;omega
def plA (a k s:Nat):AV:= .agg [iA a,iA k,iA s]
def zD9 (c:Cf) (a:Nat):List (Nat×xN):=[(1103,.box [iA a]),(1104,.box [zD vC c.js,zD vU c.ags,iA c.per,iA c.cap,iA c.hold,iA c.lock])]
def JC (c:Cf) (a:Nat):List (List AV):=(List.range (c.ags.getD a default).ses.toNat).map λk=>[plA a k ((qV c.ags a).toNat+k)]
def zB1 (c:Cf) (a:Nat):zO 156 [vL c,iA a] [] (.fn 191 [.ptr 1104 0 0,.ptr 1103 0 0]) (zD9 c a):=by
 unfold vL zD9;refine eM call156 λF hF=>?_
 repeat' (first|(refine zE ?_;first|refine qE (jM (v:=AV.agg _) 1104 Z Z) Z Z Z ?_|refine qE (jM (v:=AV.s _) 1103 Z Z) Z Z Z ?_|refine wL tok Z Z ?_|refine uI ?_)|(first|refine xS ?_|refine xC ?_|refine vQ Z ?_|refine yC Z ?_|refine zU Z ?_|refine xH Z (λhc=>?_) λhc=>?_|refine yZ ?_|refine yU ?_|refine xB ?_|refine yQ ?_))
 exact zL [1103,1104] Z Z Z Z
def zGl (c:Cf) (h:AD c.ags) (a:Nat) (ha:a<c.ags.length):aP prog 191 [.ptr 1104 0 0,.ptr 1103 0 0] (zD9 c a) (JC c a):=by
 have hl:=zA vU c.ags;have hn:=h.1;have hs:=h.at ha;refine cI func191 Z (λargs w=>call191 args w) Z Z Z (λF y hro hit hY=>?_);unfold zD9;have htl:((c.ags.take (a:Int).toNat).map vU).length=a:=by rw[zX5,zYn];omega
 have hts:∀i,i<=a->qV (c.ags.take a) i=qV c.ags i:=λi=>by
  induction i with
  |zero=>intro _;rfl
  |succ i ih=>
   intro hi;unfold qV;rw[ih zB,zYc,zZi,zX3 zB,<-zYc]
 refine WW ?_;refine zS (a) [1103,1104] [1103,1104] [0,1,2,11,12] [4,13,1000000,0,1,2,11,12] Z (λi T U=>⟨(4,iA (qV c.ags i))::(13,iA i)::(1000000,.gh 0)::T,U⟩) ?_;(conv=>whnf);refine⟨by rfl,?_,?_⟩
 ·intro i hi
  have hy:((c.ags.take (a:Int).toNat).map vU)[i]? =some (vU (c.ags.getD i default)):=by
   show((c.ags.take a).map vU)[i]? =_
   rw[zX8,zZi,zX3 hi,zYc,zYk zB];rfl
  have h2:=h.at (i:=i) zB;have hb:=eG h i zB;have kc:=FF (c.ags.getD i default) h2;rw[show qV c.ags (i+1)=qV c.ags i+(c.ags.getD i default).ses from Z];clear hts hs hY;generalize qV c.ags i=z at *;generalize c.ags.getD i default=g at *;refine zY kc ?_;rfl
 ·have hy:=zM vU c.ags a ha;have kc:=FF (c.ags.getD a default) hs;have hb:=eG h a zB;obtain⟨bs,hbs⟩:∃bs:Nat,qV c.ags a=(bs:Int):=⟨(qV c.ags a).toNat,zB⟩;obtain⟨N,hN⟩:∃N:Nat,(c.ags.getD a default).ses=(N:Int):=⟨(c.ags.getD a default).ses.toNat,zB⟩;have hL:JC c a=(List.range N).map λk=>[plA a k (bs+k)]:=by unfold JC;rw[hbs,hN];rfl
  rw[hbs]at hb⊢;rw[hN]at kc hs;rw[hL]at hY⊢;clear hL hN hts;generalize c.ags.getD a default=g at *;refine zY kc ?_;refine zS (N) [1103,1104] [1103,1104] [0,2,4,27] [28,1000000,0,2,4,27] Z (λi T U=>⟨(28,iA i)::(1000000,.gh i)::T,U⟩) ?_;(conv=>whnf);refine⟨by rfl,?_,?_⟩
  ·intro k hk
   have hys:((List.range N).map λk=>[plA a k (bs+k)])[k]? =some [plA a k (bs+k)]:=by
    rw[zX8,zY5 hk];rfl
   have hlen:k<((List.range N).map λk=>[plA a k (bs+k)]).length:=by simp;exact hk
   rw[show plA a k (bs+k)= .agg [iA (a:Int),iA (k:Int),iA ((bs:Int)+k)]from by unfold plA;rw[show((bs+k:Nat):Int)=(bs:Int)+k by omega]]at hys;generalize ((List.range N).map λk=>[plA a k (bs+k)])=xs at*
   (repeat' (first|refine uJ ?_|apply xL|apply wB|intro hc|(refine zE ?_;refine xJ ?_;first|(refine LU ?_;refine UU hit hY Z Z hys Z Z Z ?_ ?_))|(refine zE ?_;first|refine SM ?_)|fail))
   ·rfl
   ·exact gN Z (.inr zB)
  ·(refine WW ?_)
   exact bB Z (.inl zW)
def GF (f g gr:Int) (ar:List Int):Nat->List Int
 |0=>[]
 |i+1=>(if(i:Int)=f/\0<g then GF f g gr ar i++gW gr else GF f g gr ar i)++gW (ar.getD i default)
def LH (f g gr:Int) (ar:List Int) (i:Nat):List Int:=if(i:Int)=f/\0<g then GF f g gr ar i++gW gr else GF f g gr ar i
def FG {n:Int} (h:n<128):(gW n).length=1:=by unfold gW;rw[RL h];rfl
def zU8 {n:Int} (h:n<16384):(gW n).length<=2:=by
 by_cases h1:n<128
 ·rw[FG h1];omega
 ·unfold gW;rw[HL zB,RL zB];simp
theorem JD (f g gr:Int) (ar:List Int):∀i,(GF f g gr ar i).length<=10*i
 |0=>zX7 _
 |i+1=>by
  have:=JD f g gr ar i;have h1:=hH gr;have h2:=hH (ar.getD i default);unfold GF
  split<;>simp only[zX4]<;>omega
def zMn (f g gr:Int) (ar:List Int) (i:Nat):(LH f g gr ar i).length<=10*i+5:=by
 have:=JD f g gr ar i;have h1:=hH gr;unfold LH
 split<;>(try simp only[zX4])<;>omega
theorem zGm {f g gr:Int} (hg:0<=gr/\gr<=4294967295) {ar:List Int} (ha:JU ar):∀i,i<=ar.length->BY (GF f g gr ar i)
 |0,_=>λx hx=>by cases hx
 | i+1,hi=>by
  have ih:=zGm (f:=f) (g:=g) hg ha i zB;have h1:=JT hg.1 hg.2;have h2:=ha (ar.getD i default) (zX ar i zB);have h3:=JT h2.1 h2.2;unfold GF;intro x hx
  rcases zYy.1 hx with hx|hx
  ·split at hx
   ·exact(zYy.1 hx).elim (ih x) (h1 x)
   ·exact ih x hx
  ·exact h3 x hx
def zRv {f g gr:Int} (hg:0<=gr/\gr<=4294967295) {ar:List Int} (ha:JU ar) (i:Nat) (hi:i<=ar.length):BY (LH f g gr ar i):=by
 have ih:=zGm (f:=f) (g:=g) hg ha i hi;have h1:=JT hg.1 hg.2;unfold LH;intro x hx;split at hx
 ·exact(zYy.1 hx).elim (ih x) (h1 x)
 ·exact ih x hx
theorem zRw (k f g lo hi sd gr:Int) (ar da:List Int) (c1:zO 103 [iA k] [] (.tup [XP ⟨0,f,g,lo,hi,sd⟩,bA true]) []) (c2:zO 179 [XP ⟨0,f,g,lo,hi,sd⟩,iA ((ar.map iA).length:Int)] [] (.tup [iA gr,bA true]) [])
  (hd:sd= -1∨(da.length:Int)=sd) (ha:JU ar) (hal:ar.length<=100) (hg:0<=gr/\gr<=4294967295) (hz:(LH f g gr ar ar.length++da).length<=200):
  zO 134 [yF ⟨k,[],ar,da⟩] [] (.tup [zD yA (LH f g gr ar ar.length++da),iA 0]) []:=by
 have c3:=QD [] zW;have hla:=zA iA ar;have hld:=zA yA da;have cg:=zWm gr hg.1 hg.2;have hlg:=zA yA (gW gr);have hvg:=hH gr;have hpl:=JD f g gr ar;have hpg:=zMn f g gr ar;have hp0:GF f g gr ar 0=[]:=rfl
 have hpG:∀i:Nat,LH f g gr ar i=if(i:Int)=f/\0<g then GF f g gr ar i++gW gr else GF f g gr ar i:=λ_=>rfl
 have hpS:∀i:Nat,GF f g gr ar (i+1)=LH f g gr ar i++gW (ar.getD i default):=λ_=>rfl
 have hz3:(LH f g gr ar ar.length).length+da.length<=200:=by rw[zX4]at hz;exact hz
 have hz:((LH f g gr ar ar.length).map yA++da.map yA).length<=200:=by rw[zX4]at hz;simp;omega
 have hd3:da.length<=200:=by omega
 rw[show zD yA (LH f g gr ar ar.length++da)= .sl false (List.take ((LH f g gr ar ar.length).map yA++da.map yA).length (List.drop 0 ((LH f g gr ar ar.length).map yA++da.map yA))) by rw[zYq,zX6];unfold zD;rw[zYd]];rw[show yF ⟨k,[],ar,da⟩= .agg [iA k,zD yA [],zD iA ar,zD yA da]from Z];rw[show XP ⟨0,f,g,lo,hi,sd⟩= .agg [iA 0,iA f,iA g,iA lo,iA hi,iA sd]from Z]at *; generalize LH f g gr ar=pg at *;generalize GF f g gr ar=py at *;clear hz3
 rcases hd with h2|h2
 all_goals
  refine eM call134 λF hF=>?_
  refine yR (fQ c1 c2 c3) ?_
 all_goals
  refine qH 1001 Z ?_;refine xT (ar.length+1) [1001,1,4] [1,4] [1,4,6,64] [7,65,1,4,6,64] Z (λi T U zs=>(i<=ar.length)/\zs=⟨(7,.ref 1001 0 ((py i).map yA).length)::(65,iA i)::T,(1001,.arr 1 ((py i).map yA) true)::U⟩) ?_;(conv=>whnf);refine⟨?_,?_,?_⟩
  ·refine⟨zYl _,?_⟩;rw[hp0];rfl
  ·rintro i st' hi ⟨hik,rfl⟩;have hbl:=hpl i;have hb2:=hpg i;have hg:=hpG i;have hlp:=zA yA (py i);have hlP:=zA yA (pg i)
   have hmG:(pg i).map yA=if(i:Int)=f/\0<g then(py i).map yA++(gW gr).map yA else(py i).map yA:=by
    rw[hg];split
    ·rw[zYd]
    ·rfl
   by_cases hie:i=ar.length
   ·subst hie;clear hpS hg hpl hpg hpG hp0 c1 c2 c3;generalize (py ar.length).map yA=A at *;generalize (pg ar.length).map yA=B at *;generalize gW gr=W at *;by_cases hi1:(ar.length:Int)=f
    ·by_cases hi2:0<g
     ·rw[zX3 ⟨hi1,hi2⟩]at hmG;subst hmG;refine zY cg ?_;exact zJ
     ·rw[zX2 (λh=>hi2 h.2)]at hmG;subst hmG;refine WW ?_;exact zJ
    ·rw[zX2 (λh=>hi1 h.1)]at hmG;subst hmG;refine WW ?_;exact zJ
   have hna:=ha (ar.getD i default) (zX ar i zB);have cv:=zWm (ar.getD i default) hna.1 hna.2;have hy:=zM iA ar i zB;have hS:=hpS i;have hlv:=zA yA (gW (ar.getD i default));have hvv:=hH (ar.getD i default);have hmS:(py (i+1)).map yA=(pg i).map yA++(gW (ar.getD i default)).map yA:=by rw[hS,zYd]
   rw[hmS];clear hS hg hpl hpg hpG hpS hp0 hmS c1 c2 c3 hz ha;generalize (pg ar.length).map yA=E at *;generalize (py i).map yA=A at *;generalize (pg i).map yA=B at *;generalize gW (ar.getD i default)=V at *;generalize ar.getD i default=a at *;generalize gW gr=W at *;by_cases hi1:(i:Int)=f
   ·by_cases hi2:0<g
    ·rw[zX3 ⟨hi1,hi2⟩]at hmG;subst hmG;refine yR (wZ cg cv) ?_;exact⟨zB,rfl⟩
    ·rw[zX2 (λh=>hi2 h.2)]at hmG;subst hmG;refine zY cv ?_;exact⟨zB,rfl⟩
   ·rw[zX2 (λh=>hi1 h.1)]at hmG;subst hmG;refine zY cv ?_;exact⟨zB,rfl⟩
  ·rintro st' ⟨hik,rfl⟩;exfalso;omega
def eI (k:Int):Int×Int×Int×Int×Int:=if k=16 then(1,0,0,0,10)else if k=17∨k=21 then(1,0,0,0,-1)else if k=18 then(1,3,0,16,0)else if k=19 then(0,2,0,4,0)else if k=20 then(4,0,0,0,0)else(2,0,0,0,0)
def zMo (k:Int) (h:13<=k/\k<=21):zO 103 [iA k] [] (.tup [XP ⟨0,(eI k).1,(eI k).2.1,(eI k).2.2.1,(eI k).2.2.2.1,(eI k).2.2.2.2⟩,bA true]) []:=by
 have:k=13∨k=14∨k=15∨k=16∨k=17∨k=18∨k=19∨k=20∨k=21:=by omega
 rcases this with rfl|rfl|rfl|rfl|rfl|rfl|rfl|rfl|rfl
 all_goals
  refine eM call103 λF hF=>?_
  refine WW ?_;exact zJ
def zGn (f g lo hi sd n gr:Int) (hn:0<=n/\n<=100) (hf:0<=f/\f<=4) (h:(g=0/\n=f/\gr=0)∨((g=2∨g=3)/\n=f+g*gr/\0<=gr/\lo<=gr/\gr<=hi)):zO 179 [XP ⟨0,f,g,lo,hi,sd⟩,iA n] [] (.tup [iA gr,bA true]) []:=by
 rw[show XP ⟨0,f,g,lo,hi,sd⟩= .agg [iA 0,iA f,iA g,iA lo,iA hi,iA sd]from Z]
 rcases h with⟨rfl,rfl,rfl⟩|⟨rfl|rfl,he,h0,h1,h2⟩
 ·(refine eM call179 λF hF=>?_)
  refine WW ?_;exact zJ
 ·have hgr:gr=(n-f).tdiv 2:=by
   rw[zZw zB];omega
  have hm:(n-f).tmod 2=0:=by
   rw[zZq zB];omega
  have hq:YH .i64 ((n-f).tdiv 2):=by
   unfold YH;have e1:IntKind.i64.min= -9223372036854775808:=by decide
   have e2:IntKind.i64.max=9223372036854775807:=by decide
   omega
  have h9:¬n-f<0:=by omega
  subst hgr;clear he;refine eM call179 λF hF=>?_
  refine WW ?_;exact zJ
 ·have hgr:gr=(n-f).tdiv 3:=by
   rw[zZw zB];omega
  have hm:(n-f).tmod 3=0:=by
   rw[zZq zB];omega
  have hq:YH .i64 ((n-f).tdiv 3):=by
   unfold YH;have e1:IntKind.i64.min= -9223372036854775808:=by decide
   have e2:IntKind.i64.max=9223372036854775807:=by decide
   omega
  have h9:¬n-f<0:=by omega
  subst hgr;clear he;refine eM call179 λF hF=>?_
  refine WW ?_;exact zJ
structure SvM (k:Int) (ar da:List Int):Prop where
 kk:13<=k/\k<=21
 n:JU ar
 l:ar.length<=60
 b:BY da
 d:(eI k).2.2.2.2= -1∨(da.length:Int)=(eI k).2.2.2.2
 g:((eI k).2.1=0/\(ar.length:Int)=(eI k).1)∨(((eI k).2.1=2∨(eI k).2.1=3)/\∃gr:Int,(ar.length:Int)=(eI k).1+(eI k).2.1*gr/\0<=gr/\(eI k).2.2.1<=gr/\gr<=(eI k).2.2.2.1)
 z:(((ar.map gW).flatten).length+1)+da.length<=200
theorem zB2 (f g gr:Int) (hgr:gr<128) (ar:List Int):∀i,i<=ar.length->(GF f g gr ar i).length<=(((ar.take i).map gW).flatten).length+(if f<i then 1 else 0)
 |0,_=>by simp[GF]
 | i+1,hi=>by
  have ih:=zB2 f g gr hgr ar i zB;have h1:=FG hgr
  have e:ar.take (i+1)=ar.take i++[ar.getD i default]:=by
   rw[zYc,zYk zB,yAg,yCd zB]
  rw[e,zYd,yCr];unfold GF;simp only[zX4,zZj,yAl,yAt,List.flatten_nil,zY4,zZc];split
  ·rename_i h2;rw[zX4,h1,zX3 zB];rw[zX2 zB]at ih;omega
  ·by_cases h3:f<i
   ·rw[zX3 h3]at ih;rw[zX3 zB];omega
   ·rw[zX2 h3]at ih
    split<;>omega
def zMp (f g gr:Int) (hgr:gr<128) (ar:List Int):(LH f g gr ar ar.length).length<=((ar.map gW).flatten).length+1:=by
 have ih:=zB2 f g gr hgr ar ar.length (zX7 _);have h1:=FG hgr;rw[zX6]at ih;unfold LH;split
 ·rename_i h2;rw[zX4,h1];rw[zX2 zB]at ih;omega
 ·split at ih<;>omega
def zMq (f g gr:Int) (ar:List Int) (h:ar≠[]):1<=(LH f g gr ar ar.length).length:=by
 have h1:0<ar.length:=List.length_pos_iff.2 h;obtain⟨n,hn⟩:∃n,ar.length=n+1:=⟨ar.length-1,zB⟩
 have h2:1<=(GF f g gr ar ar.length).length:=by
  rw[hn];unfold GF;rw[zX4];have:=(hH (ar.getD n default)).1;omega
 unfold LH;split
 ·rw[zX4];omega
 ·exact h2
def PyF (k:Int) (ar da p:List Int):Prop:=∃gr:Int,(0<=gr/\gr<=100)/\(((eI k).2.1=0/\(ar.length:Int)=(eI k).1/\gr=0)∨(((eI k).2.1=2∨(eI k).2.1=3)/\(ar.length:Int)=(eI k).1+(eI k).2.1*gr/\0<=gr/\(eI k).2.2.1<=gr/\gr<=(eI k).2.2.2.1))/\p=LH (eI k).1 (eI k).2.1 gr ar ar.length++da
def zGo {k:Int} {ar da:List Int} (h:SvM k ar da):∃p,(BY p/\PyF k ar da p)/\(p.length<=200/\(ar≠[]->1<=p.length))/\zO 134 [yF ⟨k,[],ar,da⟩] [] (.tup [zD yA p,iA 0]) []:=by
 have hl:=zA iA ar
 have hf:(0<=(eI k).1/\(eI k).1<=4)/\(eI k).2.2.2.1<=16:=by
  have hk:=h.kk;have:k=13∨k=14∨k=15∨k=16∨k=17∨k=18∨k=19∨k=20∨k=21:=by omega
  clear hk h
  rcases this with rfl|rfl|rfl|rfl|rfl|rfl|rfl|rfl|rfl<;>decide
 obtain⟨hf,hh⟩:=hf
 obtain⟨gr,hg1,hg2,hg3⟩:∃gr:Int,(0<=gr/\gr<=100)/\True/\(((eI k).2.1=0/\((ar.map iA).length:Int)=(eI k).1/\gr=0)∨(((eI k).2.1=2∨(eI k).2.1=3)/\((ar.map iA).length:Int)=(eI k).1+(eI k).2.1*gr/\0<=gr/\(eI k).2.2.1<=gr/\gr<=(eI k).2.2.2.1)):=by
  rw[hl]
  rcases h.g with⟨g1,g2⟩|⟨g1,gr,g2,g3,g4,g5⟩
  ·exact⟨0,zB,trivial,.inl ⟨g1,g2,rfl⟩⟩
  ·exact⟨gr,zB,trivial,.inr ⟨g1,g2,g3,g4,g5⟩⟩
 have c2:=zGn _ _ (eI k).2.2.1 (eI k).2.2.2.1 (eI k).2.2.2.2 ((ar.map iA).length:Int) gr (by have:=h.l;omega) hf hg3;have hs:=zMp (eI k).1 (eI k).2.1 gr zB ar;have hz:=h.z;refine⟨LH (eI k).1 (eI k).2.1 gr ar ar.length++da,⟨?_,gr,hg1,by rw[hl]at hg3;exact hg3,rfl⟩,?_,zRw k _ _ _ _ _ gr ar da (zMo k h.kk) c2 h.d h.n (by have:=h.l;omega) zB (by rw[zX4];omega)⟩
 ·intro x hx;exact(zYy.1 hx).elim (zRv zB h.n ar.length (zX7 _) x) (h.b x)
 ·refine⟨by rw[zX4];omega,λh9=>?_⟩;have:=zMq (eI k).1 (eI k).2.1 gr ar h9;rw[zX4];omega
def zRx {k:Int} {ar da:List Int} (h:SvM k ar da):zO 195 [yF ⟨k,[],ar,da⟩] [] (bA true) []:=by
 obtain⟨p,_,_,c⟩:=zGo h;rw[show yF ⟨k,[],ar,da⟩= .agg [iA k,zD yA [],zD iA ar,zD yA da]from Z]at *; refine eM call195 λF hF=>?_
 refine zY c ?_;exact zJ
def JE {k:Int} {ar da:List Int} (h:SvM k ar da):∃p,(BY p/\PyF k ar da p)/\(p.length<=200/\(ar≠[]->1<=p.length))/\zO 97 [yF ⟨k,[],ar,da⟩] [] (.tup [zD yA (YB k p),iA 0]) []:=by
 obtain⟨p,h1,⟨h2,h3⟩,c⟩:=zGo h;have hk:=h.kk;have c2:=zTg k p zB zB h1.1 h2;refine⟨p,h1,⟨h2,h3⟩,?_⟩;generalize YB k p=q at *;rw[show yF ⟨k,[],ar,da⟩= .agg [iA k,zD yA [],zD iA ar,zD yA da]from Z]at *; refine eM call97 λF hF=>?_
 refine yR (wZ c c2) ?_;exact zJ
end Av
end Go.Proofs.YteajjdidebfcjaaGreat
