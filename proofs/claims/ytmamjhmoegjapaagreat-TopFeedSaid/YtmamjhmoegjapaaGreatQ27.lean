/- Part 27. -/
import Derived.Test.YtmamjhmoegjapaaGreatQ26
namespace Go.Proofs.YtmamjhmoegjapaaGreat
namespace Av
open Tryz
set_option linter.all false
set_option maxRecDepth 4000
set_option maxHeartbeats 4000000
structure Cy where
 c:Cf
 rf:Bool
 now:Int
 ds:List xP
 sg:List Sg
 sv:List Sv
 st:List Int
 vw:List Vw
instance:Inhabited xP:=⟨⟨⟨0,⟨[],0,0,[],0,0,0,0⟩,[],[],⟨0,0,0⟩⟩,[],[],[]⟩⟩
instance:Inhabited Sg:=⟨⟨⟨[],0,[],0⟩,false⟩⟩
instance:Inhabited Sv:=⟨⟨-1,0,[]⟩⟩
def YC (c:Cf) (rf:Bool) (now:Int) (a b s t v:AV):AV:= .agg [zD wP c.js,zD vH c.ags,iA c.per,iA c.cap,iA c.hold,iA c.lock,bA rf,iA now,a,b,s,t,v]
def uM (y:Cy):AV:=YC y.c y.rf y.now (zD zJ y.ds) (zD vB y.sg) (zD wX y.sv) (zD iA y.st) (zD vL y.vw)
def zEc (y:Cy):AV:=YC y.c y.rf y.now (.ref 1011 0 (y.ds.map zJ).length) (.ref 1012 0 (y.sg.map vB).length) (.ref 1013 0 (y.sv.map wX).length) (.ref 1014 0 (y.st.map iA).length) (zD vL y.vw)
def zEd (y:Cy):List (Nat×xN):=[(1011,.arr 17 (y.ds.map zJ) false),(1012,.arr 5 (y.sg.map vB) false),(1013,.arr 3 (y.sv.map wX) false),(1014,.arr 1 (y.st.map iA) false)]
structure CyB (y:Cy):Prop where
 d:y.ds.length<=1000
 db:∀d∈y.ds,eU d
 g:y.sg.length<=1000
 gb:∀s∈y.sg,s.c.li.length<=1000/\s.c.nx.length<=1000
 s:y.sv.length<=1000
 sb:∀s∈y.sv,s.en.length<=1000
 t:y.st.length<=1000
 v:y.vw.length<=1000
 vb:∀v∈y.vw,v.co.length<=1000/\v.cn.length<=1000
theorem aE (l:List xP) (hl:l.length<=1073741824):zN 101 [zD zJ l] [] (.ref 1011 0 (l.map zJ).length) [(1011,.arr 17 (l.map zJ) false)]:=by
 have hll:=zA zJ l;refine eM call101 λF hF=>?_
 refine yY 0 rfl (λcap hx=>?_) ?_
 ·have:l=[]:=by simpa using hx
  subst this
  (repeat' (first|refine WZN ?_|refine xQ (λhc=>?_) (λhc=>?_)|refine wD (λhc=>?_)|fail))
  refine uF 2 1011 17 rfl rfl rfl (yU ?_);exact zL [1011] rfl rfl rfl rfl
 ·repeat' (first|(refine zE ?_;first|refine vK tok rfl rfl ?_|(refine wZ ?_;refine xK (yW tok (.inl ⟨rfl,rfl⟩) rfl rfl rfl rfl) rfl ?_)|(refine yT ?_;refine uG (nw:=[1011]) (yJ tok 1011 (xs:=[]) rfl rfl rfl rfl rfl rfl rfl rfl rfl) rfl rfl rfl ?_)|(refine yV ?_;refine wO tok rfl rfl rfl rfl rfl rfl rfl (xH _ _ (λ_=>rfl)) rfl rfl rfl zB rfl ?_)|refine qC ?_)|(first|refine xS ?_|refine yZ ?_|refine vA rfl ?_|refine zX rfl ?_|refine zQ rfl ?_|refine xJ rfl (λhc=>?_) (λhc=>?_)|refine yX ?_|refine yU ?_|refine xA ?_|refine yS ?_))
  exact zL [1011] rfl rfl rfl rfl
theorem aF (l:List Sg) (hl:l.length<=1073741824):zN 103 [zD vB l] [] (.ref 1012 0 (l.map vB).length) [(1012,.arr 5 (l.map vB) false)]:=by
 have hll:=zA vB l;refine eM call103 λF hF=>?_
 refine yY 0 rfl (λcap hx=>?_) ?_
 ·have:l=[]:=by simpa using hx
  subst this
  (repeat' (first|refine WZN ?_|refine xQ (λhc=>?_) (λhc=>?_)|refine wD (λhc=>?_)|fail))
  refine uF 2 1012 5 rfl rfl rfl (yU ?_);exact zL [1012] rfl rfl rfl rfl
 ·repeat' (first|(refine zE ?_;first|refine vK tok rfl rfl ?_|(refine wZ ?_;refine xK (yW tok (.inl ⟨rfl,rfl⟩) rfl rfl rfl rfl) rfl ?_)|(refine yT ?_;refine uG (nw:=[1012]) (yJ tok 1012 (xs:=[]) rfl rfl rfl rfl rfl rfl rfl rfl rfl) rfl rfl rfl ?_)|(refine yV ?_;refine wO tok rfl rfl rfl rfl rfl rfl rfl (xH _ _ (λ_=>rfl)) rfl rfl rfl zB rfl ?_)|refine qC ?_)|(first|refine xS ?_|refine yZ ?_|refine vA rfl ?_|refine zX rfl ?_|refine zQ rfl ?_|refine xJ rfl (λhc=>?_) (λhc=>?_)|refine yX ?_|refine yU ?_|refine xA ?_|refine yS ?_))
  exact zL [1012] rfl rfl rfl rfl
theorem aG (l:List Sv) (hl:l.length<=1073741824):zN 105 [zD wX l] [] (.ref 1013 0 (l.map wX).length) [(1013,.arr 3 (l.map wX) false)]:=by
 have hll:=zA wX l;refine eM call105 λF hF=>?_
 refine yY 0 rfl (λcap hx=>?_) ?_
 ·have:l=[]:=by simpa using hx
  subst this
  (repeat' (first|refine WZN ?_|refine xQ (λhc=>?_) (λhc=>?_)|refine wD (λhc=>?_)|fail))
  refine uF 2 1013 3 rfl rfl rfl (yU ?_);exact zL [1013] rfl rfl rfl rfl
 ·repeat' (first|(refine zE ?_;first|refine vK tok rfl rfl ?_|(refine wZ ?_;refine xK (yW tok (.inl ⟨rfl,rfl⟩) rfl rfl rfl rfl) rfl ?_)|(refine yT ?_;refine uG (nw:=[1013]) (yJ tok 1013 (xs:=[]) rfl rfl rfl rfl rfl rfl rfl rfl rfl) rfl rfl rfl ?_)|(refine yV ?_;refine wO tok rfl rfl rfl rfl rfl rfl rfl (xH _ _ (λ_=>rfl)) rfl rfl rfl zB rfl ?_)|refine qC ?_)|(first|refine xS ?_|refine yZ ?_|refine vA rfl ?_|refine zX rfl ?_|refine zQ rfl ?_|refine xJ rfl (λhc=>?_) (λhc=>?_)|refine yX ?_|refine yU ?_|refine xA ?_|refine yS ?_))
  exact zL [1013] rfl rfl rfl rfl
theorem aH (l:List Int) (hl:l.length<=1073741824):zN 107 [zD iA l] [] (.ref 1014 0 (l.map iA).length) [(1014,.arr 1 (l.map iA) false)]:=by
 have hll:=zA iA l;refine eM call107 λF hF=>?_
 refine yY 0 rfl (λcap hx=>?_) ?_
 ·have:l=[]:=by simpa using hx
  subst this
  (repeat' (first|refine WZN ?_|refine xQ (λhc=>?_) (λhc=>?_)|refine wD (λhc=>?_)|fail))
  refine uF 2 1014 1 rfl rfl rfl (yU ?_);exact zL [1014] rfl rfl rfl rfl
 ·repeat' (first|(refine zE ?_;first|refine vK tok rfl rfl ?_|(refine wZ ?_;refine xK (yW tok (.inl ⟨rfl,rfl⟩) rfl rfl rfl rfl) rfl ?_)|(refine yT ?_;refine uG (nw:=[1014]) (yJ tok 1014 (xs:=[]) rfl rfl rfl rfl rfl rfl rfl rfl rfl) rfl rfl rfl ?_)|(refine yV ?_;refine wO tok rfl rfl rfl rfl rfl rfl rfl (xH _ _ (λ_=>rfl)) rfl rfl rfl zB rfl ?_)|refine qC ?_)|(first|refine xS ?_|refine yZ ?_|refine vA rfl ?_|refine zX rfl ?_|refine zQ rfl ?_|refine xJ rfl (λhc=>?_) (λhc=>?_)|refine yX ?_|refine yU ?_|refine xA ?_|refine yS ?_))
  exact zL [1014] rfl rfl rfl rfl
theorem aI (y:Cy) (h:CyB y):zN 60 [uM y] [] (uM y) []:=by
 have k1:=aE y.ds (by have:=h.d;omega);have k2:=aF y.sg (by have:=h.g;omega);have k3:=aG y.sv (by have:=h.s;omega);have k4:=aH y.st (by have:=h.t;omega);have k5:=ZK y.vw h.v h.vb;have hl1:=zA zJ y.ds;have hl2:=zA vB y.sg;have hl3:=zA wX y.sv;have hl4:=zA iA y.st;have hd:=h.d;have hg:=h.g;have hs:=h.s;unfold uM YC;refine eM call60 λF hF=>?_
 refine zU k1 ?_;refine zP ((y.ds.map zJ).length) [1011,1,2] [1,2] [1,2,12] [13,1,2,12] rfl (λi T U=>⟨(13,iA i)::T,(1011,.arr 17 (kS i (y.ds.map zJ)) false)::U⟩) ?_;(conv=>whnf);refine⟨by rfl,?_,?_⟩
 ·intro i hi;have hi':i<y.ds.length:=by omega
  have hy:(kS i (y.ds.map zJ))[i]? =some (zJ (y.ds.getD i default)):=zM zJ y.ds i hi';have e:=kG zJ y.ds i hi';have c2:=cK (y.ds.getD i default) (h.db _ bY);generalize (y.ds.getD i default)=t at *;generalize kS i (y.ds.map zJ)=xs at *;generalize kS (i+1) (y.ds.map zJ)=ys at *;subst e;refine zU c2 ?_;rfl
 ·(refine zU k2 ?_)
  refine zP ((y.sg.map vB).length) [1012,1,2,1011] [1,2,1011] [1,2,33] [34,1,2,33] rfl (λi T U=>⟨(34,iA i)::T,(1012,.arr 5 (kS i (y.sg.map vB)) false)::U⟩) ?_;(conv=>whnf);refine⟨by rfl,?_,?_⟩
  ·intro i hi;have hi':i<y.sg.length:=by omega
   have hy:(kS i (y.sg.map vB))[i]? =some (vB (y.sg.getD i default)):=zM vB y.sg i hi';have e:=kG vB y.sg i hi';have c2:=zAr (y.sg.getD i default) (by have:=h.gb (y.sg.getD i default) bY;omega) (by have:=h.gb (y.sg.getD i default) bY;omega);generalize (y.sg.getD i default)=t at *;generalize kS i (y.sg.map vB)=xs at *;generalize kS (i+1) (y.sg.map vB)=ys at *;subst e;refine zU c2 ?_;rfl
  ·(refine zU k3 ?_)
   refine zP ((y.sv.map wX).length) [1013,1,2,1011,1012] [1,2,1011,1012] [1,2,54] [55,1,2,54] rfl (λi T U=>⟨(55,iA i)::T,(1013,.arr 3 (kS i (y.sv.map wX)) false)::U⟩) ?_;(conv=>whnf);refine⟨by rfl,?_,?_⟩
   ·intro i hi;have hi':i<y.sv.length:=by omega
    have hy:(kS i (y.sv.map wX))[i]? =some (wX (y.sv.getD i default)):=zM wX y.sv i hi';have e:=kG wX y.sv i hi';have c2:=WC (y.sv.getD i default) ⟨by have:=h.sb (y.sv.getD i default) bY;omega⟩;generalize (y.sv.getD i default)=t at *;generalize kS i (y.sv.map wX)=xs at *;generalize kS (i+1) (y.sv.map wX)=ys at *;subst e;refine zU c2 ?_;rfl
   ·(refine yO (wW k4 k5) ?_)
    refine zH [] rfl rfl ?_ rfl
    show AV.agg [zD wP y.c.js,zD vH y.c.ags,iA y.c.per,iA y.c.cap,iA y.c.hold,iA y.c.lock,bA y.rf,iA y.now,.sl false ((y.ds.map zJ).take (y.ds.map zJ).length),.sl false ((y.sg.map vB).take (y.sg.map vB).length),.sl false ((y.sv.map wX).take (y.sv.map wX).length),.sl false ((y.st.map iA).take (y.st.map iA).length),zD vL y.vw]=_
    rw[zXe,zXe,zXe,zXe];rfl
theorem RS (y:Cy) (h:CyB y):zN 60 [uM y] [] (zEc y) (zEd y):=by
 have k1:=aE y.ds (by have:=h.d;omega);have k2:=aF y.sg (by have:=h.g;omega);have k3:=aG y.sv (by have:=h.s;omega);have k4:=aH y.st (by have:=h.t;omega);have k5:=ZK y.vw h.v h.vb;have hl1:=zA zJ y.ds;have hl2:=zA vB y.sg;have hl3:=zA wX y.sv;have hl4:=zA iA y.st;have hd:=h.d;have hg:=h.g;have hs:=h.s;unfold uM zEc YC zEd;refine eM call60 λF hF=>?_
 refine zU k1 ?_;refine zP ((y.ds.map zJ).length) [1011,1,2] [1,2] [1,2,12] [13,1,2,12] rfl (λi T U=>⟨(13,iA i)::T,(1011,.arr 17 (kS i (y.ds.map zJ)) false)::U⟩) ?_;(conv=>whnf);refine⟨by rfl,?_,?_⟩
 ·intro i hi;have hi':i<y.ds.length:=by omega
  have hy:(kS i (y.ds.map zJ))[i]? =some (zJ (y.ds.getD i default)):=zM zJ y.ds i hi';have e:=kG zJ y.ds i hi';have c2:=cK (y.ds.getD i default) (h.db _ bY);generalize (y.ds.getD i default)=t at *;generalize kS i (y.ds.map zJ)=xs at *;generalize kS (i+1) (y.ds.map zJ)=ys at *;subst e;refine zU c2 ?_;rfl
 ·(refine zU k2 ?_)
  refine zP ((y.sg.map vB).length) [1012,1,2,1011] [1,2,1011] [1,2,33] [34,1,2,33] rfl (λi T U=>⟨(34,iA i)::T,(1012,.arr 5 (kS i (y.sg.map vB)) false)::U⟩) ?_;(conv=>whnf);refine⟨by rfl,?_,?_⟩
  ·intro i hi;have hi':i<y.sg.length:=by omega
   have hy:(kS i (y.sg.map vB))[i]? =some (vB (y.sg.getD i default)):=zM vB y.sg i hi';have e:=kG vB y.sg i hi';have c2:=zAr (y.sg.getD i default) (by have:=h.gb (y.sg.getD i default) bY;omega) (by have:=h.gb (y.sg.getD i default) bY;omega);generalize (y.sg.getD i default)=t at *;generalize kS i (y.sg.map vB)=xs at *;generalize kS (i+1) (y.sg.map vB)=ys at *;subst e;refine zU c2 ?_;rfl
  ·(refine zU k3 ?_)
   refine zP ((y.sv.map wX).length) [1013,1,2,1011,1012] [1,2,1011,1012] [1,2,54] [55,1,2,54] rfl (λi T U=>⟨(55,iA i)::T,(1013,.arr 3 (kS i (y.sv.map wX)) false)::U⟩) ?_;(conv=>whnf);refine⟨by rfl,?_,?_⟩
   ·intro i hi;have hi':i<y.sv.length:=by omega
    have hy:(kS i (y.sv.map wX))[i]? =some (wX (y.sv.getD i default)):=zM wX y.sv i hi';have e:=kG wX y.sv i hi';have c2:=WC (y.sv.getD i default) ⟨by have:=h.sb (y.sv.getD i default) bY;omega⟩;generalize (y.sv.getD i default)=t at *;generalize kS i (y.sv.map wX)=xs at *;generalize kS (i+1) (y.sv.map wX)=ys at *;subst e;refine zU c2 ?_;rfl
   ·(refine yO (wW k4 k5) ?_)
    exact zL [1011,1012,1013,1014] rfl rfl rfl rfl
theorem zKw (j:Jn) (h:j.ph.length<=8):zN 89 [wP j] [] (.agg [bA true,bA false,.ref 1021 0 (j.ph.map wY).length,.ref 1022 0 (j.ph.map wY).length]) [(1021,.arr 1 (List.replicate (j.ph.map wY).length (iA 0)) false),(1022,.arr 1 (List.replicate (j.ph.map wY).length (iA 0)) false)]:=by
 have hl:=zA wY j.ph;unfold wP zD;generalize j.ph.map wY=P at *;refine eM call89 λF hF=>?_
 (repeat' (first|refine qA ?_|refine xQ (λhc=>?_) (λhc=>?_)|refine wD (λhc=>?_)|(refine zE ?_;first|(refine gO ?_;first|refine cE 1021 tok rfl rfl rfl rfl rfl rfl rfl rfl rfl rfl rfl rfl rfl zB zB rfl rfl rfl ?_|refine cE 1022 tok rfl rfl rfl rfl rfl rfl rfl rfl rfl rfl rfl rfl rfl zB zB rfl rfl rfl ?_))|fail))
 exact zL [1021,1022] rfl rfl rfl rfl
def cnT (p:Ph) (l:Li):Int:=if l.lamp=1 then max (lnF p-1-l.tk) 0 else if l.lamp=2 then p.yel-1-l.tk else if l.lamp=3 then p.red-1-l.tk else 0
def coT (l:Li):Int:=if l.lamp=1∨l.lamp=2 then l.lamp else 0
theorem zEe (p:Ph) (h:PhB p) (l:Li) (ht: -1000000000000<=l.tk/\l.tk<=1000000000000) (hn: -1000<=lnF p/\lnF p<=1000) (hy: -1000<=p.yel/\p.yel<=1000) (hr: -1000<=p.red/\p.red<=1000):zN 146 [wY p,vG l] [] (iA (cnT p l)) []:=by
 have c:=zAx p h;unfold cnT;generalize lnF p=n at *;by_cases h1:l.lamp=1
 ·rw[zW9 h1];refine eM call146 λF hF=>?_
  refine zU c ?_;exact zK
 rw[zW8 h1];by_cases h2:l.lamp=2
 ·rw[zW9 h2];refine eM call146 λF hF=>?_
  refine WW ?_;exact zK
 rw[zW8 h2];by_cases h3:l.lamp=3
 ·rw[zW9 h3];refine eM call146 λF hF=>?_
  refine WW ?_;exact zK
 ·rw[zW8 h3];refine eM call146 λF hF=>?_
  refine WW ?_;exact zK
def LF (s:Sg) (n i:Nat):List Int:=WI (λp _=>coT (vD s.c p)) (List.replicate n 0) i
def HL (j:Jn) (s:Sg) (n i:Nat):List Int:=WI (λp _=>cnT (xC j p) (vD s.c p)) (List.replicate n 0) i
def HM (j:Jn) (s:Sg) (v:Sv):Vw:=if s.lat=true then vwZ j.ph.length else⟨false,v.ph != -1,LF s j.ph.length j.ph.length,HL j s j.ph.length j.ph.length⟩
theorem zV9 (n:Nat):List.replicate n (iA 0)=(List.replicate n (0:Int)).map iA:=by simp
theorem zEf (j:Jn) (J:JV j) (s:Sg) (C:CV j s.c) (v:Sv):zN 93 [wP j,vB s,wX v] [] (vL (HM j s v)) []:=by
 have k:=zKw j J.n.2;have hl:=zA wY j.ph;have hn:=J.n;have hll:(s.c.li.map vG).length=j.ph.length:=by rw[zXa];exact C.n
 unfold HM;rw[zV9]at k;unfold vB wX
 cases hlat:s.lat with
 |true=>
  rw[zW9 rfl];unfold wP at *;refine eM call93 λF hF=>?_
  refine zU k ?_;refine zH [] rfl rfl ?_ rfl
  show AV.agg [bA true,bA false,.sl false (List.take (j.ph.map wY).length ((List.replicate (j.ph.map wY).length (0:Int)).map iA)),.sl false (List.take (j.ph.map wY).length ((List.replicate (j.ph.map wY).length (0:Int)).map iA))]=_
  rw[zXk zS,hl];rfl
 | false=>
  rw[zW8 zXx];have e1:(List.replicate (j.ph.map wY).length (0:Int)).map iA=(LF s j.ph.length 0).map iA:=by unfold LF;rw[jP,hl]
  have e2:(List.replicate (j.ph.map wY).length (0:Int)).map iA=(HL j s j.ph.length 0).map iA:=by unfold HL;rw[jP,hl]
  have k:zN 89 [wP j] [] (.agg [bA true,bA false,.ref 1021 0 (j.ph.map wY).length,.ref 1022 0 (j.ph.map wY).length]) [(1021,.arr 1 ((LF s j.ph.length 0).map iA) false),(1022,.arr 1 ((HL j s j.ph.length 0).map iA) false)]:=by rw[<-e1,<-e2];exact k
  clear e1 e2;have f1:∀i,((LF s j.ph.length i).map iA).length=j.ph.length:=λi=>by rw[zXa];unfold LF;rw[vJ,zYz]
  have f2:∀i,((HL j s j.ph.length i).map iA).length=j.ph.length:=λi=>by rw[zXa];unfold HL;rw[vJ,zYz]
  have g1:∀i,i<j.ph.length->(LF s j.ph.length (i+1)).map iA=((LF s j.ph.length i).map iA).set i (iA (coT (vD s.c i))):=λi hi=>by unfold LF;rw[qO _ _ _ _ (by rw[zYz];exact hi)]
  have g2:∀i,i<j.ph.length->(HL j s j.ph.length (i+1)).map iA=((HL j s j.ph.length i).map iA).set i (iA (cnT (xC j i) (vD s.c i))):=λi hi=>by unfold HL;rw[qO _ _ _ _ (by rw[zYz];exact hi)]
  unfold wP zD at *;refine eM call93 λF hF=>?_
  refine zU k ?_;refine zP ((j.ph.map wY).length) [1021,1022,4,6,7] [4,6,7] [4,6,7,22,23] [24,4,6,7,22,23] rfl (λi T U=>⟨(24,iA i)::T,(1021,.arr 1 ((LF s j.ph.length i).map iA) false)::(1022,.arr 1 ((HL j s j.ph.length i).map iA) false)::U⟩) ?_;(conv=>whnf);refine⟨by rfl,?_,?_⟩
  ·intro i hi;have hi':i<j.ph.length:=by omega
   have hy:(j.ph.map wY)[i]? =some (wY (xC j i)):=zM wY j.ph i hi';have hz:(s.c.li.map vG)[i]? =some (vG (vD s.c i)):=zM vG s.c.li i (by have:=C.n;omega);have ht:=J.ti i hi';have hv:=C.k i hi';have x1:=f1 i;have x2:=f2 i;have y1:=g1 i hi';have y2:=g2 i hi'
   have htk: -1000000000000<=(vD s.c i).tk/\(vD s.c i).tk<=1000000000000:=by
    unfold OW at hv
    repeat' split at hv
    all_goals (first|(rw[zXi]at hv;omega)|cases hv)
   have kc:=zEe (xC j i) ⟨zB,zB,zB,zB⟩ (vD s.c i) htk (by unfold lnF;omega) zB zB;rw[y1,y2];have a1:((LF s j.ph.length i).map iA)[i]? =some (iA ((LF s j.ph.length i).getD i default)):=zM iA _ i (by rw[zXa]at x1;omega);have a2:(((LF s j.ph.length i).map iA).set i (iA 0))[i]? =some (iA 0):=by rw[zZi,zW9 rfl,zW9 zB]
   have a3:((HL j s j.ph.length i).map iA)[i]? =some (iA ((HL j s j.ph.length i).getD i default)):=zM iA _ i (by rw[zXa]at x2;omega);clear y1 y2 g1 g2 f1 f2 k;generalize (LF s j.ph.length i).getD i default=v1 at *;generalize (HL j s j.ph.length i).getD i default=v2 at *;generalize cnT (xC j i) (vD s.c i)=cc at *;generalize (LF s j.ph.length i).map iA=A at *;generalize (HL j s j.ph.length i).map iA=B at *;generalize xC j i=p at *;unfold coT;generalize vD s.c i=l at *;obtain⟨lm,tk⟩:=l;dsimp only at *;by_cases h1:lm=1
   ·rw[zW9 (.inl h1),<-yB1 (a:=iA 0)];refine zU kc ?_;rfl
   by_cases h2:lm=2
   ·rw[zW9 (.inr h2),<-yB1 (a:=iA 0)];refine zU kc ?_;rfl
   ·rw[zW8 (λh=>h.elim h1 h2)];refine zU kc ?_;rfl
  ·(refine WW ?_)
   refine zH [] rfl rfl ?_ rfl
   show AV.agg [bA false,bA (v.ph != -1),.sl false (List.take (j.ph.map wY).length ((LF s j.ph.length (j.ph.map wY).length).map iA)),.sl false (List.take (j.ph.map wY).length ((HL j s j.ph.length (j.ph.map wY).length).map iA))]=_
   rw[zXk (by rw[f1];omega),zXk (by rw[f2];omega),hl];rfl
theorem zO7 (j:Jn) (J:JV j) (s:Sg) (v:Sv):DX (HM j s v):=by
 have hn:=J.n.2;unfold HM;split
 ·exact zUj hn
 ·refine⟨by show(LF _ _ _).length<=8;unfold LF;rw[vJ,zYz];exact hn,by show(HL _ _ _ _).length<=8;unfold HL;rw[vJ,zYz];exact hn,λx hx=>?_⟩;obtain⟨i,hi,rfl⟩:=zZk hx;have h1:=uX (λp (_:Int)=>coT (vD s.c p)) (List.replicate j.ph.length 0) j.ph.length i;unfold LF at hi⊢;rw[zXr hi]at h1;rw[vJ]at hi;rw[zW9 hi]at h1
  injection h1 with h1
  rw[h1];split
  ·unfold coT;split<;>omega
  ·rename_i hni;rw[zYz]at hi;omega
theorem zEg (y:Int):0<=IntKind.u8.wrap y/\IntKind.u8.wrap y<256:=by
 unfold IntKind.wrap;simp[IntKind.signed,IntKind.bits];omega
theorem zKx (k:Int) (p:List Int) (k0:0<=k) (k1:k<=255) (hb:BY p) (hp:p.length<=200):∃q,BY q/\q.length=p.length+10/\zN 148 [iA k,zD yA p] [] (.tup [.ref 1031 0 (q.map yA).length,iA 0]) [(1031,.arr 1 (q.map yA) true)]:=by
 have hlp:=zA yA p;have hh:∀y,(p.map yA)[0]? =some y->y.cells.length=1:=xH _ _ (λ_=>rfl)
 have hu:IntKind.u8.wrap (vR (((p.map yA).length:Nat):Int) 8)=0:=by
  have:vR (((p.map yA).length:Nat):Int) 8=0:=by
   unfold vR;rw[zXa,zZm _ xL]
   show(p.length:Int)/256=0
   omega
  rw[this];rfl
 have hdb:=zPt k0 k1 hb hp;have kc:=zSy (dW k p.length++p) (by unfold dW;simp;omega) hdb
 have kc:zN 183 [.sl false ((([AV.s (.int .u8 90),.s (.int .u8 165),.s (.int .u8 1),.s (.int .u8 k),.s (.int .u8 (IntKind.u8.wrap (vR (((p.map yA).length:Nat):Int) 8))),.s (.int .u8 (((p.map yA).length:Nat):Int))]++p.map yA).drop 2).take (([AV.s (.int .u8 90),.s (.int .u8 165),.s (.int .u8 1),.s (.int .u8 k),.s (.int .u8 (IntKind.u8.wrap (vR (((p.map yA).length:Nat):Int) 8))),.s (.int .u8 (((p.map yA).length:Nat):Int))]++p.map yA).length-2))] [] (uA (dM (dW k p.length++p))) []:=by
  rw[hu,zXa];rw[zXk zS];exact kc
 generalize dM (dW k p.length++p)=s at *;refine⟨90::165::(dW k p.length++p)++[IntKind.u8.wrap (s.fdiv (2 ^ (min (24:Int).toNat IntKind.u32.bits))),IntKind.u8.wrap (s.fdiv (2 ^ (min (16:Int).toNat IntKind.u32.bits))),IntKind.u8.wrap (s.fdiv (2 ^ (min (8:Int).toNat IntKind.u32.bits))),IntKind.u8.wrap s],?_,?_,?_⟩
 ·intro x hx
  rcases zXs.1 hx with hx|hx
  ·simp only[zYq]at hx
   rcases hx with rfl|rfl|hx
   ·omega
   ·omega
   ·exact hdb x hx
  ·simp only[zYq,yBd,yCo]at hx
   rcases hx with rfl|rfl|rfl|rfl<;>exact zEg _
 ·simp[dW]
 have hX:(90::165::(dW k p.length++p)++[IntKind.u8.wrap (s.fdiv (2 ^ (min (24:Int).toNat IntKind.u32.bits))),IntKind.u8.wrap (s.fdiv (2 ^ (min (16:Int).toNat IntKind.u32.bits))),IntKind.u8.wrap (s.fdiv (2 ^ (min (8:Int).toNat IntKind.u32.bits))),IntKind.u8.wrap s]).map yA=([AV.s (.int .u8 90),.s (.int .u8 165),.s (.int .u8 1),.s (.int .u8 k),.s (.int .u8 (IntKind.u8.wrap (vR (((p.map yA).length:Nat):Int) 8))),.s (.int .u8 (((p.map yA).length:Nat):Int))]++p.map yA)++[.s (.int .u8 (IntKind.u8.wrap (s.fdiv (2 ^ (min (24:Int).toNat IntKind.u32.bits))))),.s (.int .u8 (IntKind.u8.wrap (s.fdiv (2 ^ (min (16:Int).toNat IntKind.u32.bits))))),.s (.int .u8 (IntKind.u8.wrap (s.fdiv (2 ^ (min (8:Int).toNat IntKind.u32.bits))))),.s (.int .u8 (IntKind.u8.wrap s))]:=by
  rw[hu,zXa];simp only[dW,zXf,zYi,zY6,zZx,zZj,zXy];rfl
 rw[hX];refine eM call148 λF hF=>?_
 (have zc1:=kc;(repeat' (first|refine aU ?_|refine xQ (λhc=>?_) (λhc=>?_)|refine wD (λhc=>?_)|(refine zE ?_;first|(refine yT ?_;first|refine uG (nw:=[1031]) (yJ tok 1031 (xs:=[_,_,_,_,_,_]) rfl rfl rfl rfl rfl rfl rfl rfl rfl) rfl rfl rfl ?_|refine qX tok rfl rfl ?_)|(refine qU ?_;refine gY tok rfl rfl rfl rfl rfl rfl rfl zB (by simp<;>omega) rfl ?_))|refine SB ?_|fail))<;>clear zc1)
 exact zL [1031] rfl rfl rfl rfl
theorem zEh (m:Ms) (h:MgP m):∃q,BY q/\q.length<=210/\zN 94 [zY m] [] (.tup [.ref 1031 0 (q.map yA).length,iA 0]) [(1031,.arr 1 (q.map yA) true)]:=by
 obtain⟨p,h1,h2,c1⟩:=zQ7 m h;have hk:=h.k;obtain⟨q,q1,q2,c2⟩:=zKx m.kind p zB zB h1 h2;refine⟨q,q1,zB,?_⟩;unfold zY at *;refine eM call94 λF hF=>?_
 refine yO (wW c1 c2) ?_;exact zL [1031] rfl rfl rfl rfl
theorem HN (m:Ms) (h:MgP m):∃q,BY q/\q.length<=210/\zN 45 [zY m] [] (.ref 1031 0 (q.map yA).length) [(1031,.arr 1 (q.map yA) true)]/\zN 45 [zY m] [] (zD yA q) []:=by
 obtain⟨q,q1,q2,c2⟩:=zEh m h;refine⟨q,q1,q2,?_,?_⟩
 ·unfold zY at *;refine eM call45 λF hF=>?_
  refine zU c2 ?_;exact zL [1031] rfl rfl rfl rfl
 ·unfold zY at *;refine eM call45 λF hF=>?_
  refine zU c2 ?_;exact zH [] rfl rfl (zX7 (AV.sl false) zXe) rfl
theorem HO (m:Ms) (h:MgP m):∃q,BY q/\q.length<=210/\zN 45 [zY m] [] (zD yA q) []:=by
 obtain⟨q,q1,q2,_,c2⟩:=HN m h;exact⟨q,q1,q2,c2⟩
def jM (l:List Ag):Nat->Int
 |0=>0
 |i+1=>jM l i+(l.getD i default).ses
def IW (l:List Ag):Prop:=l.length<=4/\∀a∈l,1<=a.ses/\a.ses<=2
theorem IW.at {l:List Ag} (h:IW l) {i:Nat} (hi:i<l.length):1<=(l.getD i default).ses/\(l.getD i default).ses<=2:=by
 refine h.2 _ ?_;rw[zXh,zXr hi];exact zZy _
theorem kY {l:List Ag} (h:IW l):∀i,i<=l.length->(i:Int)<=jM l i/\jM l i<=2*i
 |0,_=>⟨zZf _,zZf _⟩
 |i+1,hi=>by
  have h1:=kY h i zB;have h2:=h.at (i:=i) zB;unfold jM;omega
theorem zKy (c:Cf) (h:IW c.ags):zN 42 [wT c] [] (iA (jM c.ags c.ags.length)) []:=by
 have hal:=zA vH c.ags;have hn:=h.1;unfold wT zD;refine eM call42 λF hF=>?_
 refine WW ?_;refine zP ((c.ags.map vH).length) [] [] [7,8] [3,9,7,8] rfl (λi T U=>⟨(3,iA (jM c.ags i))::(9,iA i)::T,U⟩) ?_;(conv=>whnf);refine⟨by rfl,?_,?_⟩
 ·intro i hi;have hy:=zM vH c.ags i zB;have h2:=h.at (i:=i) zB;have hb:=kY h i zB;rw[show jM c.ags (i+1)=jM c.ags i+(c.ags.getD i default).ses from rfl];generalize jM c.ags i=z at *;generalize c.ags.getD i default=a at *;refine WW ?_;rfl
 ·rw[hal];refine WW ?_;exact zK
def DU (l:List Ag) (g:Int):Nat->Int
 |0=>0
 |i+1=>if(i:Int)<g then DU l g i+(l.getD i default).ses else DU l g i
theorem CH {l:List Ag} (h:IW l) (g:Int):∀i,i<=l.length->0<=DU l g i/\DU l g i<=2*i
 |0,_=>⟨zZf _,zZf _⟩
 |i+1,hi=>by
  have h1:=CH h g i zB;have h2:=h.at (i:=i) zB;unfold DU
  split<;>omega
theorem zKz (c:Cf) (h:IW c.ags) (g:Int):zN 44 [wT c,iA g] [] (iA (DU c.ags g c.ags.length)) []:=by
 have hal:=zA vH c.ags;have hn:=h.1;unfold wT zD;refine eM call44 λF hF=>?_
 refine WW ?_;refine zP ((c.ags.map vH).length) [] [] [1,9,10] [5,11,1,9,10] rfl (λi T U=>⟨(5,iA (DU c.ags g i))::(11,iA i)::T,U⟩) ?_;(conv=>whnf);refine⟨by rfl,?_,?_⟩
 ·intro i hi;have hy:=zM vH c.ags i zB;have h2:=h.at (i:=i) zB;have hb:=CH h g i zB;by_cases hg:(i:Int)<g
  ·rw[show DU c.ags g (i+1)=DU c.ags g i+(c.ags.getD i default).ses from zW9 hg];generalize DU c.ags g i=z at *;generalize c.ags.getD i default=a at *;refine WW ?_;rfl
  ·rw[show DU c.ags g (i+1)=DU c.ags g i from zW8 hg];generalize DU c.ags g i=z at *;generalize c.ags.getD i default=a at *;refine WW ?_;rfl
 ·rw[hal];refine WW ?_;exact zK
def HP:List Ag->Int->Nat->Option (Nat×Int)
 | [],_,_=>none
 |a::l,s,i=>if s<a.ses then some (i,s)else HP l (s-a.ses) (i+1)
theorem zK0 (l:List Ag) (s:Int) (i:Nat) (h:i<l.length):HP (l.drop i) s i=if s<(l.getD i default).ses then some (i,s)else HP (l.drop (i+1)) (s-(l.getD i default).ses) (i+1):=by
 have e:l.getD i default=l[i]:=by simp[List.getD,h]
 rw[<-List.getElem_cons_drop h,e];rfl
def CI (l:List Ag) (s:Int):Int:=match HP l s 0 with
 |some p=>p.1
 |none=>0
theorem zAl:∀(l:List Ag) (s:Int) (i:Nat) (p:Nat×Int),HP l s i=some p->p.1<i+l.length
 | [],_,_,_,h=>by cases h
 |a::l,s,i,p,h=>by
  unfold HP at h;split at h
  ·cases h;simp only[zXl];omega
  ·have:=zAl l _ _ p h;simp only[zXl];omega
theorem zQb {l:List Ag} (h:IW l) (s:Int):0<=CI l s/\CI l s<4:=by
 unfold CI;split
 ·rename_i p hp;have:=zAl l s 0 p hp;have:=h.1;omega
 ·omega
theorem zEi (c:Cf) (h:IW c.ags) (s:Int) (s0: -1000<=s) (s1:s<=1000):zN 49 [wT c,iA s] [] (iA (CI c.ags s)) []:=by
 have hal:=zA vH c.ags;have hn:=h.1;unfold CI wT zD;refine eM call49 λF hF=>?_
 refine WW ?_;refine xT ((c.ags.map vH).length) [] [] [8,9] [1,10,8,9] rfl (λi T U zs=>∃(z:Int),(HP c.ags s 0=HP (c.ags.drop i) z i/\ -1000-2*(i:Int)<=z/\z<=1000)/\zs=⟨(1,iA z)::(10,iA i)::T,U⟩) ?_;(conv=>whnf);refine⟨?_,?_,?_⟩
 ·exact⟨s,⟨rfl,zB,zB⟩,rfl⟩
 ·rintro i st hi ⟨z,⟨hz,z0,z1⟩,rfl⟩;have hy:=zM vH c.ags i zB;have h2:=h.at (i:=i) zB;rw[zK0 c.ags z i zB]at hz;generalize hD:c.ags.drop (i+1)=D at *;generalize c.ags.getD i default=a at *;by_cases ha:z<a.ses
  ·rw[zW9 ha]at hz;rw[hz];refine WW ?_;exact zK
  ·rw[zW8 ha]at hz;refine WW ?_;exact⟨_,⟨hz,zB,zB⟩,rfl⟩
 ·rintro st ⟨z,⟨hz,z0,z1⟩,rfl⟩;rw[hal,yBb]at hz;rw[hz];refine WW ?_;exact zK
structure VW (e:Ev):Prop where
 k:1<=e.k/\e.k<=6
 s:0<=e.s/\e.s<=100
 a:0<=e.a/\e.a<=100
 b:0<=e.b/\e.b<=100
 y:BY e.y
 n:e.y.length<=1000
theorem evb {k s a b:Int} {y:List Int} (hk:1<=k/\k<=6) (hs:0<=s/\s<=100) (ha:0<=a/\a<=100) (hb:0<=b/\b<=100) (hy:BY y) (hn:y.length<=1000):VW ⟨k,s,a,b,y⟩:=⟨hk,hs,ha,hb,hy,hn⟩
theorem kC:BY []:=λx hx=>by cases hx
theorem zQc (c:Cf) (s:Int) (s0:0<=s) (s1:s<=100) (cm:Bool) (d:Dk):∃(e:Ev) (d':Dk),VW e/\rem d'<=rem d/\zN 47 [.ptr 1000 0 0,wT c,iA s,bA cm] [(1000,dX d)] (qK e) [(1000,dX d')]:=by
 have k1:=yI d 6 zB zB;have b1:=yE d 6 zB;have r1:=wM d;generalize nx d 6=k at *;generalize ad d=d1 at *;unfold qK zD;by_cases h0:k=0
 ·refine⟨⟨2,s,0,0,[]⟩,d1,evb zB zB zB zB kC zS,r1,?_⟩;refine eM call47 λF hF=>?_
  refine zU k1 ?_;exact zH [1000] rfl rfl rfl rfl
 by_cases h1:k=1
 ·refine⟨⟨1,s,0,0,[]⟩,d1,evb zB zB zB zB kC zS,r1,?_⟩;refine eM call47 λF hF=>?_
  refine zU k1 ?_;exact zH [1000] rfl rfl rfl rfl
 by_cases h2:k=2
 ·have k2:=yI d1 4 zB zB;have b2:=yE d1 4 zB;have r2:=wM d1;have k3:=yI (ad d1) 50 zB zB;have b3:=yE (ad d1) 50 zB;have r3:=wM (ad d1);have k4:=eV (nx (ad d1) 50);refine⟨⟨4,0,nx d1 4,0,dK (nx (ad d1) 50)⟩,ad (ad d1),evb zB zB zB zB (ZR _) (by rw[kU];omega),zB,?_⟩;generalize nx (ad d1) 50=q at *;generalize nx d1 4=p at *;generalize dK q=y at *;refine eM call47 λF hF=>?_
  refine yO (aB k1 k2 k3 k4) ?_;exact zH [1000] rfl rfl rfl rfl
 cases cm with
 |true=>
  refine⟨⟨6,0,0,0,[]⟩,d1,evb zB zB zB zB kC zS,r1,?_⟩;refine eM call47 λF hF=>?_
  refine zU k1 ?_;exact zH [1000] rfl rfl rfl rfl
 |false=>
 by_cases h3:k=3
 ·have k2:=yI d1 3 zB zB;have b2:=yE d1 3 zB;have r2:=wM d1;have k3:=yI (ad d1) 9 zB zB;have b3:=yE (ad d1) 9 zB;have r3:=wM (ad d1);refine⟨⟨5,0,nx d1 3,nx (ad d1) 9,[]⟩,ad (ad d1),evb zB zB zB zB kC zS,zB,?_⟩;generalize nx (ad d1) 9=q at *;generalize nx d1 3=p at *;refine eM call47 λF hF=>?_
  refine yO (gU k1 k2 k3) ?_;exact zH [1000] rfl rfl rfl rfl
 by_cases h4:k=4
 ·have k2:=yI d1 120 zB zB;have b2:=yE d1 120 zB;have r2:=wM d1;refine⟨⟨3,s,0,0,List.replicate (150+nx d1 120).toNat 0⟩,ad d1,evb zB zB zB zB (λx hx=>by have:=(yBi.1 hx).2;omega) (by rw[zYz];omega),zB,?_⟩;generalize nx d1 120=q at *;refine eM call47 λF hF=>?_
  have hnx:150+q=(((150+q).toNat:Nat):Int):=by omega
  (have zc1:=k1;have zc2:=k2;(repeat' (first|refine qA ?_|refine xQ (λhc=>?_) (λhc=>?_)|refine wD (λhc=>?_)|(refine zE ?_;first|(refine gO ?_;refine zBm tok rfl rfl rfl rfl rfl rfl rfl rfl rfl rfl rfl rfl hnx zB zB rfl rfl rfl ?_))|fail))<;>clear zc1 zc2)
  have e:List.take (150+q).toNat (List.drop 0 (List.replicate (150+q).toNat (yA 0)))=(List.replicate (150+q).toNat 0).map yA:=by rw[zYf,zXk zS,yA0]
  exact zH [1000] rfl rfl (zX7 (λz=>AV.agg [iA 3,iA s,iA 0,iA 0,.sl false z]) e) rfl
 ·have k2:=zFw d1 9 zB zB;have b2:=yE d1 (9+1) zB;obtain⟨p1,p2,p3⟩:=CX (ad d1) (nx d1 (9+1)).toNat;have r2:=wM d1;refine⟨⟨3,s,0,0,(fA (ad d1) (nx d1 (9+1)).toNat).1⟩,(fA (ad d1) (nx d1 (9+1)).toNat).2,evb zB zB zB zB p3 zB,zB,?_⟩;generalize (fA (ad d1) (nx d1 (9+1)).toNat).1=y at *;generalize (fA (ad d1) (nx d1 (9+1)).toNat).2=d2 at *;refine eM call47 λF hF=>?_
  refine yO (wW k1 k2) ?_;exact zH [1000] rfl rfl rfl rfl
def NW (l:List Ev) (n:Nat):Prop:=l.length<=n/\∀e∈l,VW e
theorem NW.nil:NW [] 0:=⟨zXc _,λe h=>by cases h⟩
theorem NW.app {l:List Ev} {n:Nat} (h:NW l n) {e:Ev} (he:VW e):NW (l++[e]) (n+1):=
 ⟨by have:=h.1;rw[zXb,zZ0];omega,λx hx=>(zXs.1 hx).elim (h.2 x) λhx=>by rw[zX9.1 hx];exact he⟩
theorem NW.le {l:List Ev} {n m:Nat} (h:NW l n) (hm:n<=m):NW l m:=⟨zYg h.1 hm,h.2⟩
theorem zQd (g v:Int) (hg:0<=g/\g<256) (hv:0<=v/\v<=100):MgP ⟨4,g::0::dK (1000+g),[v,v.tmod 2],[]⟩:=by
 have h1:=yC2 2 hv.1;have h2:v.tmod 2<2:=yCr v zB;exact⟨KL hg zB (ZR _),by simp[kU],by dsimp only;omega,.cons zB (.cons zB .nil),⟨0,zB,λh=>absurd rfl h,rfl⟩,rfl⟩
structure IX (c:Cf):Prop where
 j:1<=c.js.length/\c.js.length<=4
 jv:∀j∈c.js,JV j
 a:1<=c.ags.length/\c.ags.length<=4
 av:∀a∈c.ags,AgV a
 p:1<=c.per/\c.per<=600
 cp:0<=c.cap/\c.cap<=100
 h:1<=c.hold/\c.hold<=60
 l:0<=c.lock/\c.lock<=600
theorem yC {α:Type} [Inhabited α] (l:List α) (i:Nat) (h:i<l.length):l.getD i default∈l:=by
 rw[zXh,zXr h];exact zZy _
theorem IX.w {c:Cf} (h:IX c):CfW c:=⟨h.j.2,λj hj=>(h.jv j hj).n⟩
theorem IX.ag {c:Cf} (h:IX c):IW c.ags:=⟨h.a.2,λa ha=>(h.av a ha).e⟩
theorem zO8 (d:Dk) (r:Int) (hr:0<=r/\r<=63):IX (QG d r):=by
 have hn:=zU2 d r;have h1:=yE d (4-1+1) zB;have h2:=yE (ad d) 4 zB;have h3:=yE (ad (ad d)) (3-1+1) zB;have h4:=yE (ad (ad (ad d))) 5 zB;refine⟨zB,λj hj=>?_,zB,λa ha=>?_,?_,?_,?_,?_⟩
 ·rw[zF6]at hj;obtain⟨e,rfl⟩:=zA1 _ _ j hj;exact zQt e
 ·obtain⟨i,hi,rfl⟩:=zZk ha;have:=(zRe d r hr (i:Int) zB zB).1.v;rw[show(i:Int).toNat=i from rfl]at this;rw[show(QG d r).ags[i]=(QG d r).ags.getD i default by simp[List.getD,hi]];exact this
 all_goals (unfold QG;dsimp only;omega)
theorem zCf (c:Cf) (h:IX c):zN 88 [wT c] [] (bA true) []:=by
 have hj:=h.j;have ha:=h.a;have hjl:=zA wP c.js;have hal:=zA vH c.ags;have w1:=eK ((c.js.map wP).length:Int) 1 4 zB;have w2:=eK ((c.ags.map vH).length:Int) 1 4 zB;have w3:=eK c.per 1 600 h.p;have w4:=eK c.cap 0 100 h.cp;have w5:=eK c.hold 1 60 h.h;have w6:=eK c.lock 0 600 h.l;unfold wT zD;refine eM call88 λF hF=>?_
 refine yO (wW w1 w2) ?_;refine zP ((c.js.map wP).length) [1] [1] [1,20,21] [22,1,20,21] rfl (λi T U=>⟨(22,iA i)::T,U⟩) ?_;(conv=>whnf);refine⟨by rfl,?_,?_⟩
 ·intro i hi;have hy:=zM wP c.js i zB;have kj:=TF _ (h.jv _ (yC c.js i zB));generalize c.js.getD i default=j at *;refine zU kj ?_;rfl
 ·(refine WW ?_)
  refine zP ((c.ags.map vH).length) [1] [1] [1,31,32] [33,1,31,32] rfl (λi T U=>⟨(33,iA i)::T,U⟩) ?_;(conv=>whnf);refine⟨by rfl,?_,?_⟩
  ·intro i hi;have hy:=zM vH c.ags i zB;have kj:=zC6 _ (h.av _ (yC c.ags i zB));generalize c.ags.getD i default=a at *;refine zU kj ?_;rfl
  ·(refine yO (aB w3 w4 w5 w6) ?_)
   exact zK
def LG (c:Cf) (i:Nat):List xP:=(List.range i).map λk:Nat=>QP (k:Int) (c.ags.getD k default) (c.ags.getD k default).ses.toNat
def RT (j:Jn):Sv:=zK6 j.ph.length
def aJ (c:Cf):Cy:=⟨c,false,0,LG c c.ags.length,c.js.map fH,c.js.map RT,c.js.map λ_=> -1,c.js.map λj=>HM j (fH j) (RT j)⟩
theorem zQe (c:Cf) (h:IX c):zN 40 [wT c] [] (uM (aJ c)) []:=by
 have kp:=zCf c h;have hj:=h.j;have ha:=h.a;have hjl:=zA wP c.js;have hal:=zA vH c.ags;have hdl:∀i,((LG c i).map zJ).length=i:=λi=>by simp[LG]
 have hfin:uM (aJ c)= .agg [zD wP c.js,zD vH c.ags,iA c.per,iA c.cap,iA c.hold,iA c.lock,bA false,iA 0,zD zJ (LG c c.ags.length),zD vB (c.js.map fH),zD wX (c.js.map RT),zD iA (c.js.map λ_=> -1),zD vL (c.js.map λj=>HM j (fH j) (RT j))]:=rfl;rw[hfin];unfold wT zD at *;refine eM call40 λF hF=>?_
 refine zU kp ?_;refine vT 3 8 1011 17 rfl rfl rfl rfl rfl ?_;refine zP ((c.ags.map vH).length) [3,1011,1,2] [1,2] [1,2,3,35,36] [37,1,2,3,35,36] rfl (λi T U=>⟨(37,iA i)::T,(3,.box [.sl false (c.js.map wP),.sl false (c.ags.map vH),iA c.per,iA c.cap,iA c.hold,iA c.lock,bA false,iA 0,.ref 1011 0 ((LG c i).map zJ).length,.s (.slice none 0 0),.s (.slice none 0 0),.s (.slice none 0 0),.s (.slice none 0 0)])::(1011,.arr 17 ((LG c i).map zJ) true)::U⟩) ?_;(conv=>whnf);refine⟨by rfl,?_,?_⟩
 ·intro i hi;have hy:=zM vH c.ags i zB;have kd:=(zU5 (i:Int) _ (h.av _ (yC c.ags i zB))).1;have e:(LG c (i+1)).map zJ=(LG c i).map zJ++[zJ (QP (i:Int) (c.ags.getD i default) (c.ags.getD i default).ses.toNat)]:=by unfold LG;rw[zZp,zXf,zXf];rfl
  have hdl:=hdl i;rw[e];clear kp hfin e;generalize QP (i:Int) (c.ags.getD i default) (c.ags.getD i default).ses.toNat=dk at *;generalize c.ags.getD i default=a at *;generalize (LG c i).map zJ=X at *;unfold zJ wL at*
  (have zc1:=kd;(repeat' (first|refine aU ?_|refine xQ (λhc=>?_) (λhc=>?_)|refine wD (λhc=>?_)|(refine zE ?_;first|(refine yT ?_;refine qX tok rfl rfl ?_))|refine SB ?_|fail))<;>clear zc1)
  rfl
 ·(refine WW ?_)
  refine vT 3 9 1012 5 rfl rfl rfl rfl rfl ?_;refine vT 3 10 1013 3 rfl rfl rfl rfl rfl ?_;refine vT 3 11 1014 1 rfl rfl rfl rfl rfl ?_;refine vT 3 12 1015 4 rfl rfl rfl rfl rfl ?_;rw[hal];refine zP ((c.js.map wP).length) [3,1012,1013,1014,1015,2,1011] [2,1011] [2,3,52,53] [54,2,3,52,53] rfl (λi T U=>⟨(54,iA i)::T,(3,.box [.sl false (c.js.map wP),.sl false (c.ags.map vH),iA c.per,iA c.cap,iA c.hold,iA c.lock,bA false,iA 0,.ref 1011 0 ((LG c c.ags.length).map zJ).length,.ref 1012 0 (((c.js.take i).map fH).map vB).length,.ref 1013 0 (((c.js.take i).map RT).map wX).length,.ref 1014 0 ((c.js.take i).map λ_=>iA (-1)).length,.ref 1015 0 (((c.js.take i).map λj=>HM j (fH j) (RT j)).map vL).length])::(1012,.arr 5 (((c.js.take i).map fH).map vB) true)::(1013,.arr 3 (((c.js.take i).map RT).map wX) true)::(1014,.arr 1 ((c.js.take i).map λ_=>iA (-1)) true)::(1015,.arr 4 (((c.js.take i).map λj=>HM j (fH j) (RT j)).map vL) true)::U⟩) ?_;(conv=>whnf);refine⟨by rfl,?_,?_⟩
  ·intro i hi;have hi':i<c.js.length:=by omega
   have hy:=zM wP c.js i hi';have J:=h.jv _ (yC c.js i hi')
   have et:c.js.take (i+1)=c.js.take i++[c.js.getD i default]:=by
    rw[zXh,zXr hi',zZg,yAg hi']
   have hlt:(c.js.take i).length<=4:=by rw[zXw];omega
   have k1:=zEl _ J;have k2:=zQk (c.js.getD i default).ph.length zBr;have k3:=zEf _ J (fH (c.js.getD i default)) (zE4 J) (RT (c.js.getD i default));have hpl:((c.js.getD i default).ph.map wY).length=(c.js.getD i default).ph.length:=zXa ..;rw[et];simp only[zXf,zYi,zY6];have m1:(((c.js.take i).map fH).map vB).length=(c.js.take i).length:=by simp
   have m2:(((c.js.take i).map RT).map wX).length=(c.js.take i).length:=by simp
   have m3:((c.js.take i).map λ_=>iA (-1)).length=(c.js.take i).length:=by simp
   have m4:(((c.js.take i).map λj=>HM j (fH j) (RT j)).map vL).length=(c.js.take i).length:=by simp
   rw[show zK6 (c.js.getD i default).ph.length=RT (c.js.getD i default)from rfl,<-hpl]at k2;clear et hfin kp;generalize HM (c.js.getD i default) (fH (c.js.getD i default)) (RT (c.js.getD i default))=w at *;generalize fH (c.js.getD i default)=s at *;generalize RT (c.js.getD i default)=v at *;generalize c.js.getD i default=j at *;generalize ((c.js.take i).map fH).map vB=X1 at *;generalize ((c.js.take i).map RT).map wX=X2 at *;generalize (c.js.take i).map (λ_=>iA (-1))=X3 at *;generalize ((c.js.take i).map λj=>HM j (fH j) (RT j)).map vL=X4 at *;unfold wP zD vB wX vL at*
   (have zc1:=k1;have zc2:=k2;have zc3:=k3;(repeat' (first|refine aU ?_|refine xQ (λhc=>?_) (λhc=>?_)|refine wD (λhc=>?_)|(refine zE ?_;first|(refine yT ?_;refine qX tok rfl rfl ?_))|refine SB ?_|fail))<;>clear zc1 zc2 zc3)
   rfl
  ·rw[hjl,zXe];refine WW ?_;refine zH [] rfl rfl ?_ rfl
   show AV.agg [.sl false (c.js.map wP),.sl false (c.ags.map vH),iA c.per,iA c.cap,iA c.hold,iA c.lock,bA false,iA 0,.sl false (List.take ((LG c c.ags.length).map zJ).length (List.drop 0 ((LG c c.ags.length).map zJ))),.sl false (List.take ((c.js.map fH).map vB).length (List.drop 0 ((c.js.map fH).map vB))),.sl false (List.take ((c.js.map RT).map wX).length (List.drop 0 ((c.js.map RT).map wX))),.sl false (List.take (c.js.map λ_=>iA (-1)).length (List.drop 0 (c.js.map λ_=>iA (-1)))),.sl false (List.take ((c.js.map λj=>HM j (fH j) (RT j)).map vL).length (List.drop 0 ((c.js.map λj=>HM j (fH j) (RT j)).map vL)))]=_
   rw[zYf,zXe,zYf,zXe,zYf,zXe,zYf,zXe,zYf,zXe,show(c.js.map λ_=>iA (-1))=(c.js.map λ_=>(-1:Int)).map iA by rw[yBc];rfl]
theorem zQf (j:Int) (x:Lg):zN 201 [xU x,.ptr 5 0 0] [(5,.box [iA j])] (bA (x.jn==j)) [(5,.box [iA j])]:=by
 refine eM call201 λF hF=>?_
 refine WW ?_;exact zL [5] rfl rfl rfl rfl
theorem zQg (j:Int) (l:List Lg) (hb:l.length<=1000):zN 200 [zD xU l,.fn 201 [.ptr 5 0 0]] [(5,.box [iA j])] (iA (UB (λr:Lg=>r.jn==j) l)) [(5,.box [iA j])]:=by
 have hl:=zA xU l;refine eM call200 λF hF=>?_
 refine WW ?_;refine kJ (l) [5] [5] [0,1,7] [8,0,1,7] rfl (λi pre T U zs=>(∀y∈pre,(y.jn==j)=false)/\zs=⟨(8,iA i)::T,U⟩) ?_;(conv=>whnf);refine⟨?_,?_,?_⟩
 ·exact⟨by simp,rfl⟩
 ·rintro i pre x post st hx hi ⟨hp,rfl⟩;have hy:=yP xU hx hi;have hlt:=yF hx hi;have c:=zQf j x;have hit:=RI (p:=λr:Lg=>r.jn==j) hx hp
  cases he:(x.jn==j)<;>rw[he]at c
  ·clear hx hit;refine zU c ?_;exact⟨λy hy=>by simp only[zXs,zX9]at hy;rcases hy with hy|rfl;exact hp y hy;exact he,rfl⟩
  ·rw[hit he,hi];clear hx hit;refine zU c ?_;exact zL [5] rfl rfl rfl rfl
 ·rintro st ⟨hp,rfl⟩;rw[aT hp];refine WW ?_;exact zL [5] rfl rfl rfl rfl
def HQ (ag j:Int) (x:Rq):List Cl:=if UB (λr:Lg=>r.jn==j) x.legs<0 then []else if(x.legs.getD (UB (λr:Lg=>r.jn==j) x.legs).toNat default).sc= -1 then []else [⟨ag,x.id,(x.legs.getD (UB (λr:Lg=>r.jn==j) x.legs).toNat default).ph,x.cls,(x.legs.getD (UB (λr:Lg=>r.jn==j) x.legs).toNat default).sc⟩]
def cI (ag j:Int) (l:List Rq):List Cl:=(l.map (HQ ag j)).flatten
theorem zEj (ag j:Int) (x:Rq):(HQ ag j x).length<=1:=by
 unfold HQ;split
 ·exact zXp _
 ·split
  ·exact zXp _
  ·exact zXc _
theorem zCg (ag j:Int) (l:List Rq) (x:Rq):cI ag j (l++[x])=cI ag j l++HQ ag j x:=by simp[cI]
theorem aK (ag j:Int):∀l:List Rq,(cI ag j l).length<=l.length
 | []=>zXc _
 |x::l=>by
  have h1:=zEj ag j x;have h2:=aK ag j l;have e:cI ag j (x::l)=HQ ag j x++cI ag j l:=rfl;rw[e,zXb,zXl];omega
theorem zCh (l:List Rq) (ag j:Int) (hn:l.length<=1000) (hb:∀r∈l,r.legs.length<=1000):zN 164 [zD yK l,iA ag,iA j] [] (zD dL (cI ag j l)) []:=by
 have hl:=zA yK l;refine eM call164 λF hF=>?_
 refine WW ?_;refine xG 7 1001 5 rfl rfl rfl ?_;refine yB (l) [1001,5] [5] [1,5,12,13] [7,14,1,5,12,13] rfl (λi pre T U=>⟨(7,.ref 1001 0 ((cI ag j pre).map dL).length)::(14,iA i)::T,(1001,.arr 5 ((cI ag j pre).map dL) true)::U⟩) ?_;(conv=>whnf);refine⟨by rfl,?_,?_⟩
 ·intro i pre x post hx hi;have hy:=yP yK hx hi;have hlt:=yF hx hi;have kx:=zQg j x.legs (hb x (xV hx));have hq:=aK ag j pre;have hql:((cI ag j pre).map dL).length=(cI ag j pre).length:=zXa ..;have hpl:pre.length<=l.length:=by rw[hx];simp
  have hxl:(x.legs.map xU).length=x.legs.length:=zXa ..;rw[zCg,zXf]
  have hlo: -1<=UB (λr:Lg=>r.jn==j) x.legs/\(0<=UB (λr:Lg=>r.jn==j) x.legs->UB (λr:Lg=>r.jn==j) x.legs<x.legs.length):=by
   cases ha:x.legs.any (λr:Lg=>r.jn==j)with
   |true=>have:=AD ha;omega
   |false=>rw[UB,ha,zW8 zXx];omega
  unfold HQ;clear hx;generalize (cI ag j pre).map dL=X at *;by_cases h0:UB (λr:Lg=>r.jn==j) x.legs<0
  ·rw[zW9 h0,zY6,zX8];generalize UB (λr:Lg=>r.jn==j) x.legs=at1 at *;refine zU kx ?_;rfl
  ·rw[zW8 h0];have hyg:=yM xU x.legs (UB (λr:Lg=>r.jn==j) x.legs) zB zB;generalize UB (λr:Lg=>r.jn==j) x.legs=at1 at *;generalize x.legs.getD at1.toNat default=g at *;by_cases h1:g.sc= -1
   ·rw[zW9 h1,zY6,zX8];refine zU kx ?_;rfl
   ·rw[zW8 h1];refine zU kx ?_;rfl
 ·(refine WW ?_)
  exact zH [] rfl rfl (zX7 (AV.sl false) zXe) rfl
def eJ (j:Int) (l:List xP):List Cl:=(l.map λd=>cI d.rg.num j d.rq).flatten
theorem zCi (j:Int) (l:List xP) (d:xP):eJ j (l++[d])=eJ j l++cI d.rg.num j d.rq:=by simp[eJ]
theorem HR (j:Int):∀l:List xP,(∀d∈l,d.rq.length<=1000)->(eJ j l).length<=1000*l.length
 | [],_=>zXc _
 |d::l,h=>by
  have h1:=aK d.rg.num j d.rq;have h2:=HR j l (λx hx=>h x VK);have h3:=h d zS;have e:eJ j (d::l)=cI d.rg.num j d.rq++eJ j l:=rfl;rw[e,zXb,zXl];omega
theorem zCj (c:Cf) (rf:Bool) (now:Int) (ds:List xP) (j:Int) (hd:ds.length<=1000) (hb:∀d∈ds,eU d) (A B C D:List AV) (a b e f:Nat):
  zN 113 [YC c rf now (zD zJ ds) (.ref 1012 0 a) (.ref 1013 0 b) (.ref 1014 0 e) (.ref 1015 0 f),iA j] [(1012,.arr 5 A false),(1013,.arr 3 B false),(1014,.arr 1 C false),(1015,.arr 4 D false)] (zD dL (eJ j ds)) [(1012,.arr 5 A false),(1013,.arr 3 B false),(1014,.arr 1 C false),(1015,.arr 4 D false)]:=by
 have hl:=zA zJ ds;unfold YC;refine eM call113 λF hF=>?_
 refine WW ?_;refine xG 5 1001 5 rfl rfl rfl ?_;refine yB (ds) [1001,1012,1013,1014,1015] [1012,1013,1014,1015] [1,9,10] [5,11,1,9,10] rfl (λi pre T U=>⟨(5,.ref 1001 0 ((eJ j pre).map dL).length)::(11,iA i)::T,(1001,.arr 5 ((eJ j pre).map dL) true)::U⟩) ?_;(conv=>whnf);refine⟨by rfl,?_,?_⟩
 ·intro i pre x post hx hi;have hy:=yP zJ hx hi;have hlt:=yF hx hi;have hbx:=hb x (xV hx);have kx:=zCh x.rq x.rg.num j hbx.q hbx.g;have hq:=HR j pre (λd hd=>(hb d (by rw[hx];simp[hd])).q);have hql:((eJ j pre).map dL).length=(eJ j pre).length:=zXa ..;have hq2:=aK x.rg.num j x.rq;have hq3:((cI x.rg.num j x.rq).map dL).length=(cI x.rg.num j x.rq).length:=zXa ..;have hpl:pre.length<=ds.length:=by rw[hx];simp
  have hxq:=hbx.q;rw[zCi,zXf];clear hx;generalize (eJ j pre).map dL=X at *;unfold zD at kx;generalize cI x.rg.num j x.rq=Y at *;unfold zJ wL at hy;refine zU kx ?_;rfl
 ·(refine WW ?_)
  exact zH [1012,1013,1014,1015] rfl rfl (zX7 (AV.sl false) zXe) rfl
theorem HS (a:Ag) (h:1<=a.ses/\a.ses<=2):zN 115 [vH a] [] (iA a.ses) []:=by
 refine eM call115 λF hF=>?_
 refine WW ?_;refine zH [] rfl rfl (zX7 iA ?_) rfl;omega
def plA (a k s:Nat):AV:= .agg [iA a,iA k,iA s]
def zCk (c:Cf) (a:Nat):List (Nat×xN):=[(1103,.box [iA a]),(1104,.box [zD wP c.js,zD vH c.ags,iA c.per,iA c.cap,iA c.hold,iA c.lock])]
def LH (c:Cf) (a:Nat):List (List AV):=(List.range (c.ags.getD a default).ses.toNat).map λk=>[plA a k ((jM c.ags a).toNat+k)]
theorem zAm (c:Cf) (a:Nat):zN 65 [wT c,iA a] [] (.fn 114 [.ptr 1104 0 0,.ptr 1103 0 0]) (zCk c a):=by
 unfold wT zCk;refine eM call65 λF hF=>?_
 repeat' (first|(refine zE ?_;first|refine uG (kX (v:=AV.agg _) 1104 rfl rfl) rfl rfl rfl ?_|refine uG (kX (v:=AV.s _) 1103 rfl rfl) rfl rfl rfl ?_|refine vK tok rfl rfl ?_|refine qC ?_)|(first|refine xS ?_|refine yZ ?_|refine vA rfl ?_|refine zX rfl ?_|refine zQ rfl ?_|refine xJ rfl (λhc=>?_) (λhc=>?_)|refine yX ?_|refine yU ?_|refine xA ?_|refine yS ?_))
 exact zL [1103,1104] rfl rfl rfl rfl
theorem zEk (c:Cf) (h:IW c.ags) (a:Nat) (ha:a<c.ags.length):YA prog 114 [.ptr 1104 0 0,.ptr 1103 0 0] (zCk c a) (LH c a):=by
 have hl:=zA vH c.ags;have hn:=h.1;have hs:=h.at ha;refine bP func114 rfl (λargs w=>call114 args w) rfl rfl rfl (λF y hro hit hY=>?_);unfold zCk;have htl:((c.ags.take (a:Int).toNat).map vH).length=a:=by rw[zXa,zXw];omega
 have hts:∀i,i<=a->jM (c.ags.take a) i=jM c.ags i:=λi=>by
  induction i with
  |zero=>intro _;rfl
  |succ i ih=>
   intro hi;unfold jM;rw[ih zB,zXh,zYx,zW9 zB,<-zXh]
 refine WW ?_;refine zP (a) [1103,1104] [1103,1104] [0,1,2,11,12] [4,13,1000000,0,1,2,11,12] rfl (λi T U=>⟨(4,iA (jM c.ags i))::(13,iA i)::(1000000,.gh 0)::T,U⟩) ?_;(conv=>whnf);refine⟨by rfl,?_,?_⟩
 ·intro i hi
  have hy:((c.ags.take (a:Int).toNat).map vH)[i]? =some (vH (c.ags.getD i default)):=by
   show((c.ags.take a).map vH)[i]? =_
   rw[zXd,zYx,zW9 hi,zXh,zXr zB];rfl
  have h2:=h.at (i:=i) zB;have hb:=kY h i zB;have kc:=HS (c.ags.getD i default) h2;rw[show jM c.ags (i+1)=jM c.ags i+(c.ags.getD i default).ses from rfl];clear hts hs hY;generalize jM c.ags i=z at *;generalize c.ags.getD i default=g at *;refine zU kc ?_;rfl
 ·have hy:=zM vH c.ags a ha;have kc:=HS (c.ags.getD a default) hs;have hb:=kY h a zB;obtain⟨bs,hbs⟩:∃bs:Nat,jM c.ags a=(bs:Int):=⟨(jM c.ags a).toNat,zB⟩;obtain⟨N,hN⟩:∃N:Nat,(c.ags.getD a default).ses=(N:Int):=⟨(c.ags.getD a default).ses.toNat,zB⟩;have hL:LH c a=(List.range N).map λk=>[plA a k (bs+k)]:=by unfold LH;rw[hbs,hN];rfl
  rw[hbs]at hb⊢;rw[hN]at kc hs;rw[hL]at hY⊢;clear hL hN hts;generalize c.ags.getD a default=g at *;refine zU kc ?_;refine zP (N) [1103,1104] [1103,1104] [0,2,4,27] [28,1000000,0,2,4,27] rfl (λi T U=>⟨(28,iA i)::(1000000,.gh i)::T,U⟩) ?_;(conv=>whnf);refine⟨by rfl,?_,?_⟩
  ·intro k hk
   have hys:((List.range N).map λk=>[plA a k (bs+k)])[k]? =some [plA a k (bs+k)]:=by
    rw[zXd,zX6 hk];rfl
   have hlen:k<((List.range N).map λk=>[plA a k (bs+k)]).length:=by simp;exact hk
   rw[show plA a k (bs+k)= .agg [iA (a:Int),iA (k:Int),iA ((bs:Int)+k)]from by unfold plA;rw[show((bs+k:Nat):Int)=(bs:Int)+k by omega]]at hys;generalize ((List.range N).map λk=>[plA a k (bs+k)])=xs at*
   (repeat' (first|refine qA ?_|refine xQ (λhc=>?_) (λhc=>?_)|refine wD (λhc=>?_)|(refine zE ?_;refine wB ?_;first|(refine ZE ?_;refine RO hit hY rfl rfl hys rfl rfl rfl ?_ ?_))|(refine zE ?_;first|refine SM ?_)|fail))
   ·rfl
   ·exact cS rfl (.inr zB)
  ·(refine WW ?_)
   exact ZF rfl (.inl zS)
end Av
end Go.Proofs.YtmamjhmoegjapaaGreat
