/- Part 25. -/
import Derived.Test.YteajjdidebfcjaaGreatN24
namespace Go.Proofs.YteajjdidebfcjaaGreat
namespace Av
open Tryz
set_option linter.all false
set_option maxRecDepth 4000
set_option maxHeartbeats 1000000
def zAq (l:List Li) (hl:l.length<=1073741824):zO 187 [zD vG l] [] (.ref 1001 0 (l.map vG).length) [(1001,.arr 2 (l.map vG) false)]:=by
 have hll:=zA vG l;refine eM call187 λF hF=>?_
 refine yY 0 Z (λcap hx=>?_) ?_
 ·have:l=[]:=by simpa using hx
  subst this
  (repeat' (first|refine WZN ?_|((first|apply xE|apply xV)<;>intro hc)|fail))
  refine uL 2 1001 2 Z Z Z (yZ ?_);exact zK [1001] Z Z Z Z
 ·repeat' (first|(refine zE ?_;first|refine vV tok Z Z ?_|(refine wO ?_;refine wK (xK tok (.inl ⟨rfl,rfl⟩) Z Z Z Z) Z ?_)|(refine yR ?_;refine qA (nw:=[1001]) (yJ tok 1001 (xs:=[]) Z Z Z Z Z Z Z Z Z) Z Z Z ?_)|(refine yM ?_;refine wJ tok Z Z Z Z Z Z Z (yV _ _ (λ_=>rfl)) Z Z Z zB Z ?_)|refine qR ?_)|(first|refine xT ?_|refine xI ?_|refine vJ Z ?_|refine zZ Z ?_|refine zV Z ?_|refine xQ Z (λhc=>?_) λhc=>?_|refine xD ?_|refine yZ ?_|refine xJ ?_|refine yX ?_))
  exact zK [1001] Z Z Z Z
def DA (l:List Int) (hl:l.length<=1073741824):zO 91 [zD iA l] [] (.ref 1002 0 (l.map iA).length) [(1002,.arr 1 (l.map iA) false)]:=by
 have hll:=zA iA l;refine eM call91 λF hF=>?_
 refine yY 0 Z (λcap hx=>?_) ?_
 ·have:l=[]:=by simpa using hx
  subst this
  (repeat' (first|refine WZN ?_|((first|apply xE|apply xV)<;>intro hc)|fail))
  refine uL 2 1002 1 Z Z Z (yZ ?_);exact zK [1002] Z Z Z Z
 ·repeat' (first|(refine zE ?_;first|refine vV tok Z Z ?_|(refine wO ?_;refine wK (xK tok (.inl ⟨rfl,rfl⟩) Z Z Z Z) Z ?_)|(refine yR ?_;refine qA (nw:=[1002]) (yJ tok 1002 (xs:=[]) Z Z Z Z Z Z Z Z Z) Z Z Z ?_)|(refine yM ?_;refine wJ tok Z Z Z Z Z Z Z (yV _ _ (λ_=>rfl)) Z Z Z zB Z ?_)|refine qR ?_)|(first|refine xT ?_|refine xI ?_|refine vJ Z ?_|refine zZ Z ?_|refine zV Z ?_|refine xQ Z (λhc=>?_) λhc=>?_|refine xD ?_|refine yZ ?_|refine xJ ?_|refine yX ?_))
  exact zK [1002] Z Z Z Z
def AY (j:Jn) (c:Ct) (t:Int) (i:Nat):List Li:=(List.range j.ph.length).map λp=>if p<i then FE (yP j p) (xN c p) (FG j c t p)else xN c p
def zDc (j:Jn) (c:Ct) (t:Int) (i:Nat):(AY j c t i).length=j.ph.length:=by simp[AY]
def zJo {j:Jn} {c:Ct} (hc:c.li.length=j.ph.length) (t:Int):AY j c t 0=c.li:=by
 unfold AY;apply yCs;intro p;rw[yBh];by_cases h:p<j.ph.length
 ·rw[yCe h];simp[xN,List.getD,hc,h]
 ·rw[yB6 wU,yB6 zB];rfl
def zPm (j:Jn) (c:Ct) (t:Int):AY j c t j.ph.length=aR j c t:=by
 unfold AY aR;apply yEt;intro p hp;rw[yBz]at hp;rw[yBd hp]
def zJp (j:Jn) (c:Ct) (t:Int) (i:Nat):AY j c t (i+1)=(AY j c t i).set i (FE (yP j i) (xN c i) (FG j c t i)):=by
 unfold AY;apply yCs;intro p;rw[yDe,yBh,yBh];by_cases h:p<j.ph.length
 ·rw[yCe h];by_cases hs:i=p
  ·subst hs;simp[h]
  ·rw[yBc hs];by_cases hp:p<i
   ·simp[hp,show p<i+1 by omega]
   ·simp[hp,show¬p<i+1 by omega]
 ·rw[yB6 wU]
  split<;>simp;omega
def zYm {p:Ph} {l:Li} (h:TA p l=true) (hy:p.yel<=60) (hr:p.red<=60):0<=l.tk/\l.tk<=1073741824:=by
 unfold TA at h;split at h
 ·rw[yBi]at h;omega
 split at h
 ·rw[yBi]at h;omega
 split at h
 ·rw[yBi]at h;omega
 split at h
 ·rw[yBi]at h;omega
 ·cases h
def zJq {P:Program} {K0:List Nat} {F:Fr K0} {m:Nat} {ops:Array Oper} {rest:List Oper} {Q:List FP->St->Prop} {dr:Bool} {fs:List FP} {ty T:Nat} {pos:String} {after:Array Edge} {st:St} (hk:zX P F m ops dr (⟨some 7,.alloc T,ty,pos,after,none⟩::rest) st fs Q):zX P F m ops dr (⟨some 7,.alloc T,ty,pos,after,none⟩::rest) st fs Q:=hk
theorem zVa (j:Jn) (J:JV j) (c:Ct) (C:CV j c) (t:Int):zO 230 [wE j,ctA c,iA t] [] (ctA (bU j c t)) []:=by
 have hn:=J.n;have hjc:=J.c;have hcn:=C.n;have hcm:=C.m;have hcw:=C.w;have hst:=J.st;have hlp:=zA wT j.ph;have hll:(c.li.map vG).length=j.ph.length:=by rw[yBe];exact hcn
 have hln:(c.nx.map iA).length=2:=by rw[yBe];exact hcm
 have k1:=SI j J;have k2:=zPw j J.b c;rw[zVq J C]at k2;have k3:=zAq c.li zB;have k4:=DA c.nx zB;unfold bU;by_cases hw:0<c.wt
 ·rw[yBd hw];refine eM call230 λF hF=>?_
  refine yS (vH k1 k2) ?_
  repeat' (first|(refine zE ?_;first|(refine zJq ?_;refine qA (nw:=[3000]) (ZT tok 3000 Z Z) Z Z Z ?_)|refine vV tok Z Z ?_|(refine wA ?_;(first|(refine uF 187 ?_;first|refine wK (zL (k3) Z Z Z Z Z) Z ?_|refine qA (zL (k3) Z Z Z Z Z) Z Z Z ?_|refine XZ (zL (k3) Z Z Z Z Z) Z Z Z ?_)|(refine uF 91 ?_;first|refine wK (zL (k4) Z Z Z Z Z) Z ?_|refine qA (zL (k4) Z Z Z Z Z) Z Z Z ?_|refine XZ (zL (k4) Z Z Z Z Z) Z Z Z ?_)))|(refine XN ?_;refine VM tok Z Z Z ?_)|refine HF TM ?_|refine qR ?_)|first|refine SQ ?_|fail)
  refine WW ?_;exact zH [] Z Z (aQ ⟨c.li,c.gr,c.nx,c.wt-1⟩) Z
 rw[yBc hw];have h0:c.wt=0:=by omega
 have CL:=zDj J C h0 t;have ls0:=zJo hcn t;have lsE:=zPm j c t;rw[hll]at k3;have hN:∀i,((AY j c t i).map vG).length=j.ph.length:=λi=>by rw[yBe];exact zDc j c t i
 refine eM call230 λF hF=>?_
 refine yS (vH k1 k2) ?_
 repeat' (first|(refine zE ?_;first|(refine zJq ?_;refine qA (nw:=[3000]) (ZT tok 3000 Z Z) Z Z Z ?_)|refine vV tok Z Z ?_|(refine wA ?_;(first|(refine uF 187 ?_;first|refine wK (zL (k3) Z Z Z Z Z) Z ?_|refine qA (zL (k3) Z Z Z Z Z) Z Z Z ?_|refine XZ (zL (k3) Z Z Z Z Z) Z Z Z ?_)|(refine uF 91 ?_;first|refine wK (zL (k4) Z Z Z Z Z) Z ?_|refine qA (zL (k4) Z Z Z Z Z) Z Z Z ?_|refine XZ (zL (k4) Z Z Z Z Z) Z Z Z ?_)))|(refine XN ?_;refine VM tok Z Z Z ?_)|refine HF TM ?_|refine qR ?_)|first|refine SQ ?_|fail)
 (repeat' (first|refine WZB ?_|((first|apply xE|apply xV)<;>intro hc)|(refine zE ?_;first|refine SM ?_)|fail))
 refine zV Z (xD ?_);refine xT ?_;refine UF [3000,1001,1002,3,4,6] [2,3,4,6,7,8] ⟨[(2,iA t),(3,.ptr 3 0 0),(4,.ptr 4 0 0),(6,.ptr 6 0 0),(7,.ptr 3000 0 0),(8,bA (TB j t))],[(3000,.box [.ref 1001 0 j.ph.length,iA c.gr,.ref 1002 0 (c.nx.map iA).length,iA c.wt]),(1001,.arr 2 (c.li.map vG) false),(1002,.arr 1 (c.nx.map iA) false),(3,.box [zD wT j.ph,zD iA j.cf,iA j.st]),(4,.box [zD vG c.li,iA c.gr,zD iA c.nx,iA c.wt]),(6,.box [.s (.slice none 0 0),iA 0,.s (.slice none 0 0),iA 0])]⟩ rfl ?_ ?_
 ·clear k1 k2 k3 k4 CL;by_cases a1:0<=t
  ·by_cases a2:t<j.ph.length
   ·rw[show TB j t=true from yBk ⟨a1,a2⟩];refine WW ?_;exact⟨rfl,rfl⟩
   ·rw[show TB j t=false from yBm (λh=>a2 h.2)];refine WW ?_;exact⟨rfl,rfl⟩
  ·rw[show TB j t=false from yBm (λh=>a1 h.1)];refine WW ?_;exact⟨rfl,rfl⟩
 clear k1 k2 k3 k4;refine WW ?_;refine zN (j.ph.length) [1001,3,4,6,3000,1002] [3,4,6,3000,1002] [2,3,4,6,7,8,51,52] [53,2,3,4,6,7,8,51,52] Z (λi T U=>⟨(53,iA i)::T,(1001,.arr 2 ((AY j c t i).map vG) false)::U⟩) ?_;(conv=>whnf);refine⟨by(rw[ls0];rfl),?_,?_⟩
 ·intro i hi;have hy:=zM wT j.ph i hi
  change (j.ph.map wT)[i]? =some (wT (yP j i))at hy
  have hyl:=zM vG c.li i zB
  change (c.li.map vG)[i]? =some (vG (xN c i))at hyl
  have hym:∃l,((AY j c t i).map vG)[i]? =some (vG l):=⟨_,zM vG (AY j c t i) i (by rw[zDc];exact hi)⟩;obtain⟨lm,hym⟩:=hym;have hti:=J.ti i hi;have htk:=zYm (C.k i hi) zB zB;have hph:PhB (yP j i):=⟨zB,zB,zB,zB⟩;have hNi:=hN i;have ls:=λlv=>zPu (yP j i) hph (xN c i) zB lv
  have ck:=jU j.cf zB i t;have es:=zJp j c t i;have em:(AY j c t (i+1)).map vG=((AY j c t i).map vG).set i (vG (FE (yP j i) (xN c i) (FG j c t i))):=by rw[es,yDa]
  rw[em];have elv:FG j c t i=_:=rfl
  conv at elv=>rhs;unfold FG
  have lsv:=ls (FG j c t i);clear ls es em CL hN ls0 lsE;generalize FE (yP j i) (xN c i) (FG j c t i)=ln at *;generalize (AY j c t i).map vG=xs at *;generalize FG j c t i=lv at *;generalize jQ j.cf i t=cq at*
  cases ha:TB j t with
  |false=>
   rw[ha]at elv;rw[yBc xO]at elv;generalize yP j i=ph at *;generalize xN c i=l at *;by_cases hm:ph.maxg<=l.tk+1
   ·rw[yBk hm]at elv;subst elv;refine zW lsv ?_;rfl
   ·rw[yBm hm]at elv;subst elv;refine zW lsv ?_;rfl
  | true=>
   rw[ha]at elv;rw[yBd Z]at elv;generalize yP j i=ph at *;generalize xN c i=l at *;by_cases hpt:(i:Int)=t
   ·rw[yBm (λh=>h hpt)]at elv;rw[yC4]at elv;subst elv;by_cases hm:ph.maxg<=l.tk+1
    ·(refine zW lsv ?_)
     rfl
    ·(refine zW lsv ?_)
     rfl
   rw[yBk hpt,yB2]at elv;by_cases hm:ph.maxg<=l.tk+1
   ·rw[yBk hm,yE2]at elv;subst elv;refine zW lsv ?_;rfl
   ·rw[yBm hm,yEv]at elv;rw[elv]at lsv;clear elv
    cases cq with
    |true=>
     refine yS (vH ck lsv) ?_;rfl
    |false=>
     refine yS (vH ck lsv) ?_;rfl
 ·rw[lsE];have e1:((aR j c t).map vG).length=j.ph.length:=by simp[aR]
  clear lsE ls0 hN
  cases ha:TB j t with
  | true=>
   rw[yBd Z];unfold TB at ha;rw[yBi]at ha;obtain⟨tn,rfl⟩:∃tn:Nat,t=tn:=⟨t.toNat,zB⟩;rw[yB5];have cs:=zPs j J ⟨aR j c tn,c.gr,c.nx,c.wt⟩ CL h0 tn zB;unfold cD at cs;dsimp only at cs;rw[e1]at cs;generalize jL j tn (jL j tn ⟨aR j c tn,c.gr,c.nx,c.wt⟩ 0) 1=c2 at *;generalize (if(jL j tn ⟨aR j c tn,c.gr,c.nx,c.wt⟩ 0).gr=c.gr then(jL j tn ⟨aR j c tn,c.gr,c.nx,c.wt⟩ 0).nx else c.nx)=o at *;generalize (aR j c tn).map vG=xs at *;clear CL
   cases hE:decide (c2.gr≠c.gr)with
   |true=>
    rw[hE,show ctX true c2 o=IC c2 o from Z]at cs;unfold IC at cs;clear hE;refine zW cs ?_;exact zH [] Z Z (aQ c2) Z
   |false=>
    rw[hE,show ctX false c2 o=cD c2 1002 from Z]at cs;unfold cD at cs;clear hE;refine zW cs ?_;exact zH [] Z Z (aQ c2) Z
  | false=>
   rw[yBc xO];have cs:=zPt j J ⟨aR j c t,c.gr,c.nx,c.wt⟩ CL h0;unfold cD at cs;dsimp only at cs;rw[e1]at cs;generalize cyF j ⟨aR j c t,c.gr,c.nx,c.wt⟩=c2 at *;generalize cyO ⟨aR j c t,c.gr,c.nx,c.wt⟩=e at *;generalize (aR j c t).map vG=xs at *;clear CL
   cases e with
   |true=>
    rw[show ctX true c2 c.nx=IC c2 c.nx from Z]at cs;unfold IC at cs;refine zW cs ?_;exact zH [] Z Z (aQ c2) Z
   |false=>
    rw[show ctX false c2 c.nx=cD c2 1002 from Z]at cs;unfold cD at cs;refine zW cs ?_;exact zH [] Z Z (aQ c2) Z
def zJr (j:Jn) (hn:j.ph.length<=1000) (g gr wt:Int) (L:List AV) (nL:Nat):zO 186 [wE j,.ptr 3000 0 0,iA g] [(3000,.box [.ref 1001 0 nL,iA gr,.s (.slice none 0 0),iA wt]),(1001,.arr 2 L false)] (.tup [])
  [(3000,.box [.ref 1001 0 nL,iA g,.ref 2001 0 2,iA wt]),(1001,.arr 2 L false),(2001,.arr 1 [iA (cS j 0 g 0),iA (cS j 1 g 0)] false)]:=by
 have c0:=YX j hn 0 g 0;have c1:=YX j hn 1 g 0;generalize cS j 0 g 0=f0 at *;generalize cS j 1 g 0=f1 at *;obtain⟨N2,hN2⟩:∃n:Nat,n=2:=⟨2,rfl⟩;refine eM call186 λF hF=>?_
 (repeat' (first|refine uC ?_|((first|apply xE|apply xV)<;>intro hc)|(refine zE ?_;first|(refine hH ?_;refine dD 2001 tok Z Z Z Z Z Z Z Z Z Z Z Z Z zB zB Z Z Z ?_))|fail))
 refine zN (N2) [3000,2001,3,1001] [3,1001] [1,2,3] [20,19,1,2,3] Z (λi T U=>⟨(20,iA i)::(19,iA N2)::T,(3000,.box [.ref 1001 0 nL,iA g,.ref 2001 0 N2,iA wt])::(2001,.arr 1 (enN f0 f1 i) false)::U⟩) ?_;(conv=>whnf);refine⟨by(rw[hN2];rfl),?_,?_⟩
 ·intro i hi;have:i=0∨i=1:=by omega
  rcases this with rfl|rfl
  ·have hy:(enN f0 f1 0)[((0:Nat):Int).toNat]? =some (iA 0):=rfl;have hl:(enN f0 f1 0).length=2:=rfl;refine zW c0 ?_;rfl
  ·have hy:(enN f0 f1 1)[((1:Nat):Int).toNat]? =some (iA 0):=rfl;have hl:(enN f0 f1 1).length=2:=rfl;refine zW c1 ?_;rfl
 ·have e2:enN f0 f1 N2=[iA f0,iA f1]:=by rw[hN2];rfl
  rw[e2];refine WW ?_;subst hN2;exact kY [3000,1001,2001] Z Z Z Z
def inF (j:Jn):Ct:=⟨List.replicate j.ph.length ⟨0,0⟩,0,[cS j 0 0 0,cS j 1 0 0],j.st⟩
def zAr (j:Jn) (p:Nat):xN (inF j) p=⟨0,0⟩:=by
 unfold xN inF;simp only[yBl,yC7]
 split<;>rfl
def zJs {j:Jn} (J:JV j):CV j (inF j):=by
 refine⟨by simp[inF],λp hp=>by rw[zAr];rfl,λp q hp hq hpq h1 h2=>by rw[zAr]at h1;exact absurd Z h1,⟨yC8 _,?_⟩,rfl,λr hr=>zTa j (inF j) 0 r hr,⟨J.st.1,yC8 _⟩,.inr λp hp=>by rw[zAr]⟩;have:=QA J
 show(0:Int)<YI j
 omega
def zVb {P:Program} {K0:List Nat} {F:Fr K0} {m:Nat} {ops:Array Oper} {rest:List Oper} {Q:List FP->St->Prop} {dr:Bool} {fs:List FP} {ty T:Nat} {pos:String} {after:Array Edge} {st:St} (hk:zX P F m ops dr (⟨some 3,.alloc T,ty,pos,after,none⟩::rest) st fs Q):zX P F m ops dr (⟨some 3,.alloc T,ty,pos,after,none⟩::rest) st fs Q:=hk
def zVc (j:Jn) (hn:j.ph.length<=1000):zO 145 [wE j] [] (ctA (inF j)) []:=by
 have hlp:=zA wT j.ph;have ce:=zJr j hn 0 0 j.st ((List.replicate j.ph.length (⟨0,0⟩:Li)).map vG) ((List.replicate j.ph.length (⟨0,0⟩:Li)).map vG).length;have eL:(List.replicate j.ph.length (⟨0,0⟩:Li)).map vG=List.replicate j.ph.length (vG ⟨0,0⟩):=yEy;have eN:((List.replicate j.ph.length (⟨0,0⟩:Li)).map vG).length=j.ph.length:=by simp
 rw[eN,eL]at ce;rw[<-hlp]at ce;refine eM call145 λF hF=>?_
 repeat' (first|(refine zE ?_;first|(refine zVb ?_;refine qA (nw:=[3000]) (ZT tok 3000 Z Z) Z Z Z ?_)|refine vV tok Z Z ?_|(refine hH ?_;refine dD 1001 tok Z Z Z Z Z Z Z Z Z Z Z Z Z zB zB Z Z Z ?_)|refine QG tok Z Z Z Z ?_|(refine wA ?_;(first|(refine uF 186 ?_;first|refine wK (zL (ce) Z Z Z Z Z) Z ?_|refine qA (zL (ce) Z Z Z Z Z) Z Z Z ?_|refine XZ (zL (ce) Z Z Z Z Z) Z Z Z ?_)))|(refine XN ?_;refine VM tok Z Z Z ?_)|refine HF TM ?_|refine qR ?_)|first|refine SQ ?_|fail)
 have eF:AV.agg [.sl false ((List.replicate (j.ph.map wT).length (vG ⟨0,0⟩)).take (j.ph.map wT).length),iA 0,.sl false [iA (cS j 0 0 0),iA (cS j 1 0 0)],iA j.st]=ctA (inF j):=by
  rw[yBo zQ,hlp,<-eL];rfl
 exact zH [] Z Z eF Z
def zYn (p:Nat->Bool) {n q:Nat} (hn:n<=8) (hq:q<n):inS (eQ p n) q=p q:=by
 have e:=IG (λi=>decide (i<n)&&p i) n 8 hn (λi h1 h2=>by rw[yBm zB];rfl);have e2:eQ p n=eQ (λi=>decide (i<n)&&p i) n:=cH _ λi hi=>by rw[yBk hi];rfl
 rw[e2,<-e,zKa _ q zB,yBk hq];rfl
theorem zDd (ps:List Ph) (ex:Bool) (i:Nat):∀n,YB ps ex i n=eQ (cnd ps ex i) n
 |0=>rfl
 |n+1=>by
  unfold YB eQ;rw[zDd ps ex i n];have:(2:Int) ^ n=p2 n:=by unfold p2;rw[yB5]
  rw[this]
def zPn (ps:List Ph) (ex:Bool) {p q:Nat} (hn:ps.length<=8) (hp:p<ps.length) (hq:q<ps.length):jQ (gH ps ex ps.length) p q=cnd ps ex p q:=by
 have hl:(gH ps ex ps.length).length=ps.length:=by simp[gH]
 unfold jQ;rw[yBk zB,yB2,yB5]
 have e:(gH ps ex ps.length).getD p default=YB ps ex p ps.length:=by
  unfold gH;simp[List.getD,hp]
 rw[e,zDd];exact zYn _ hn hq
theorem zJt (d:Dk) (l:List (Int×Int)):∀i k,k<i->∃e,(LR d l i).1.getD k default=UJ e (l.getD k default)
 |0,k,h=>absurd h (yDp _)
 |i+1,k,h=>by
  have hl:=VD d l i;unfold LR;by_cases hk:k=i
  ·subst hk;refine⟨(LR d l k).2,?_⟩;simp[List.getD,hl]
  ·obtain⟨e,he⟩:=zJt d l i k zB;refine⟨e,?_⟩;rw[<-he];simp only[yBl];rw[yCi zB]
def ShB (l:List (Int×Int)):Bool:=(l.all λs=>decide (0<=s.1/\s.1<=1/\0<=s.2/\s.2<=3))&&(l.all λs=>[0,1,2].all λg:Int=>decide (s.2<=g)||(l.any λs'=>s'.2==g))
def zJu (n:Int):ShB (qC n)=true:=by
 unfold qC;split
 ·decide
 split
 ·decide
 split
 ·decide
 split
 ·decide
 split
 ·decide
 ·decide
def DB (d:Dk) (s:Int×Int):(UJ d s).ring=s.1/\(UJ d s).group=s.2/\1<=(UJ d s).ming/\(UJ d s).ming<=(UJ d s).maxg/\(UJ d s).maxg<=60/\1<=(UJ d s).yel/\(UJ d s).yel<=60/\0<=(UJ d s).red/\(UJ d s).red<=60/\0<=(UJ d s).walk/\(UJ d s).walk<=60/\0<=(UJ d s).clear/\(UJ d s).clear<=60/\(UJ d s).walk+(UJ d s).clear<=(UJ d s).maxg/\((UJ d s).walk=0↔(UJ d s).clear=0):=by
 have b1:=yC d (3-1+1) zB;have b2:=yC (ad d) (2-1+1) zB;have b3:=yC (ad (ad d)) 3 zB;have b4:=yC (ad (ad (ad (ad d)))) (2-1+1) zB;have b5:=yC (ad (ad (ad (ad (ad d))))) (2-1+1) zB;have b6:=yC (ad (ad (ad (ad (ad (ad d)))))) 4 zB;have b7:=yC (ad (ad (ad (ad d)))) 4 zB;unfold UJ;split
 ·dsimp only;omega
 ·dsimp only;omega
def zS8 (a b:Int):(a==b)=(b==a):=by rw[yFv,yCl,yCl];exact yHm
def zYo (a b:Int):(a != b)=(b != a):=by unfold bne;rw[zS8]
def zYp (a b:Nat):(a != b)=(b != a):=by unfold bne;rw[show(a==b)=(b==a) by rw[yFv,yCl,yCl];exact yHm]
def zVd (d:Dk):JV (jnF d):=by
 have hsl:=PQ (nx d 6);have hsb:=zJu (nx d 6);have hst:=yC (ad d) 3 zB;have hlen:(XA d).1.length=(qC (nx d 6)).length:=VD _ _ _
 have hat:∀k,k<(XA d).1.length->∃e,yP (jnF d) k=UJ e ((qC (nx d 6)).getD k default):=λk hk=>by
  rw[hlen]at hk;exact zJt _ _ _ k hk
 have hph:(jnF d).ph=(XA d).1:=rfl;generalize qC (nx d 6)=sl at *;generalize hex:(nx (XA d).2 4==3)=ex at *;have hcf:(jnF d).cf=gH (XA d).1 ex (XA d).1.length:=by unfold jnF;rw[hex]
 unfold ShB at hsb;simp only[yBq,yBr,yBi,yDo,yCx,yCl]at hsb
 have hmem:∀k,k<(XA d).1.length->sl.getD k default∈sl:=λk hk=>by
  rw[hlen]at hk;simp[List.getD,hk]
 have hcd:∀p q:Nat,p<(XA d).1.length->q<(XA d).1.length->jQ (jnF d).cf p q=cnd (XA d).1 ex p q:=λp q hp hq=>by
  rw[hcf];exact zPn _ _ zB hp hq
 have hc1:(jnF d).cf.length=(XA d).1.length:=by rw[hcf];simp[gH]
 refine⟨?_,?_,?_,?_,?_,?_,?_,?_,?_,?_,?_⟩
 ·rw[hph];omega
 ·rw[hph];exact hc1
 ·intro i hi;rw[hph]at hi⊢
  have e:(jnF d).cf.getD i default=YB (XA d).1 ex i (XA d).1.length:=by
   rw[hcf];unfold gH;simp[List.getD,hi]
  rw[e];exact QC _ _ _ _
 ·intro p hp;rw[hph]at hp;rw[hcd p p hp hp];unfold cnd;simp
 ·intro p q hp hq;rw[hph]at hp hq;rw[hcd p q hp hq,hcd q p hq hp];unfold cnd;rw[zYp p q,zS8 ((XA d).1.getD p default).ring,zYo ((XA d).1.getD p default).group,show((p:Int)+q)=((q:Int)+p) by omega]
 ·intro p q hp hq hpq h;rw[hph]at hp hq;rw[hcd p q hp hq];unfold cnd;rw[show(p != q)=true by simpa using hpq,yB2]
  rcases h with h|h
  ·rw[show(((XA d).1.getD p default).ring==((XA d).1.getD q default).ring)=true from yCl.2 h];rfl
  ·rw[show(((XA d).1.getD p default).group != ((XA d).1.getD q default).group)=true from yDm.2 h];simp
 ·intro p hp;obtain⟨e,he⟩:=hat p hp;rw[he,(DB e _).1];have:=hsb.1 _ (hmem p hp);omega
 ·intro p hp;obtain⟨e,he⟩:=hat p hp;rw[he,(DB e _).2.1];have:=hsb.1 _ (hmem p hp);omega
 ·intro p hp;obtain⟨e,he⟩:=hat p hp;rw[he];exact(DB e _).2.2
 ·intro p hp g hg0 hg;obtain⟨e,he⟩:=hat p hp;rw[he,(DB e _).2.1]at hg;have h3:=hsb.1 _ (hmem p hp)
  have hgm:g∈([0,1,2]:List Int):=by
   have:g=0∨g=1∨g=2:=by omega
   rcases this with rfl|rfl|rfl<;>simp
  rcases hsb.2 _ (hmem p hp) g hgm with h|⟨s,hs,hsg⟩
  ·omega
  ·obtain⟨q,hq,hqs⟩:=yDn hs;refine⟨q,by rw[hph,hlen];exact hq,?_⟩;obtain⟨e2,he2⟩:=hat q (by rw[hlen];exact hq);rw[he2,(DB e2 _).2.1];have:sl.getD q default=s:=by rw[<-hqs];simp[List.getD,hq]
   rw[this];exact hsg
 ·show 0<=nx (ad d) 3/\nx (ad d) 3<=60
  omega
def UX (j:Jn) (c:Ct) (t:Int):Nat->Ct
 |0=>c
 |k+1=>bU j (UX j c t k) t
theorem zDe {j:Jn} (J:JV j) {c:Ct} (C:CV j c) (t:Int):∀k,CV j (UX j c t k)
 |0=>C
 |k+1=>zDk J (zDe J C t k) t
def nrB (a:Int):Bool:=decide (a=1∨a=2)
def aO (a:Int):zO 259 [iA a] [] (bA (nrB a)) []:=by
 unfold nrB
 (cases hb:decide (a=1∨a=2)with|false=>((refine eM call259 λF hF=>?_);((refine WW (I2 (λhc=>?_) λhc=>?_)));all_goals (first|exact zJ|(simp only[nrB,yBx]at hb;first|exact zXO|exact zFB)))|true=>(simp only[nrB,yBi]at hb;(refine eM call259 λF hF=>?_);((refine WW (I2 (λhc=>?_) λhc=>?_)));all_goals (first|exact zJ|exact zXO|exact zFB)))
def snF (li:List Li) (k:Int) (p:Nat):Int:=if(p:Int)=k then 1 else(li.getD p default).lamp
def SH (li:List Li) (k:Int):List Int:=(List.range li.length).map (snF li k)
def zJv (li:List Li) (k:Int):(SH li k).length=li.length:=by simp[SH]
def zJw (f:Nat->Int) (n i:Nat) (h:i<n) (x:Int) (hx:x=f i):(((List.range i).map f++List.replicate (n-i) 0).map iA).set i (iA x)=((List.range (i+1)).map f++List.replicate (n-(i+1)) 0).map iA:=by
 subst hx;rw[<-yDa,show n-i=(n-(i+1))+1 by omega,yE5,yEa _ _ zQ,yBe,yCy,yDh,yFx,yDs];simp
def DC (f:Nat->Int) (n i:Nat) (h:i<=n):(((List.range i).map f++List.replicate (n-i) 0).map iA).length=n:=by
 simp;omega
def zPo (f:Nat->Int) (n i:Nat) (h:i<n):(((List.range i).map f++List.replicate (n-i) 0).map iA)[i]? =some (iA 0):=by
 simp[show 0<n-i by omega]
def zVe (li:List Li) (hn:li.length<=1000) (k:Int):zO 231 [zD vG li,iA k] [] (zD iA (SH li k)) []:=by
 have hl:=zA vG li;have e0:List.replicate li.length (AV.s (.int .i64 0))=((List.range 0).map (snF li k)++List.replicate (li.length-0) 0).map iA:=by simp[iA]
 obtain⟨n,hnn⟩:∃n,li.length=n:=⟨_,rfl⟩;refine eM call231 λF hF=>?_
 refine WW ?_;refine zN (li.length) [10] [] [1,5,11,12] [13,1,5,11,12] Z (λi T U=>⟨(13,iA i)::T,(10,.arr 1 (((List.range i).map (snF li k)++List.replicate (li.length-i) 0).map iA) false)::U⟩) ?_;(conv=>whnf);refine⟨by(rw[<-e0,<-hl];rfl),?_,?_⟩
 ·intro i hi;have hy:=zM vG li i hi;have hfl:=DC (snF li k) li.length i zB;have hfa:=zPo (snF li k) li.length i hi;have hs:=zJw (snF li k) li.length i hi (snF li k i) Z
  have hsd:snF li k i=if(i:Int)=k then 1 else(li.getD i default).lamp:=rfl
  generalize ((List.range i).map (snF li k)++List.replicate (li.length-i) 0).map iA=xs at *;generalize ((List.range (i+1)).map (snF li k)++List.replicate (li.length-(i+1)) 0).map iA=ys at *;generalize snF li k i=v at *;generalize li.getD i default=t at *;rw[<-hs];clear hs e0 hnn;by_cases hk:(i:Int)=k
  ·rw[yBd hk]at hsd;subst hsd;have hfb:(xs.set i (iA t.lamp))[i]? =some (iA t.lamp):=by rw[yC0 zB]
   have hls:(xs.set i (iA t.lamp)).length=li.length:=by simp[hfl]
   rw[<-yGi (iA t.lamp)];refine WW ?_;rfl
  ·rw[yBc hk]at hsd;subst hsd;refine WW ?_;rfl
 ·have hfl:=DC (snF li k) li.length li.length (yBg _)
  have e:zD iA (SH li k)= .sl false ((((List.range li.length).map (snF li k)++List.replicate (li.length-li.length) 0).map iA).take (li.map vG).length):=by
   rw[yBo zB,yDh,yFt,yCd];rfl
  rw[e];clear e e0;generalize ((List.range li.length).map (snF li k)++List.replicate (li.length-li.length) 0).map iA=xs at *;refine WW ?_;exact zJ
def fpB (cf ls:List Int) (p q:Nat):Bool:=nrB (ls.getD p default)&&(nrB (ls.getD q default)&&jQ cf p q)
def fbF (cf ls:List Int):Bool:=(List.range ls.length).any λp=>(List.range ls.length).any λq=>fpB cf ls p q
def zYq {cf ls:List Int} (h:fbF cf ls=false) (p q:Nat) (hp:p<ls.length) (hq:q<ls.length):fpB cf ls p q=false:=by
 unfold fbF at h;rw[yD4]at h;have h1:=h p (yBz.2 hp);rw[yDz,yD4]at h1;have h2:=h1 q (yBz.2 hq)
 rwa [yDz]at h2
def zVf {cf ls:List Int} (h:fbF cf ls=true):∃p q:Nat,p<ls.length/\q<ls.length/\fpB cf ls p q=true/\(∀u,u<p->∀v,v<ls.length->fpB cf ls u v=false)/\(∀v,v<q->fpB cf ls p v=false):=by
 unfold fbF at h;rw[yCx]at h;obtain⟨a,ha,h⟩:=h;rw[yCx]at h;obtain⟨b,hb,h⟩:=h;obtain⟨p,hpa,⟨v,hv,hp⟩,hpm⟩:=LP (P:=λp=>∃v,v<ls.length/\fpB cf ls p v=true) a ⟨b,yBz.1 hb,h⟩;obtain⟨q,hqv,hq,hqm⟩:=LP (P:=λq=>fpB cf ls p q=true) v hp;have:=yBz.1 ha
 exact⟨p,q,zB,zB,hq,λu hu v hv=>by
  have:=hpm u hu
  cases h:fpB cf ls u v with
  |false=>rfl
  |true=>exact absurd ⟨v,hv,h⟩ this,λv hv=>by
  have:=hqm v hv
  rwa [yDz]at this⟩
theorem zVg (cf ls:List Int) (hcf:cf.length<=40) (hn:ls.length<=1000):zO 232 [zD iA cf,zD iA ls] [] (bA (fbF cf ls)) []:=by
 have hl:=zA iA ls
 cases hf:fbF cf ls with
 | false=>
  have hno:=zYq hf;clear hf;refine eM call232 λF hF=>?_
  (repeat' (first|refine WS ?_|refine SG (I2 (λhc=>?_) λhc=>?_)|refine SG λhc=>?_|(refine zE ?_;first|refine SM ?_)|(first|first|refine SR ?_|refine SK (I2 (λhc=>?_) λhc=>?_)|refine SK λhc=>?_|fail|refine vE ?_|refine vF ?_)|fail))
  refine zN (ls.length) [] [] [0,1,10,11] [5,12,0,1,10,11] Z (λi T U=>⟨(5,bA false)::(12,iA i)::T,U⟩) ?_;(conv=>whnf);refine⟨by rfl,?_,?_⟩
  ·intro u hu;have hy:=zM iA ls u hu;have c1:=aO (ls.getD u default);have hnu:=hno u;unfold fpB at hnu;clear hno
   cases hb:nrB (ls.getD u default)with
   |false=>
    rw[hb]at c1;generalize ls.getD u default=a at *;clear hnu;refine zW c1 ?_;rfl
   | true=>
    rw[hb]at c1;generalize ls.getD u default=a at *;refine zW c1 ?_;refine zN (ls.length) [] [] [0,1,6,10,11,12,20,21] [5,22,0,1,6,10,11,12,20,21] Z (λi T U=>⟨(5,bA false)::(22,iA i)::T,U⟩) ?_;(conv=>whnf);refine⟨by rfl,?_,?_⟩
    ·intro v hv;have hyv:=zM iA ls v hv;have c2:=aO (ls.getD v default);have c3:=jU cf hcf u v;have h:=hnu v hu hv;rw[hb,yB2]at h;generalize ls.getD v default=b at *;clear hnu c1
     cases hb2:nrB b with
     |false=>
      rw[hb2]at c2;refine zW c2 ?_;rfl
     |true=>
      rw[hb2,yB2]at h;rw[hb2]at c2;rw[h]at c3;refine yS (vH c2 c3) ?_;rfl
    ·(refine WW ?_)
     rfl
  ·(repeat' (first|refine WS ?_|refine SG (I2 (λhc=>?_) λhc=>?_)|refine SG λhc=>?_|(refine zE ?_;first|refine SM ?_)|(first|first|refine SR ?_|refine SK (I2 (λhc=>?_) λhc=>?_)|refine SK λhc=>?_|fail|refine vE ?_|refine vF ?_)|fail))
   exact zJ
 | true=>
  obtain⟨p,q,hp,hq,hpq,hpm,hqm⟩:=zVf hf;clear hf;have hpp:nrB (ls.getD p default)=true:=by unfold fpB at hpq;rw[yBq]at hpq;exact hpq.1
  have hqq:nrB (ls.getD q default)=true:=by unfold fpB at hpq;rw[yBq,yBq]at hpq;exact hpq.2.1
  have hcc:jQ cf p q=true:=by unfold fpB at hpq;rw[yBq,yBq]at hpq;exact hpq.2.2
  clear hpq;refine eM call232 λF hF=>?_
  (repeat' (first|refine WS ?_|refine SG (I2 (λhc=>?_) λhc=>?_)|refine SG λhc=>?_|(refine zE ?_;first|refine SM ?_)|(first|first|refine SR ?_|refine SK (I2 (λhc=>?_) λhc=>?_)|refine SK λhc=>?_|fail|refine vE ?_|refine vF ?_)|fail))
  refine xR (ls.length) [] [] [0,1,10,11] [5,12,0,1,10,11] Z (λi T U zs=>(i<=p)/\zs=⟨(5,bA false)::(12,iA i)::T,U⟩) ?_;(conv=>whnf);refine⟨?_,?_,?_⟩
  ·exact⟨yBt _,rfl⟩
  ·rintro u st hu ⟨hup,rfl⟩;have hy:=zM iA ls u hu;have c1:=aO (ls.getD u default);by_cases hup2:u=p
   ·subst hup2;rw[hpp]at c1
    have hqm2:∀v,v<q->(nrB (ls.getD v default)&&jQ cf u v)=false:=λv hv=>by
     have h:=hqm v hv;unfold fpB at h;rw[hpp,yB2]at h;exact h
    clear hpm hqm;generalize ls.getD u default=a at *;refine zW c1 ?_;refine xR (ls.length) [] [] [0,1,6,10,11,12,20,21] [5,22,0,1,6,10,11,12,20,21] Z (λi T U zs=>(i<=q)/\zs=⟨(5,bA false)::(22,iA i)::T,U⟩) ?_;(conv=>whnf);refine⟨?_,?_,?_⟩
    ·exact⟨yBt _,rfl⟩
    ·rintro v st hv ⟨hvq,rfl⟩;have hyv:=zM iA ls v hv;have c2:=aO (ls.getD v default);have c3:=jU cf hcf u v;by_cases hvq2:v=q
     ·subst hvq2;rw[hqq]at c2;rw[hcc]at c3;clear hqq hcc hqm2 c1;generalize ls.getD v default=b at*
      (have zc1:=c2;have zc2:=c3;(repeat' (first|refine WS ?_|refine SG (I2 (λhc=>?_) λhc=>?_)|refine SG λhc=>?_|(refine zE ?_;first|refine SM ?_)|(first|first|refine SR ?_|refine SK (I2 (λhc=>?_) λhc=>?_)|refine SK λhc=>?_|fail|refine vE ?_|refine vF ?_)|fail))<;>clear zc1 zc2)
      exact zJ
     ·have h:=hqm2 v zB;clear hqq hcc hqm2 c1;generalize ls.getD v default=b at*
      cases hb2:nrB b with
      |false=>
       rw[hb2]at c2;refine zW c2 ?_;exact⟨zB,rfl⟩
      |true=>
       rw[hb2,yB2]at h;rw[hb2]at c2;rw[h]at c3;refine yS (vH c2 c3) ?_;exact⟨zB,rfl⟩
    ·rintro st ⟨hvq,rfl⟩;exfalso;omega
   ·have hnu:=hpm u zB;unfold fpB at hnu;clear hpp hqq hcc hpm hqm
    cases hb:nrB (ls.getD u default)with
    |false=>
     rw[hb]at c1;generalize ls.getD u default=a at *;clear hnu;refine zW c1 ?_;exact⟨zB,rfl⟩
    | true=>
     rw[hb]at c1;generalize ls.getD u default=a at *;refine zW c1 ?_;refine zN (ls.length) [] [] [0,1,6,10,11,12,20,21] [5,22,0,1,6,10,11,12,20,21] Z (λi T U=>⟨(5,bA false)::(22,iA i)::T,U⟩) ?_;(conv=>whnf);refine⟨by rfl,?_,?_⟩
     ·intro v hv;have hyv:=zM iA ls v hv;have c2:=aO (ls.getD v default);have c3:=jU cf hcf u v;have h:=hnu v hv;rw[hb,yB2]at h;generalize ls.getD v default=b at *;clear hnu c1
      cases hb2:nrB b with
      |false=>
       rw[hb2]at c2;refine zW c2 ?_;rfl
      |true=>
       rw[hb2,yB2]at h;rw[hb2]at c2;rw[h]at c3;refine yS (vH c2 c3) ?_;rfl
     ·(refine WW ?_)
      exact⟨zB,rfl⟩
  ·rintro st ⟨hup,rfl⟩;exfalso;omega
def BgR (j:Jn) (c c':Ct):Prop:=∀q:Nat,q<j.ph.length->xN c' q=xN c q∨((xN c q).lamp=0/\xN c' q=⟨1,0⟩)
theorem BgR.refl (j:Jn) (c:Ct):BgR j c c:=λq _=> .inl Z
theorem BgR.trans {j:Jn} {a b c:Ct} (h:BgR j a b) (g:BgR j b c):BgR j a c:=λq hq=>by
 rcases h q hq with h|⟨h1,h2⟩<;>rcases g q hq with g|⟨g1,g2⟩
 ·exact .inl (g.trans h)
 ·exact .inr ⟨by rw[<-h];exact g1,g2⟩
 ·exact .inr ⟨h1,g.trans h2⟩
 ·rw[h2]at g1;exact absurd g1 xO
def JZ {j:Jn} {c:Ct} (hc:c.li.length=j.ph.length) {p:Nat} (hp:p<j.ph.length) (q:Nat):xN (kZ j c p) q=xN c q∨(q=p/\xN (kZ j c p) q=⟨1,0⟩):=by
 rcases fK j c p with h|⟨hk,_⟩
 ·rw[h.2];exact .inl Z
 ·have hli:xN (kZ j c p) q=if q=p then⟨1,0⟩else xN c q:=by
   unfold kZ;rw[yBc zD8]
   have:(ME j c p).li=c.li.set p ⟨1,0⟩:=by unfold ME;split<;>rfl
   unfold xN;dsimp only;rw[this];exact IE c p q _ 0 [] 0 zB
  rw[hli];by_cases e:q=p
  ·rw[yBd e];exact .inr ⟨e,rfl⟩
  ·rw[yBc e];exact .inl Z
def zJx {j:Jn} {c:Ct} {r:Int} {p:Nat} (h:FF j c r=true) (hp:p<j.ph.length) (hr:(yP j p).ring=r):(xN c p).lamp=0:=by
 unfold FF at h;rw[yBr]at h;simpa using h p (dN.2 ⟨hp,hr⟩)
def zJy {j:Jn} {c:Ct} (hc:c.li.length=j.ph.length) {p:Nat} (hp:p<j.ph.length) (h0:(xN c p).lamp=0):BgR j c (kZ j c p):=λq hq=>by
 rcases JZ hc hp q with h|⟨rfl,h⟩
 ·exact .inl h
 ·exact .inr ⟨h0,h⟩
def zS9 {j:Jn} {c:Ct} (C:CV j c) {t:Nat} (ht:t<j.ph.length) (r:Int):BgR j c (jL j t c r):=by
 unfold jL;split
 ·rename_i hd;split
  ·exact BgR.refl j c
  ·rename_i h
   rcases DG (j:=j) (c:=c) (r:=r) ht with h1|⟨p,h1,h2,h3⟩
   ·exact absurd h1 h
   ·rw[h1,yB5];exact zJy C.n h2 (zJx hd h2 h3)
 ·exact BgR.refl j c
def zJz {j:Jn} {c:Ct} (C:CV j c) {r:Nat} (hr:r<2):BgR j c (dJ j c r):=by
 unfold dJ;split
 ·rename_i h;rw[yB5]at h⊢
  rcases C.v r hr with h1|h1
  ·exact absurd h1 h.2
  ·obtain⟨a,b,d,_⟩:=h1;exact zJy C.n zB (zJx h.1 zB d)
 ·exact BgR.refl j c
def zYr {j:Jn} (J:JV j) {c:Ct} (C:CV j c) (t:Int) (p:Nat) (hp:p<j.ph.length):(xN (bU j c t) p=xN c p/\(xN c p).lamp=0)∨xN (bU j c t) p=FE (yP j p) (xN c p) (FG j c t p)∨((FE (yP j p) (xN c p) (FG j c t p)).lamp=0/\xN (bU j c t) p=⟨1,0⟩):=by
 unfold bU;split
 ·rename_i hw
  rcases C.z with h|h
  ·omega
  ·exact .inl ⟨rfl,h p hp⟩
 ·have h0:c.wt=0:=by have:=C.w;omega
  have L:=zDj J C h0 t
  have fin:∀c',BgR j ⟨aR j c t,c.gr,c.nx,c.wt⟩ c'->(xN c' p=FE (yP j p) (xN c p) (FG j c t p)∨((FE (yP j p) (xN c p) (FG j c t p)).lamp=0/\xN c' p=⟨1,0⟩)):=λc' h=>by
   have:=h p hp;rw[DH _ _ _ _ _ hp]at this;exact this
  split
  ·rename_i h;unfold TB at h;rw[yBi]at h;have h1:=LO J L h0 (t:=t.toNat) zB 0;exact .inr (fin _ ((zS9 L zB 0).trans (zS9 h1.1 zB 1)))
  ·unfold cyF
   have h1:CV j (if cyO ⟨aR j c t,c.gr,c.nx,c.wt⟩=true then etF j ⟨aR j c t,c.gr,c.nx,c.wt⟩ ((c.gr+1) % YI j)else⟨aR j c t,c.gr,c.nx,c.wt⟩)/\(if cyO ⟨aR j c t,c.gr,c.nx,c.wt⟩=true then etF j ⟨aR j c t,c.gr,c.nx,c.wt⟩ ((c.gr+1) % YI j)else⟨aR j c t,c.gr,c.nx,c.wt⟩).wt=0/\BgR j ⟨aR j c t,c.gr,c.nx,c.wt⟩ (if cyO ⟨aR j c t,c.gr,c.nx,c.wt⟩=true then etF j ⟨aR j c t,c.gr,c.nx,c.wt⟩ ((c.gr+1) % YI j)else⟨aR j c t,c.gr,c.nx,c.wt⟩):=by
    split
    ·have hp:=QA J;exact⟨zDi L ⟨yEq _ zB,yEf _ zB⟩,h0,λq _=> .inl Z⟩
    ·exact⟨L,h0,BgR.refl _ _⟩
   have h2:=PO J h1.1 h1.2.1 (r:=0) zB;exact .inr (fin _ ((h1.2.2.trans (zJz h1.1 (r:=0) zB)).trans (zJz h2.1 (r:=1) zB)))
structure Sg where
 c:Ct
 lat:Bool
def wY (s:Sg):AV:= .agg [zD vG s.c.li,iA s.c.gr,zD iA s.c.nx,iA s.c.wt,bA s.lat]
def jT (j:Jn):Sg:=⟨inF j,false⟩
def AZ (j:Jn) (s:Sg) (t k:Int):Sg:=if s.lat=true then s else⟨bU j s.c t,fbF j.cf (SH (bU j s.c t).li k)⟩
def srF (j:Jn) (s:Sg):Sg:=if s.lat=true then jT j else s
def DD {α:Type} (f:α->AV) (l:List α):AV.sl false ((l.map f).take (l.map f).length)=zD f l:=by rw[yBj];rfl
def LM (l:List Int) (hl:l.length<=1073741824):zO 91 [zD iA l] [] (zD iA l) []:=by
 have hll:=zA iA l;refine eM call91 λF hF=>?_
 refine yY 0 Z (λcap hx=>?_) ?_
 ·have:l=[]:=by simpa using hx
  subst this;refine WW ?_;exact zJ
 ·(refine WW ?_)
  refine zH [] Z Z (DD _ _) Z
def LN (l:List Li) (hl:l.length<=1073741824):zO 187 [zD vG l] [] (zD vG l) []:=by
 have hll:=zA vG l;refine eM call187 λF hF=>?_
 refine yY 0 Z (λcap hx=>?_) ?_
 ·have:l=[]:=by simpa using hx
  subst this;refine WW ?_;exact zJ
 ·(refine WW ?_)
  refine zH [] Z Z (DD _ _) Z
def DE (s:Sg) (h1:s.c.li.length<=1073741824) (h2:s.c.nx.length<=1073741824):zO 189 [wY s] [] (wY s) []:=by
 have c1:=LN s.c.li h1;have c2:=LM s.c.nx h2;refine eM call189 λF hF=>?_
 refine yS (vH c1 c2) ?_;exact zJ
def zJ0 (j:Jn) (J:JV j):zO 112 [wE j] [] (wY (jT j)) []:=by
 have c1:=zVc j KD;unfold jT;generalize inF j=c at *;refine eM call112 λF hF=>?_
 refine zW c1 ?_;exact zJ
def zPp (j:Jn) (J:JV j) (s:Sg) (C:CV j s.c) (t k:Int):zO 214 [wE j,wY s,iA t,iA k] [] (wY (AZ j s t k)) []:=by
 have hJ:=J.n;have hc:=J.c;have hn:=C.n;have hm:=C.m;have c0:=DE s zB zB;have c1:=zVa j J s.c C t;have C1:=zDk J C t;have c2:=zVe (bU j s.c t).li (by have:=C1.n;omega) k;have c3:=zVg j.cf (SH (bU j s.c t).li k) zB (by rw[zJv];have:=C1.n;omega);unfold AZ;generalize fbF j.cf (SH (bU j s.c t).li k)=f at *;generalize SH (bU j s.c t).li k=ls at *;generalize bU j s.c t=c at *;obtain⟨sc,lat⟩:=s
 cases lat with
 |true=>
  rw[yBd Z];refine eM call214 λF hF=>?_
  refine zW c0 ?_;exact zJ
 |false=>
  rw[yBc yBw];refine eM call214 λF hF=>?_
  refine yS (gW c1 c2 c3) ?_;exact zJ
def zJ1 (j:Jn) (J:JV j) (s:Sg) (h1:s.c.li.length<=1073741824) (h2:s.c.nx.length<=1073741824):zO 154 [wE j,wY s] [] (.tup [wY (srF j s),bA s.lat]) []:=by
 have c0:=DE s h1 h2;have c1:=zJ0 j J;unfold srF;generalize jT j=z at *;obtain⟨sc,lat⟩:=s
 cases lat with
 |true=>
  rw[yBd Z];refine eM call154 λF hF=>?_
  refine zW c1 ?_;exact zJ
 |false=>
  rw[yBc yBw];refine eM call154 λF hF=>?_
  refine zW c0 ?_;exact zJ
def ph0:Ph:=⟨0,0,2,3,1,1,0,0⟩
def j0:Jn:=⟨[ph0,ph0],[2,1],0⟩
def two {p:Nat} (h:p<j0.ph.length):p=0∨p=1:=by
 have:j0.ph.length=2:=rfl;omega
def zYs {j:Jn} (J:JV j) {s:Sg} (C:CV j s.c) (t k:Int):CV j (AZ j s t k).c:=by
 unfold AZ;split
 ·exact C
 ·exact zDk J C t
def yAn {j:Jn} (J:JV j) {s:Sg} (C:CV j s.c):CV j (srF j s).c:=by
 unfold srF;split
 ·exact zJs J
 ·exact C
def ph1:Ph:=⟨0,0,2,3,1,0,0,0⟩
def j1:Jn:=⟨[ph1,ph1],[2,1],0⟩
def WG {p q:Prop} (k:q) (h:bM q->p:=by(intro hq;(repeat' (first|refine bX ?_|refine xE (λhc=>?_) λhc=>?_|fail));exact hq.h)):p:=h ⟨k⟩
def WO {p q:Prop} (k:q) (h:bM q->p:=by(intro hq;(repeat' (first|refine bX ?_|refine xE (λhc=>?_) λhc=>?_|fail));exact hq.h)):p:=h ⟨k⟩
def e1 (d:Dk) (now:Int):Int:=[-1,0,max (-1) (now-nx d 6)].getD (nx (ad d) 3).toNat 0
def d0 (xs:List Int) (hl:xs.length<=9223372036854775807):Dk:=⟨xs,0,yBt _,hl⟩
def kK (es:List Int) (ph:Int):Int:=if ph<0∨(es.length:Int)<=ph then -1 else es.getD ph.toNat 0
def gK (k:Int):Bool:=k==2||k==3
def gL (es:List Int) (ph si:Int):Int:=max si (kK es ph)
def RX (s:Sv) (c:Cl):zO 278 [wV s,fM c] [] (iA (kK s.en c.ph)) []:=by
 have hl:(s.en.map iA).length=s.en.length:=by simp
 by_cases h1:c.ph<0
 ·rw[show kK s.en c.ph= -1 by simp[kK,h1]];refine eM call278 λF hF=>?_
  refine WO ?_;exact zJ
 ·by_cases h2:(s.en.length:Int)<=c.ph
  ·rw[show kK s.en c.ph= -1 by simp[kK,h2]];refine eM call278 λF hF=>?_
   refine WO ?_;exact zJ
  ·rw[show kK s.en c.ph=s.en.getD c.ph.toNat 0 by unfold kK;rw[yBc zB]];have hy:=yL iA s.en c.ph zB zB;refine eM call278 λF hF=>?_
   refine WO ?_;exact zJ
def qY (c:Cl):zO 87 [fM c] [] (bA (gK c.k)) []:=by
 unfold gK;by_cases h:c.k=2
 ·rw[show(c.k==2||c.k==3)=true by simp[h]];refine eM call87 λF hF=>?_
  refine WO ?_;exact zJ
 ·rw[show(c.k==2||c.k==3)=(c.k==3) by simp[h]];refine eM call87 λF hF=>?_
  refine WO ?_;exact zJ
def VC (s:Sv) (c:Cl):zO 280 [wV s,fM c] [] (iA (gL s.en c.ph c.si)) []:=by
 refine eM call280 λF hF=>?_
 (repeat' (first|refine bX ?_|refine xE (λhc=>?_) λhc=>?_|(refine zE ?_;refine wA ?_;refine wK (zL (RX ⟨_,_,_⟩ ⟨_,_,_,_,_⟩) Z Z Z Z Z) Z ?_)|fail))
 exact zJ
def zAs (n d:Int) (hd:1<=d) (hm:n.tmod d=0):n.tdiv d=n/d:=by
 have h1:=Int.tmod_add_mul_tdiv n d;rw[hm]at h1;have h2:n=d*n.tdiv d:=by omega
 exact(Int.ediv_eq_of_eq_mul_right zB h2).symm
def IA (n d:Int) (hn:n<0) (hd:1<=d) (hm:n.tmod d≠0):n.tdiv d-1=n/d:=by
 have h1:=Int.tmod_add_mul_tdiv n d;have h0:n.tmod d= -((-n).tmod d):=by rw[Int.neg_tmod];omega
 have h3: -d<n.tmod d:=by
  have:=yG1 (-n) (show 0<d by omega);omega
 have h4:n.tmod d<=0:=by
  have:=yHd d (show 0<= -n by omega);omega
 clear h0;have h5:n=d*(n.tdiv d-1)+(n.tmod d+d):=by rw[Int.mul_sub];omega
 generalize n.tdiv d=q at *;generalize n.tmod d=r at*
 have h6:n/d=q-1:=by
  rw[h5,Int.mul_add_ediv_left _ _ zB,Int.ediv_eq_zero_of_lt zB zB];omega
 omega
def zPq (n d:Int) (hd:1<=d) (h1: -4611686018427387904<=n) (h2:n<=4611686018427387904): -4611686018427387904<=n.tdiv d/\n.tdiv d<=4611686018427387904:=by
 by_cases h:0<=n
 ·have:=IntWalk.tdiv_le n d h hd;rw[yC5 h];omega
 ·have h3:n.tdiv d= -((-n).tdiv d):=by rw[Int.neg_tdiv];omega
  have:=IntWalk.tdiv_le (-n) d zB hd;rw[h3,yC5 zB];omega
def YW (n d:Int) (hd:1<=d) (h1: -4611686018427387904<=n) (h2:n<=4611686018427387904):zO 303 [iA n,iA d] [] (iA (n/d)) []:=by
 have hb:=zPq n d hd h1 h2;have hq:aA .i64 (n.tdiv d):=⟨zB,zB⟩;by_cases hm:n.tmod d=0
 ·rw[<-zAs n d hd hm];refine eM call303 λF hF=>?_
  refine WO ?_;exact zJ
 ·by_cases h0:n<0
  ·rw[<-IA n d h0 hd hm];refine eM call303 λF hF=>?_
   refine WO ?_;exact zJ
  ·rw[<-yC5 (show 0<=n by omega)];refine eM call303 λF hF=>?_
   refine WO ?_;exact zJ
def DF (per cap:Int) (es:List Int) (now ph k si:Int):Int:=min cap (k+(now-gL es ph si)/per)
structure COk (per now:Int) (es:List Int) (c:Cl):Prop where
 p:1<=per
 k0: -1000<=c.k
 k1:c.k<=1000
 n0: -1099511627776<=now
 n1:now<=1099511627776
 s0: -1099511627776<=gL es c.ph c.si
 s1:gL es c.ph c.si<=1099511627776
 e0: -1099511627776<=kK es c.ph
 e1:kK es c.ph<=1099511627776
def zVh (n d:Int) (hd:1<=d) (h1: -4611686018427387904<=n) (h2:n<=4611686018427387904): -4611686018427387904<=n/d/\n/d<=4611686018427387904:=by
 constructor
 ·refine(Int.le_ediv_iff_mul_le zB).2 ?_;have:(4611686018427387904:Int)*1<=4611686018427387904*d:=Int.mul_le_mul_of_nonneg_left hd zB;omega
 ·have:n/d<=4611686018427387904/1:=by
   rw[Int.ediv_one];refine Int.le_of_lt_add_one ((Int.ediv_lt_iff_lt_mul zB).2 ?_);have:(4611686018427387904+1:Int)*1<=(4611686018427387904+1)*d:=Int.mul_le_mul_of_nonneg_left hd zB;omega
  omega
def zDf (g:Cf) (s:Sv) (c:Cl) (now:Int) (ok:COk g.per now s.en c):zO 279 [wN g,wV s,fM c,iA now] [] (iA (DF g.per g.cap s.en now c.ph c.k c.si)) []:=by
 obtain⟨p,k0,k1,n0,n1,s0,s1,_,_⟩:=ok;have hq:=zVh (now-gL s.en c.ph c.si) g.per p zB zB;refine eM call279 λF hF=>?_
 (repeat' (first|refine bX ?_|refine xE (λhc=>?_) λhc=>?_|(refine zE ?_;refine wA ?_;(first|(refine uF 280 ?_;first|refine wK (zL (VC s c) Z Z Z Z Z) Z ?_|refine qA (zL (VC s c) Z Z Z Z Z) Z Z Z ?_|refine XZ (zL (VC s c) Z Z Z Z Z) Z Z Z ?_)|(refine uF 303 ?_;first|refine wK (zL (YW _ _ zB zB zB) Z Z Z Z Z) Z ?_|refine qA (zL (YW _ _ zB zB zB) Z Z Z Z Z) Z Z Z ?_|refine XZ (zL (YW _ _ zB zB zB) Z Z Z Z Z) Z Z Z ?_)))|fail))
 exact zJ
def IB (lock:Int) (es:List Int) (now ph k:Int):Bool:=!gK k&&(kK es ph != -1&&decide (now-kK es ph<=lock))
def zJ2 (g:Cf) (s:Sv) (c:Cl) (now:Int) (ok:COk g.per now s.en c):zO 253 [wN g,wV s,fM c,iA now] [] (bA (IB g.lock s.en now c.ph c.k)) []:=by
 obtain⟨p,k0,k1,n0,n1,s0,s1,e0,e1⟩:=ok;unfold IB;refine eM call253 λF hF=>?_
 (repeat' (first|refine bX ?_|refine xE (λhc=>?_) λhc=>?_|(refine zE ?_;refine wA ?_;(first|(refine uF 278 ?_;first|refine wK (zL (RX _ _) Z Z Z Z Z) Z ?_|refine qA (zL (RX _ _) Z Z Z Z Z) Z Z Z ?_|refine XZ (zL (RX _ _) Z Z Z Z Z) Z Z Z ?_)|(refine uF 87 ?_;first|refine wK (zL (qY _) Z Z Z Z Z) Z ?_|refine qA (zL (qY _) Z Z Z Z Z) Z Z Z ?_|refine XZ (zL (qY _) Z Z Z Z Z) Z Z Z ?_)))|fail))
 all_goals refine zH [] Z Z (yB8 bA ?_) Z
 all_goals simp_all [qQ]
def aP (per cap:Int) (es:List Int) (now:Int) (x:Cl):Int:=if gK x.k then x.k else DF per cap es now x.ph x.k x.si
def kS (per cap:Int) (es:List Int) (now:Int) (x y:Cl):Bool:=
 if gK x.k≠gK y.k then gK x.k
 else if aP per cap es now x≠aP per cap es now y then decide (aP per cap es now y<aP per cap es now x)
 else if gL es x.ph x.si≠gL es y.ph y.si then decide (gL es x.ph x.si<gL es y.ph y.si)
 else if x.ag≠y.ag then decide (x.ag<y.ag)else decide (x.id<y.id)
theorem zVi (g:Cf) (s:Sv) (x y:Cl) (now:Int) (okx:COk g.per now s.en x) (oky:COk g.per now s.en y):zO 254 [wN g,wV s,iA now,fM x,fM y] [] (bA (kS g.per g.cap s.en now x y)) []:=by
 have ex:=qY x;have ey:=qY y;have lx:=zDf g s x now okx;have ly:=zDf g s y now oky;have sx:=VC s x;have sy:=VC s y
 cases hx:gK x.k<;>cases hy:gK y.k<;>rw[hx]at ex<;>rw[hy]at ey
 ·by_cases h1:DF g.per g.cap s.en now x.ph x.k x.si=DF g.per g.cap s.en now y.ph y.k y.si
  ·by_cases h2:gL s.en x.ph x.si=gL s.en y.ph y.si
   ·by_cases h3:x.ag=y.ag
    ·(refine eM call254 λF hF=>?_)
     (have zc1:=ex;have zc2:=ey;have zc3:=lx;have zc4:=ly;have zc5:=sx;have zc6:=sy;refine WG ?_;clear zc1 zc2 zc3 zc4 zc5 zc6)
     refine zH [] Z Z (yB8 bA ?_) Z;simp[kS,aP,hx,hy,h1,h2,h3,qQ]
    ·(refine eM call254 λF hF=>?_)
     (have zc1:=ex;have zc2:=ey;have zc3:=lx;have zc4:=ly;have zc5:=sx;have zc6:=sy;refine WG ?_;clear zc1 zc2 zc3 zc4 zc5 zc6)
     refine zH [] Z Z (yB8 bA ?_) Z;simp[kS,aP,hx,hy,h1,h2,h3,qQ]
   ·(refine eM call254 λF hF=>?_)
    (have zc1:=ex;have zc2:=ey;have zc3:=lx;have zc4:=ly;have zc5:=sx;have zc6:=sy;refine WG ?_;clear zc1 zc2 zc3 zc4 zc5 zc6)
    refine zH [] Z Z (yB8 bA ?_) Z;simp[kS,aP,hx,hy,h1,h2,qQ]
  ·(refine eM call254 λF hF=>?_)
   (have zc1:=ex;have zc2:=ey;have zc3:=lx;have zc4:=ly;have zc5:=sx;have zc6:=sy;refine WG ?_;clear zc1 zc2 zc3 zc4 zc5 zc6)
   refine zH [] Z Z (yB8 bA ?_) Z;simp[kS,aP,hx,hy,h1,qQ]
 ·(refine eM call254 λF hF=>?_)
  (have zc1:=ex;have zc2:=ey;have zc3:=lx;have zc4:=ly;have zc5:=sx;have zc6:=sy;refine WG ?_;clear zc1 zc2 zc3 zc4 zc5 zc6)
  refine zH [] Z Z (yB8 bA ?_) Z;simp[kS,hx,hy]
 ·(refine eM call254 λF hF=>?_)
  (have zc1:=ex;have zc2:=ey;have zc3:=lx;have zc4:=ly;have zc5:=sx;have zc6:=sy;refine WG ?_;clear zc1 zc2 zc3 zc4 zc5 zc6)
  refine zH [] Z Z (yB8 bA ?_) Z;simp[kS,hx,hy]
 ·by_cases h1:x.k=y.k
  ·by_cases h2:gL s.en x.ph x.si=gL s.en y.ph y.si
   ·by_cases h3:x.ag=y.ag
    ·(refine eM call254 λF hF=>?_)
     (have zc1:=ex;have zc2:=ey;have zc3:=lx;have zc4:=ly;have zc5:=sx;have zc6:=sy;refine WG ?_;clear zc1 zc2 zc3 zc4 zc5 zc6)
     refine zH [] Z Z (yB8 bA ?_) Z;simp[kS,aP,hx,hy,h1,h2,h3,qQ]
    ·(refine eM call254 λF hF=>?_)
     (have zc1:=ex;have zc2:=ey;have zc3:=lx;have zc4:=ly;have zc5:=sx;have zc6:=sy;refine WG ?_;clear zc1 zc2 zc3 zc4 zc5 zc6)
     refine zH [] Z Z (yB8 bA ?_) Z;simp[kS,aP,hx,hy,h1,h2,h3,qQ]
   ·(refine eM call254 λF hF=>?_)
    (have zc1:=ex;have zc2:=ey;have zc3:=lx;have zc4:=ly;have zc5:=sx;have zc6:=sy;refine WG ?_;clear zc1 zc2 zc3 zc4 zc5 zc6)
    refine zH [] Z Z (yB8 bA ?_) Z;simp[kS,aP,hx,hy,h1,h2,qQ]
  ·(refine eM call254 λF hF=>?_)
   (have zc1:=ex;have zc2:=ey;have zc3:=lx;have zc4:=ly;have zc5:=sx;have zc6:=sy;refine WG ?_;clear zc1 zc2 zc3 zc4 zc5 zc6)
   refine zH [] Z Z (yB8 bA ?_) Z;simp[kS,aP,hx,hy,h1,qQ]
def uE (g:Cf) (s:Sv) (now:Int) (xs:List Cl):Nat->Int
 |0=> -1
 |i+1=>if IB g.lock s.en now (xs.getD i default).ph (xs.getD i default).k then uE g s now xs i
  else if uE g s now xs i<0 then i
  else if kS g.per g.cap s.en now (xs.getD i default) (xs.getD (uE g s now xs i).toNat default)then i else uE g s now xs i
theorem cG (g:Cf) (s:Sv) (now:Int) (xs:List Cl):∀i,-1<=uE g s now xs i/\uE g s now xs i<i∨uE g s now xs i= -1
 |0=> .inr Z
 | i+1=>by
  have:=cG g s now xs i;unfold uE;split
  ·omega
  ·split
   ·omega
   ·split<;>omega
def PK (g:Cf) (s:Sv) (now:Int) (xs:List Cl) (i:Nat):uE g s now xs (i+1)=if IB g.lock s.en now (xs.getD i default).ph (xs.getD i default).k=true then uE g s now xs i
 else if uE g s now xs i<0 then(i:Int)
 else if kS g.per g.cap s.en now (xs.getD i default) (xs.getD (uE g s now xs i).toNat default)=true then(i:Int)else uE g s now xs i:=rfl
def zVj (g:Cf) (s:Sv) (now:Int) (xs:List Cl) (hlen:xs.length<=1099511627776) (ok:∀i,i<xs.length->COk g.per now s.en (xs.getD i default)):zO 229 [wN g,wV s,iA now,zD fM xs] [] (iA (uE g s now xs xs.length)) []:=by
 have hl:(xs.map fM).length=xs.length:=by simp
 refine eM call229 λF hF=>?_
 refine WO ?_
 refine wW (λn st=>∃i:Nat,n+i=xs.length/\st=⟨[(2,iA now),(3,zD fM xs),(4,.ptr 4 0 0),(5,.ptr 5 0 0),(9,iA (uE g s now xs i)),(12,zD fM xs),(13,iA xs.length),(14,iA i)],[(4,.box [zD wE g.js,zD vB g.ags,iA g.per,iA g.cap,iA g.hold,iA g.lock]),(5,.box [iA s.ph,iA s.gr,zD iA s.en])]⟩)
  xs.length [4,5] [2,3,4,5,9,12,13,14] Z ⟨0,rfl,by rw[<-hl];rfl⟩ ?_
 rintro n st ⟨i,hi,rfl⟩;by_cases hlt:i<xs.length
 ·have hy:=yL fM xs i zB zB;have ok1:=ok i hlt;have hb:=cG g s now xs i;have hn:=PK g s now xs i;have lk:=zJ2 g s (xs.getD i default) now ok1;rw[show((i:Int)).toNat=i from Z]at hy
  cases hL:IB g.lock s.en now (xs.getD i default).ph (xs.getD i default).k<;>rw[hL]at lk hn
  ·rw[yBc zQ]at hn;by_cases h0:uE g s now xs i<0
   ·rw[yBd h0]at hn
    (have zc1:=lk;refine WG ?_;clear zc1)
    exact⟨n-1,zB,i+1,zB,by rw[hn];rfl⟩
   ·rw[yBc h0]at hn;have hy2:=yL fM xs (uE g s now xs i) zB zB;have ls:=zVi g s (xs.getD i default) (xs.getD (uE g s now xs i).toNat default) now ok1 (ok _ zB)
    cases hS:kS g.per g.cap s.en now (xs.getD i default) (xs.getD (uE g s now xs i).toNat default)<;>rw[hS]at ls hn
    ·rw[yBc zQ]at hn
     (have zc1:=lk;have zc2:=ls;refine WG ?_;clear zc1 zc2)
     exact⟨n-1,zB,i+1,zB,by rw[hn];rfl⟩
    ·rw[yBd Z]at hn
     (have zc1:=lk;have zc2:=ls;refine WG ?_;clear zc1 zc2)
     exact⟨n-1,zB,i+1,zB,by rw[hn];rfl⟩
  ·rw[yBd Z]at hn
   (have zc1:=lk;refine WG ?_;clear zc1)
   exact⟨n-1,zB,i+1,zB,by rw[hn];rfl⟩
 ·obtain rfl:i=xs.length:=by omega
  refine WO ?_;exact zJ
theorem eJ {α:Type} (P:α->Prop) (d:α):∀(l:List α) (i:Nat),(∀x∈l,P x)->i<l.length->P (l.getD i d)
 |l,i,h,hi=>by simp only[yBl,yBu hi,yDi];exact h _ (yD1 hi)
def zPr (es:List Int) (now ph:Int) (h:0<=now) (he:∀e∈es,-1<=e/\e<=now): -1<=kK es ph/\kK es ph<=now:=by
 unfold kK;split
 ·omega
 ·exact eJ (λe=> -1<=e/\e<=now) 0 es ph.toNat he zB
structure ClB (ph now:Int) (c:Cl):Prop where
 k0:0<=c.k
 k1:c.k<=3
 s0:0<=c.si
 s1:c.si<=now
 a0:0<=c.ag
 a1:c.ag<=2
 i0:0<=c.id
 i1:c.id<=3
 p0:0<=c.ph
 p1:c.ph<ph
end Av
end Go.Proofs.YteajjdidebfcjaaGreat
