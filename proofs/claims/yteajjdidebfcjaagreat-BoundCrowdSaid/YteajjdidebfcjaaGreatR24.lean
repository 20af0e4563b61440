/- Part 24. -/
import Derived.Test.YteajjdidebfcjaaGreatR23
namespace Go.Proofs.YteajjdidebfcjaaGreat
namespace Av
open Tryz
set_option linter.all false
set_option maxRecDepth 4000
set_option maxHeartbeats 1000000
def AX (l:List Li) (hl:l.length<=1073741824):zN 187 [zD vE l] [] (.ref 1001 0 (l.map vE).length) [(1001,.arr 2 (l.map vE) false)]:=by
 have hll:=zA vE l;refine eM call187 λF hF=>?_
 refine yS 0 Z (λcap hx=>?_) ?_
 ·have:l=[]:=by simpa using hx
  subst this
  (repeat' (first|refine WZN ?_|((first|apply xM|apply wA)<;>intro hc)|fail))
  refine uH 2 1001 2 Z Z Z (yT ?_);exact zL [1001] Z Z Z Z
 ·repeat' (first|(refine zE ?_;first|refine vW tok Z Z ?_|(refine wL ?_;refine wG (xE tok (.inl ⟨rfl,rfl⟩) Z Z Z Z) Z ?_)|(refine xB ?_;refine uS (nw:=[1001]) (yH tok 1001 (xs:=[]) Z Z Z Z Z Z Z Z Z) Z Z Z ?_)|(refine xC ?_;refine wF tok Z Z Z Z Z Z Z (xO _ _ (λ_=>rfl)) Z Z Z zB Z ?_)|refine qJ ?_)|(first|refine xS ?_|refine xD ?_|refine vI Z ?_|refine zY Z ?_|refine zS Z ?_|refine xL Z (λhc=>?_) λhc=>?_|refine xA ?_|refine yT ?_|refine xF ?_|refine yW ?_))
  exact zL [1001] Z Z Z Z
def FY (l:List Int) (hl:l.length<=1073741824):zN 91 [zD iA l] [] (.ref 1002 0 (l.map iA).length) [(1002,.arr 1 (l.map iA) false)]:=by
 have hll:=zA iA l;refine eM call91 λF hF=>?_
 refine yS 0 Z (λcap hx=>?_) ?_
 ·have:l=[]:=by simpa using hx
  subst this
  (repeat' (first|refine WZN ?_|((first|apply xM|apply wA)<;>intro hc)|fail))
  refine uH 2 1002 1 Z Z Z (yT ?_);exact zL [1002] Z Z Z Z
 ·repeat' (first|(refine zE ?_;first|refine vW tok Z Z ?_|(refine wL ?_;refine wG (xE tok (.inl ⟨rfl,rfl⟩) Z Z Z Z) Z ?_)|(refine xB ?_;refine uS (nw:=[1002]) (yH tok 1002 (xs:=[]) Z Z Z Z Z Z Z Z Z) Z Z Z ?_)|(refine xC ?_;refine wF tok Z Z Z Z Z Z Z (xO _ _ (λ_=>rfl)) Z Z Z zB Z ?_)|refine qJ ?_)|(first|refine xS ?_|refine xD ?_|refine vI Z ?_|refine zY Z ?_|refine zS Z ?_|refine xL Z (λhc=>?_) λhc=>?_|refine xA ?_|refine yT ?_|refine xF ?_|refine yW ?_))
  exact zL [1002] Z Z Z Z
def BQ (j:Jn) (c:Ct) (t:Int) (i:Nat):List Li:=(List.range j.ph.length).map λp=>if p<i then GF (yM j p) (xJ c p) (GH j c t p)else xJ c p
def zCm (j:Jn) (c:Ct) (t:Int) (i:Nat):(BQ j c t i).length=j.ph.length:=by simp[BQ]
def zIw {j:Jn} {c:Ct} (hc:c.li.length=j.ph.length) (t:Int):BQ j c t 0=c.li:=by
 unfold BQ;apply yBi;intro p;rw[yAa];by_cases h:p<j.ph.length
 ·rw[yA4 h];simp[xJ,List.getD,hc,h]
 ·rw[yAz vA,yAz zB];rfl
def zOp (j:Jn) (c:Ct) (t:Int):BQ j c t j.ph.length=bY j c t:=by
 unfold BQ bY;apply yDk;intro p hp;rw[yAt]at hp;rw[zZ8 hp]
def zIx (j:Jn) (c:Ct) (t:Int) (i:Nat):BQ j c t (i+1)=(BQ j c t i).set i (GF (yM j i) (xJ c i) (GH j c t i)):=by
 unfold BQ;apply yBi;intro p;rw[yB8,yAa,yAa];by_cases h:p<j.ph.length
 ·rw[yA4 h];by_cases hs:i=p
  ·subst hs;simp[h]
  ·rw[zZ7 hs];by_cases hp:p<i
   ·simp[hp,show p<i+1 by omega]
   ·simp[hp,show¬p<i+1 by omega]
 ·rw[yAz vA]
  split<;>simp;omega
def zXq {p:Ph} {l:Li} (h:UM p l=true) (hy:p.yel<=60) (hr:p.red<=60):0<=l.tk/\l.tk<=1073741824:=by
 unfold UM at h;split at h
 ·rw[yAc]at h;omega
 split at h
 ·rw[yAc]at h;omega
 split at h
 ·rw[yAc]at h;omega
 split at h
 ·rw[yAc]at h;omega
 ·cases h
def zIy {P:Program} {K0:List Nat} {F:Fr K0} {m:Nat} {ops:Array Oper} {rest:List Oper} {Q:List FP->St->Prop} {dr:Bool} {fs:List FP} {ty T:Nat} {pos:String} {after:Array Edge} {st:St} (hk:zX P F m ops dr (⟨some 7,.alloc T,ty,pos,after,none⟩::rest) st fs Q):zX P F m ops dr (⟨some 7,.alloc T,ty,pos,after,none⟩::rest) st fs Q:=hk
theorem zUe (j:Jn) (J:JV j) (c:Ct) (C:CV j c) (t:Int):zN 230 [wJ j,ctA c,iA t] [] (ctA (bG j c t)) []:=by
 have hn:=J.n;have hjc:=J.c;have hcn:=C.n;have hcm:=C.m;have hcw:=C.w;have hst:=J.st;have hlp:=zA wS j.ph;have hll:(c.li.map vE).length=j.ph.length:=by rw[zZ9];exact hcn
 have hln:(c.nx.map iA).length=2:=by rw[zZ9];exact hcm
 have k1:=TN j J;have k2:=zO2 j J.b c;rw[zUv J C]at k2;have k3:=AX c.li zB;have k4:=FY c.nx zB;unfold bG;by_cases hw:0<c.wt
 ·rw[zZ8 hw];refine eM call230 λF hF=>?_
  refine yR (vH k1 k2) ?_
  repeat' (first|(refine zE ?_;first|(refine zIy ?_;refine uS (nw:=[3000]) (ZB tok 3000 Z Z) Z Z Z ?_)|refine vW tok Z Z ?_|(refine xT ?_;(first|(refine vS 187 ?_;first|refine wG (zH (k3) Z Z Z Z Z) Z ?_|refine uS (zH (k3) Z Z Z Z Z) Z Z Z ?_|refine ZU (zH (k3) Z Z Z Z Z) Z Z Z ?_)|(refine vS 91 ?_;first|refine wG (zH (k4) Z Z Z Z Z) Z ?_|refine uS (zH (k4) Z Z Z Z Z) Z Z Z ?_|refine ZU (zH (k4) Z Z Z Z Z) Z Z Z ?_)))|(refine XB ?_;refine WR tok Z Z Z ?_)|refine IS SU ?_|refine qJ ?_)|first|refine SQ ?_|fail)
  refine WW ?_;exact zK [] Z Z (bX ⟨c.li,c.gr,c.nx,c.wt-1⟩) Z
 rw[zZ7 hw];have h0:c.wt=0:=by omega
 have CL:=zCu J C h0 t;have ls0:=zIw hcn t;have lsE:=zOp j c t;rw[hll]at k3;have hN:∀i,((BQ j c t i).map vE).length=j.ph.length:=λi=>by rw[zZ9];exact zCm j c t i
 refine eM call230 λF hF=>?_
 refine yR (vH k1 k2) ?_
 repeat' (first|(refine zE ?_;first|(refine zIy ?_;refine uS (nw:=[3000]) (ZB tok 3000 Z Z) Z Z Z ?_)|refine vW tok Z Z ?_|(refine xT ?_;(first|(refine vS 187 ?_;first|refine wG (zH (k3) Z Z Z Z Z) Z ?_|refine uS (zH (k3) Z Z Z Z Z) Z Z Z ?_|refine ZU (zH (k3) Z Z Z Z Z) Z Z Z ?_)|(refine vS 91 ?_;first|refine wG (zH (k4) Z Z Z Z Z) Z ?_|refine uS (zH (k4) Z Z Z Z Z) Z Z Z ?_|refine ZU (zH (k4) Z Z Z Z Z) Z Z Z ?_)))|(refine XB ?_;refine WR tok Z Z Z ?_)|refine IS SU ?_|refine qJ ?_)|first|refine SQ ?_|fail)
 (repeat' (first|refine WZB ?_|((first|apply xM|apply wA)<;>intro hc)|(refine zE ?_;first|refine SM ?_)|fail))
 refine zS Z (xA ?_);refine xS ?_;refine zMf [3000,1001,1002,3,4,6] [2,3,4,6,7,8] ⟨[(2,iA t),(3,.ptr 3 0 0),(4,.ptr 4 0 0),(6,.ptr 6 0 0),(7,.ptr 3000 0 0),(8,bA (UN j t))],[(3000,.box [.ref 1001 0 j.ph.length,iA c.gr,.ref 1002 0 (c.nx.map iA).length,iA c.wt]),(1001,.arr 2 (c.li.map vE) false),(1002,.arr 1 (c.nx.map iA) false),(3,.box [zD wS j.ph,zD iA j.cf,iA j.st]),(4,.box [zD vE c.li,iA c.gr,zD iA c.nx,iA c.wt]),(6,.box [.s (.slice none 0 0),iA 0,.s (.slice none 0 0),iA 0])]⟩ rfl ?_ ?_
 ·clear k1 k2 k3 k4 CL;by_cases a1:0<=t
  ·by_cases a2:t<j.ph.length
   ·rw[show UN j t=true from yAe ⟨a1,a2⟩];refine WW ?_;exact⟨rfl,rfl⟩
   ·rw[show UN j t=false from yAh (λh=>a2 h.2)];refine WW ?_;exact⟨rfl,rfl⟩
  ·rw[show UN j t=false from yAh (λh=>a1 h.1)];refine WW ?_;exact⟨rfl,rfl⟩
 clear k1 k2 k3 k4;refine WW ?_;refine zO (j.ph.length) [1001,3,4,6,3000,1002] [3,4,6,3000,1002] [2,3,4,6,7,8,51,52] [53,2,3,4,6,7,8,51,52] Z (λi T U=>⟨(53,iA i)::T,(1001,.arr 2 ((BQ j c t i).map vE) false)::U⟩) ?_;(conv=>whnf);refine⟨by(rw[ls0];rfl),?_,?_⟩
 ·intro i hi;have hy:=zM wS j.ph i hi
  change (j.ph.map wS)[i]? =some (wS (yM j i))at hy
  have hyl:=zM vE c.li i zB
  change (c.li.map vE)[i]? =some (vE (xJ c i))at hyl
  have hym:∃l,((BQ j c t i).map vE)[i]? =some (vE l):=⟨_,zM vE (BQ j c t i) i (by rw[zCm];exact hi)⟩;obtain⟨lm,hym⟩:=hym;have hti:=J.ti i hi;have htk:=zXq (C.k i hi) zB zB;have hph:PhB (yM j i):=⟨zB,zB,zB,zB⟩;have hNi:=hN i;have ls:=λlv=>zO0 (yM j i) hph (xJ c i) zB lv
  have ck:=jJ j.cf zB i t;have es:=zIx j c t i;have em:(BQ j c t (i+1)).map vE=((BQ j c t i).map vE).set i (vE (GF (yM j i) (xJ c i) (GH j c t i))):=by rw[es,yB4]
  rw[em];have elv:GH j c t i=_:=rfl
  conv at elv=>rhs;unfold GH
  have lsv:=ls (GH j c t i);clear ls es em CL hN ls0 lsE;generalize GF (yM j i) (xJ c i) (GH j c t i)=ln at *;generalize (BQ j c t i).map vE=xs at *;generalize GH j c t i=lv at *;generalize jF j.cf i t=cq at*
  cases ha:UN j t with
  |false=>
   rw[ha]at elv;rw[zZ7 xG]at elv;generalize yM j i=ph at *;generalize xJ c i=l at *;by_cases hm:ph.maxg<=l.tk+1
   ·rw[yAe hm]at elv;subst elv;refine zV lsv ?_;rfl
   ·rw[yAh hm]at elv;subst elv;refine zV lsv ?_;rfl
  | true=>
   rw[ha]at elv;rw[zZ8 Z]at elv;generalize yM j i=ph at *;generalize xJ c i=l at *;by_cases hpt:(i:Int)=t
   ·rw[yAh (λh=>h hpt)]at elv;rw[yBy]at elv;subst elv;by_cases hm:ph.maxg<=l.tk+1
    ·(refine zV lsv ?_)
     rfl
    ·(refine zV lsv ?_)
     rfl
   rw[yAe hpt,yAv]at elv;by_cases hm:ph.maxg<=l.tk+1
   ·rw[yAe hm,yDu]at elv;subst elv;refine zV lsv ?_;rfl
   ·rw[yAh hm,yDm]at elv;rw[elv]at lsv;clear elv
    cases cq with
    |true=>
     refine yR (vH ck lsv) ?_;rfl
    |false=>
     refine yR (vH ck lsv) ?_;rfl
 ·rw[lsE];have e1:((bY j c t).map vE).length=j.ph.length:=by simp[bY]
  clear lsE ls0 hN
  cases ha:UN j t with
  | true=>
   rw[zZ8 Z];unfold UN at ha;rw[yAc]at ha;obtain⟨tn,rfl⟩:∃tn:Nat,t=tn:=⟨t.toNat,zB⟩;rw[yAx];have cs:=zOw j J ⟨bY j c tn,c.gr,c.nx,c.wt⟩ CL h0 tn zB;unfold dK at cs;dsimp only at cs;rw[e1]at cs;generalize jB j tn (jB j tn ⟨bY j c tn,c.gr,c.nx,c.wt⟩ 0) 1=c2 at *;generalize (if(jB j tn ⟨bY j c tn,c.gr,c.nx,c.wt⟩ 0).gr=c.gr then(jB j tn ⟨bY j c tn,c.gr,c.nx,c.wt⟩ 0).nx else c.nx)=o at *;generalize (bY j c tn).map vE=xs at *;clear CL
   cases hE:decide (c2.gr≠c.gr)with
   |true=>
    rw[hE,show BS true c2 o=JL c2 o from Z]at cs;unfold JL at cs;clear hE;refine zV cs ?_;exact zK [] Z Z (bX c2) Z
   |false=>
    rw[hE,show BS false c2 o=dK c2 1002 from Z]at cs;unfold dK at cs;clear hE;refine zV cs ?_;exact zK [] Z Z (bX c2) Z
  | false=>
   rw[zZ7 xG];have cs:=zOx j J ⟨bY j c t,c.gr,c.nx,c.wt⟩ CL h0;unfold dK at cs;dsimp only at cs;rw[e1]at cs;generalize cyF j ⟨bY j c t,c.gr,c.nx,c.wt⟩=c2 at *;generalize cyO ⟨bY j c t,c.gr,c.nx,c.wt⟩=e at *;generalize (bY j c t).map vE=xs at *;clear CL
   cases e with
   |true=>
    rw[show BS true c2 c.nx=JL c2 c.nx from Z]at cs;unfold JL at cs;refine zV cs ?_;exact zK [] Z Z (bX c2) Z
   |false=>
    rw[show BS false c2 c.nx=dK c2 1002 from Z]at cs;unfold dK at cs;refine zV cs ?_;exact zK [] Z Z (bX c2) Z
def zIz (j:Jn) (hn:j.ph.length<=1000) (g gr wt:Int) (L:List AV) (nL:Nat):zN 186 [wJ j,.ptr 3000 0 0,iA g] [(3000,.box [.ref 1001 0 nL,iA gr,.s (.slice none 0 0),iA wt]),(1001,.arr 2 L false)] (.tup [])
  [(3000,.box [.ref 1001 0 nL,iA g,.ref 2001 0 2,iA wt]),(1001,.arr 2 L false),(2001,.arr 1 [iA (dZ j 0 g 0),iA (dZ j 1 g 0)] false)]:=by
 have c0:=YH j hn 0 g 0;have c1:=YH j hn 1 g 0;generalize dZ j 0 g 0=f0 at *;generalize dZ j 1 g 0=f1 at *;obtain⟨N2,hN2⟩:∃n:Nat,n=2:=⟨2,rfl⟩;refine eM call186 λF hF=>?_
 (repeat' (first|refine uL ?_|((first|apply xM|apply wA)<;>intro hc)|(refine zE ?_;first|(refine gB ?_;refine fZ 2001 tok Z Z Z Z Z Z Z Z Z Z Z Z Z zB zB Z Z Z ?_))|fail))
 refine zO (N2) [3000,2001,3,1001] [3,1001] [1,2,3] [20,19,1,2,3] Z (λi T U=>⟨(20,iA i)::(19,iA N2)::T,(3000,.box [.ref 1001 0 nL,iA g,.ref 2001 0 N2,iA wt])::(2001,.arr 1 (enN f0 f1 i) false)::U⟩) ?_;(conv=>whnf);refine⟨by(rw[hN2];rfl),?_,?_⟩
 ·intro i hi;have:i=0∨i=1:=by omega
  rcases this with rfl|rfl
  ·have hy:(enN f0 f1 0)[((0:Nat):Int).toNat]? =some (iA 0):=rfl;have hl:(enN f0 f1 0).length=2:=rfl;refine zV c0 ?_;rfl
  ·have hy:(enN f0 f1 1)[((1:Nat):Int).toNat]? =some (iA 0):=rfl;have hl:(enN f0 f1 1).length=2:=rfl;refine zV c1 ?_;rfl
 ·have e2:enN f0 f1 N2=[iA f0,iA f1]:=by rw[hN2];rfl
  rw[e2];refine WW ?_;subst hN2;exact kQ [3000,1001,2001] Z Z Z Z
def inF (j:Jn):Ct:=⟨List.replicate j.ph.length ⟨0,0⟩,0,[dZ j 0 0 0,dZ j 1 0 0],j.st⟩
def AY (j:Jn) (p:Nat):xJ (inF j) p=⟨0,0⟩:=by
 unfold xJ inF;simp only[yAg,yB2]
 split<;>rfl
def zI0 {j:Jn} (J:JV j):CV j (inF j):=by
 refine⟨by simp[inF],λp hp=>by rw[AY];rfl,λp q hp hq hpq h1 h2=>by rw[AY]at h1;exact absurd Z h1,⟨yB6 _,?_⟩,rfl,λr hr=>zSg j (inF j) 0 r hr,⟨J.st.1,yB6 _⟩,.inr λp hp=>by rw[AY]⟩;have:=RJ J
 show(0:Int)<ZQ j
 omega
def zUf {P:Program} {K0:List Nat} {F:Fr K0} {m:Nat} {ops:Array Oper} {rest:List Oper} {Q:List FP->St->Prop} {dr:Bool} {fs:List FP} {ty T:Nat} {pos:String} {after:Array Edge} {st:St} (hk:zX P F m ops dr (⟨some 3,.alloc T,ty,pos,after,none⟩::rest) st fs Q):zX P F m ops dr (⟨some 3,.alloc T,ty,pos,after,none⟩::rest) st fs Q:=hk
def zUg (j:Jn) (hn:j.ph.length<=1000):zN 145 [wJ j] [] (ctA (inF j)) []:=by
 have hlp:=zA wS j.ph;have ce:=zIz j hn 0 0 j.st ((List.replicate j.ph.length (⟨0,0⟩:Li)).map vE) ((List.replicate j.ph.length (⟨0,0⟩:Li)).map vE).length;have eL:(List.replicate j.ph.length (⟨0,0⟩:Li)).map vE=List.replicate j.ph.length (vE ⟨0,0⟩):=yFa;have eN:((List.replicate j.ph.length (⟨0,0⟩:Li)).map vE).length=j.ph.length:=by simp
 rw[eN,eL]at ce;rw[<-hlp]at ce;refine eM call145 λF hF=>?_
 repeat' (first|(refine zE ?_;first|(refine zUf ?_;refine uS (nw:=[3000]) (ZB tok 3000 Z Z) Z Z Z ?_)|refine vW tok Z Z ?_|(refine gB ?_;refine fZ 1001 tok Z Z Z Z Z Z Z Z Z Z Z Z Z zB zB Z Z Z ?_)|refine RQ tok Z Z Z Z ?_|(refine xT ?_;(first|(refine vS 186 ?_;first|refine wG (zH (ce) Z Z Z Z Z) Z ?_|refine uS (zH (ce) Z Z Z Z Z) Z Z Z ?_|refine ZU (zH (ce) Z Z Z Z Z) Z Z Z ?_)))|(refine XB ?_;refine WR tok Z Z Z ?_)|refine IS SU ?_|refine qJ ?_)|first|refine SQ ?_|fail)
 have eF:AV.agg [.sl false ((List.replicate (j.ph.map wS).length (vE ⟨0,0⟩)).take (j.ph.map wS).length),iA 0,.sl false [iA (dZ j 0 0 0),iA (dZ j 1 0 0)],iA j.st]=ctA (inF j):=by
  rw[yAj zU,hlp,<-eL];rfl
 exact zK [] Z Z eF Z
def zXr (p:Nat->Bool) {n q:Nat} (hn:n<=8) (hq:q<n):inS (fT p n) q=p q:=by
 have e:=JQ (λi=>decide (i<n)&&p i) n 8 hn (λi h1 h2=>by rw[yAh zB];rfl);have e2:fT p n=fT (λi=>decide (i<n)&&p i) n:=dO _ λi hi=>by rw[yAe hi];rfl
 rw[e2,<-e,zJo _ q zB,yAe hq];rfl
theorem zCn (ps:List Ph) (ex:Bool) (i:Nat):∀n,ZJ ps ex i n=fT (cnd ps ex i) n
 |0=>rfl
 |n+1=>by
  unfold ZJ fT;rw[zCn ps ex i n];have:(2:Int) ^ n=p2 n:=by unfold p2;rw[yAx]
  rw[this]
def zOq (ps:List Ph) (ex:Bool) {p q:Nat} (hn:ps.length<=8) (hp:p<ps.length) (hq:q<ps.length):jF (jU ps ex ps.length) p q=cnd ps ex p q:=by
 have hl:(jU ps ex ps.length).length=ps.length:=by simp[jU]
 unfold jF;rw[yAe zB,yAv,yAx]
 have e:(jU ps ex ps.length).getD p default=ZJ ps ex p ps.length:=by
  unfold jU;simp[List.getD,hp]
 rw[e,zCn];exact zXr _ hn hq
theorem zI1 (d:Dk) (l:List (Int×Int)):∀i k,k<i->∃e,(MZ d l i).1.getD k default=VU e (l.getD k default)
 |0,k,h=>absurd h (yCj _)
 |i+1,k,h=>by
  have hl:=WC d l i;unfold MZ;by_cases hk:k=i
  ·subst hk;refine⟨(MZ d l k).2,?_⟩;simp[List.getD,hl]
  ·obtain⟨e,he⟩:=zI1 d l i k zB;refine⟨e,?_⟩;rw[<-he];simp only[yAg];rw[yBe zB]
def ShB (l:List (Int×Int)):Bool:=(l.all λs=>decide (0<=s.1/\s.1<=1/\0<=s.2/\s.2<=3))&&(l.all λs=>[0,1,2].all λg:Int=>decide (s.2<=g)||(l.any λs'=>s'.2==g))
def zI2 (n:Int):ShB (uY n)=true:=by
 unfold uY;split
 ·decide
 split
 ·decide
 split
 ·decide
 split
 ·decide
 split
 ·decide
 ·decide
def FZ (d:Dk) (s:Int×Int):(VU d s).ring=s.1/\(VU d s).group=s.2/\1<=(VU d s).ming/\(VU d s).ming<=(VU d s).maxg/\(VU d s).maxg<=60/\1<=(VU d s).yel/\(VU d s).yel<=60/\0<=(VU d s).red/\(VU d s).red<=60/\0<=(VU d s).walk/\(VU d s).walk<=60/\0<=(VU d s).clear/\(VU d s).clear<=60/\(VU d s).walk+(VU d s).clear<=(VU d s).maxg/\((VU d s).walk=0↔(VU d s).clear=0):=by
 have b1:=xZ d (3-1+1) zB;have b2:=xZ (ad d) (2-1+1) zB;have b3:=xZ (ad (ad d)) 3 zB;have b4:=xZ (ad (ad (ad (ad d)))) (2-1+1) zB;have b5:=xZ (ad (ad (ad (ad (ad d))))) (2-1+1) zB;have b6:=xZ (ad (ad (ad (ad (ad (ad d)))))) 4 zB;have b7:=xZ (ad (ad (ad (ad d)))) 4 zB;unfold VU;split
 ·dsimp only;omega
 ·dsimp only;omega
def zSd (a b:Int):(a==b)=(b==a):=by rw[yEk,yBf,yBf];exact yGe
def zXs (a b:Int):(a != b)=(b != a):=by unfold bne;rw[zSd]
def zXt (a b:Nat):(a != b)=(b != a):=by unfold bne;rw[show(a==b)=(b==a) by rw[yEk,yBf,yBf];exact yGe]
def zUh (d:Dk):JV (jnF d):=by
 have hsl:=PA (nx d 6);have hsb:=zI2 (nx d 6);have hst:=xZ (ad d) 3 zB;have hlen:(YO d).1.length=(uY (nx d 6)).length:=WC _ _ _
 have hat:∀k,k<(YO d).1.length->∃e,yM (jnF d) k=VU e ((uY (nx d 6)).getD k default):=λk hk=>by
  rw[hlen]at hk;exact zI1 _ _ _ k hk
 have hph:(jnF d).ph=(YO d).1:=rfl;generalize uY (nx d 6)=sl at *;generalize hex:(nx (YO d).2 4==3)=ex at *;have hcf:(jnF d).cf=jU (YO d).1 ex (YO d).1.length:=by unfold jnF;rw[hex]
 unfold ShB at hsb;simp only[yAk,yAm,yAc,yCi,yBo,yBf]at hsb
 have hmem:∀k,k<(YO d).1.length->sl.getD k default∈sl:=λk hk=>by
  rw[hlen]at hk;simp[List.getD,hk]
 have hcd:∀p q:Nat,p<(YO d).1.length->q<(YO d).1.length->jF (jnF d).cf p q=cnd (YO d).1 ex p q:=λp q hp hq=>by
  rw[hcf];exact zOq _ _ zB hp hq
 have hc1:(jnF d).cf.length=(YO d).1.length:=by rw[hcf];simp[jU]
 refine⟨?_,?_,?_,?_,?_,?_,?_,?_,?_,?_,?_⟩
 ·rw[hph];omega
 ·rw[hph];exact hc1
 ·intro i hi;rw[hph]at hi⊢
  have e:(jnF d).cf.getD i default=ZJ (YO d).1 ex i (YO d).1.length:=by
   rw[hcf];unfold jU;simp[List.getD,hi]
  rw[e];exact RL _ _ _ _
 ·intro p hp;rw[hph]at hp;rw[hcd p p hp hp];unfold cnd;simp
 ·intro p q hp hq;rw[hph]at hp hq;rw[hcd p q hp hq,hcd q p hq hp];unfold cnd;rw[zXt p q,zSd ((YO d).1.getD p default).ring,zXs ((YO d).1.getD p default).group,show((p:Int)+q)=((q:Int)+p) by omega]
 ·intro p q hp hq hpq h;rw[hph]at hp hq;rw[hcd p q hp hq];unfold cnd;rw[show(p != q)=true by simpa using hpq,yAv]
  rcases h with h|h
  ·rw[show(((YO d).1.getD p default).ring==((YO d).1.getD q default).ring)=true from yBf.2 h];rfl
  ·rw[show(((YO d).1.getD p default).group != ((YO d).1.getD q default).group)=true from yCg.2 h];simp
 ·intro p hp;obtain⟨e,he⟩:=hat p hp;rw[he,(FZ e _).1];have:=hsb.1 _ (hmem p hp);omega
 ·intro p hp;obtain⟨e,he⟩:=hat p hp;rw[he,(FZ e _).2.1];have:=hsb.1 _ (hmem p hp);omega
 ·intro p hp;obtain⟨e,he⟩:=hat p hp;rw[he];exact(FZ e _).2.2
 ·intro p hp g hg0 hg;obtain⟨e,he⟩:=hat p hp;rw[he,(FZ e _).2.1]at hg;have h3:=hsb.1 _ (hmem p hp)
  have hgm:g∈([0,1,2]:List Int):=by
   have:g=0∨g=1∨g=2:=by omega
   rcases this with rfl|rfl|rfl<;>simp
  rcases hsb.2 _ (hmem p hp) g hgm with h|⟨s,hs,hsg⟩
  ·omega
  ·obtain⟨q,hq,hqs⟩:=yCh hs;refine⟨q,by rw[hph,hlen];exact hq,?_⟩;obtain⟨e2,he2⟩:=hat q (by rw[hlen];exact hq);rw[he2,(FZ e2 _).2.1];have:sl.getD q default=s:=by rw[<-hqs];simp[List.getD,hq]
   rw[this];exact hsg
 ·show 0<=nx (ad d) 3/\nx (ad d) 3<=60
  omega
def UJ (j:Jn) (c:Ct) (t:Int):Nat->Ct
 |0=>c
 |k+1=>bG j (UJ j c t k) t
theorem zCo {j:Jn} (J:JV j) {c:Ct} (C:CV j c) (t:Int):∀k,CV j (UJ j c t k)
 |0=>C
 |k+1=>zCv J (zCo J C t k) t
def nrB (a:Int):Bool:=decide (a=1∨a=2)
def bV (a:Int):zN 259 [iA a] [] (bA (nrB a)) []:=by
 unfold nrB
 (cases hb:decide (a=1∨a=2)with|false=>((refine eM call259 λF hF=>?_);((refine WW (I2 (λhc=>?_) λhc=>?_)));all_goals (first|exact zJ|(simp only[nrB,yAr]at hb;first|exact zXO|exact zFB)))|true=>(simp only[nrB,yAc]at hb;(refine eM call259 λF hF=>?_);((refine WW (I2 (λhc=>?_) λhc=>?_)));all_goals (first|exact zJ|exact zXO|exact zFB)))
def snF (li:List Li) (k:Int) (p:Nat):Int:=if(p:Int)=k then 1 else(li.getD p default).lamp
def TM (li:List Li) (k:Int):List Int:=(List.range li.length).map (snF li k)
def zI3 (li:List Li) (k:Int):(TM li k).length=li.length:=by simp[TM]
def zI4 (f:Nat->Int) (n i:Nat) (h:i<n) (x:Int) (hx:x=f i):(((List.range i).map f++List.replicate (n-i) 0).map iA).set i (iA x)=((List.range (i+1)).map f++List.replicate (n-(i+1)) 0).map iA:=by
 subst hx;rw[<-yB4,show n-i=(n-(i+1))+1 by omega,yDy,yC4 _ _ zU,zZ9,yBp,yB9,yEn,yCm];simp
def EA (f:Nat->Int) (n i:Nat) (h:i<=n):(((List.range i).map f++List.replicate (n-i) 0).map iA).length=n:=by
 simp;omega
def zOr (f:Nat->Int) (n i:Nat) (h:i<n):(((List.range i).map f++List.replicate (n-i) 0).map iA)[i]? =some (iA 0):=by
 simp[show 0<n-i by omega]
def zUi (li:List Li) (hn:li.length<=1000) (k:Int):zN 231 [zD vE li,iA k] [] (zD iA (TM li k)) []:=by
 have hl:=zA vE li;have e0:List.replicate li.length (AV.s (.int .i64 0))=((List.range 0).map (snF li k)++List.replicate (li.length-0) 0).map iA:=by simp[iA]
 obtain⟨n,hnn⟩:∃n,li.length=n:=⟨_,rfl⟩;refine eM call231 λF hF=>?_
 refine WW ?_;refine zO (li.length) [10] [] [1,5,11,12] [13,1,5,11,12] Z (λi T U=>⟨(13,iA i)::T,(10,.arr 1 (((List.range i).map (snF li k)++List.replicate (li.length-i) 0).map iA) false)::U⟩) ?_;(conv=>whnf);refine⟨by(rw[<-e0,<-hl];rfl),?_,?_⟩
 ·intro i hi;have hy:=zM vE li i hi;have hfl:=EA (snF li k) li.length i zB;have hfa:=zOr (snF li k) li.length i hi;have hs:=zI4 (snF li k) li.length i hi (snF li k i) Z
  have hsd:snF li k i=if(i:Int)=k then 1 else(li.getD i default).lamp:=rfl
  generalize ((List.range i).map (snF li k)++List.replicate (li.length-i) 0).map iA=xs at *;generalize ((List.range (i+1)).map (snF li k)++List.replicate (li.length-(i+1)) 0).map iA=ys at *;generalize snF li k i=v at *;generalize li.getD i default=t at *;rw[<-hs];clear hs e0 hnn;by_cases hk:(i:Int)=k
  ·rw[zZ8 hk]at hsd;subst hsd;have hfb:(xs.set i (iA t.lamp))[i]? =some (iA t.lamp):=by rw[yBq zB]
   have hls:(xs.set i (iA t.lamp)).length=li.length:=by simp[hfl]
   rw[<-yEe (iA t.lamp)];refine WW ?_;rfl
  ·rw[zZ7 hk]at hsd;subst hsd;refine WW ?_;rfl
 ·have hfl:=EA (snF li k) li.length li.length (yAb _)
  have e:zD iA (TM li k)= .sl false ((((List.range li.length).map (snF li k)++List.replicate (li.length-li.length) 0).map iA).take (li.map vE).length):=by
   rw[yAj zB,yB9,yFq,yBc];rfl
  rw[e];clear e e0;generalize ((List.range li.length).map (snF li k)++List.replicate (li.length-li.length) 0).map iA=xs at *;refine WW ?_;exact zJ
def fpB (cf ls:List Int) (p q:Nat):Bool:=nrB (ls.getD p default)&&(nrB (ls.getD q default)&&jF cf p q)
def fbF (cf ls:List Int):Bool:=(List.range ls.length).any λp=>(List.range ls.length).any λq=>fpB cf ls p q
def zXu {cf ls:List Int} (h:fbF cf ls=false) (p q:Nat) (hp:p<ls.length) (hq:q<ls.length):fpB cf ls p q=false:=by
 unfold fbF at h;rw[yCy]at h;have h1:=h p (yAt.2 hp);rw[yCt,yCy]at h1;have h2:=h1 q (yAt.2 hq)
 rwa [yCt]at h2
def zUj {cf ls:List Int} (h:fbF cf ls=true):∃p q:Nat,p<ls.length/\q<ls.length/\fpB cf ls p q=true/\(∀u,u<p->∀v,v<ls.length->fpB cf ls u v=false)/\(∀v,v<q->fpB cf ls p v=false):=by
 unfold fbF at h;rw[yBo]at h;obtain⟨a,ha,h⟩:=h;rw[yBo]at h;obtain⟨b,hb,h⟩:=h;obtain⟨p,hpa,⟨v,hv,hp⟩,hpm⟩:=MY (P:=λp=>∃v,v<ls.length/\fpB cf ls p v=true) a ⟨b,yAt.1 hb,h⟩;obtain⟨q,hqv,hq,hqm⟩:=MY (P:=λq=>fpB cf ls p q=true) v hp;have:=yAt.1 ha
 exact⟨p,q,zB,zB,hq,λu hu v hv=>by
  have:=hpm u hu
  cases h:fpB cf ls u v with
  |false=>rfl
  |true=>exact absurd ⟨v,hv,h⟩ this,λv hv=>by
  have:=hqm v hv
  rwa [yCt]at this⟩
theorem zUk (cf ls:List Int) (hcf:cf.length<=40) (hn:ls.length<=1000):zN 232 [zD iA cf,zD iA ls] [] (bA (fbF cf ls)) []:=by
 have hl:=zA iA ls
 cases hf:fbF cf ls with
 | false=>
  have hno:=zXu hf;clear hf;refine eM call232 λF hF=>?_
  (repeat' (first|refine WS ?_|refine SG (I2 (λhc=>?_) λhc=>?_)|refine SG λhc=>?_|(refine zE ?_;first|refine SM ?_)|(first|first|refine SR ?_|refine SK (I2 (λhc=>?_) λhc=>?_)|refine SK λhc=>?_|fail|refine vC ?_|refine vD ?_)|fail))
  refine zO (ls.length) [] [] [0,1,10,11] [5,12,0,1,10,11] Z (λi T U=>⟨(5,bA false)::(12,iA i)::T,U⟩) ?_;(conv=>whnf);refine⟨by rfl,?_,?_⟩
  ·intro u hu;have hy:=zM iA ls u hu;have c1:=bV (ls.getD u default);have hnu:=hno u;unfold fpB at hnu;clear hno
   cases hb:nrB (ls.getD u default)with
   |false=>
    rw[hb]at c1;generalize ls.getD u default=a at *;clear hnu;refine zV c1 ?_;rfl
   | true=>
    rw[hb]at c1;generalize ls.getD u default=a at *;refine zV c1 ?_;refine zO (ls.length) [] [] [0,1,6,10,11,12,20,21] [5,22,0,1,6,10,11,12,20,21] Z (λi T U=>⟨(5,bA false)::(22,iA i)::T,U⟩) ?_;(conv=>whnf);refine⟨by rfl,?_,?_⟩
    ·intro v hv;have hyv:=zM iA ls v hv;have c2:=bV (ls.getD v default);have c3:=jJ cf hcf u v;have h:=hnu v hu hv;rw[hb,yAv]at h;generalize ls.getD v default=b at *;clear hnu c1
     cases hb2:nrB b with
     |false=>
      rw[hb2]at c2;refine zV c2 ?_;rfl
     |true=>
      rw[hb2,yAv]at h;rw[hb2]at c2;rw[h]at c3;refine yR (vH c2 c3) ?_;rfl
    ·(refine WW ?_)
     rfl
  ·(repeat' (first|refine WS ?_|refine SG (I2 (λhc=>?_) λhc=>?_)|refine SG λhc=>?_|(refine zE ?_;first|refine SM ?_)|(first|first|refine SR ?_|refine SK (I2 (λhc=>?_) λhc=>?_)|refine SK λhc=>?_|fail|refine vC ?_|refine vD ?_)|fail))
   exact zJ
 | true=>
  obtain⟨p,q,hp,hq,hpq,hpm,hqm⟩:=zUj hf;clear hf;have hpp:nrB (ls.getD p default)=true:=by unfold fpB at hpq;rw[yAk]at hpq;exact hpq.1
  have hqq:nrB (ls.getD q default)=true:=by unfold fpB at hpq;rw[yAk,yAk]at hpq;exact hpq.2.1
  have hcc:jF cf p q=true:=by unfold fpB at hpq;rw[yAk,yAk]at hpq;exact hpq.2.2
  clear hpq;refine eM call232 λF hF=>?_
  (repeat' (first|refine WS ?_|refine SG (I2 (λhc=>?_) λhc=>?_)|refine SG λhc=>?_|(refine zE ?_;first|refine SM ?_)|(first|first|refine SR ?_|refine SK (I2 (λhc=>?_) λhc=>?_)|refine SK λhc=>?_|fail|refine vC ?_|refine vD ?_)|fail))
  refine xR (ls.length) [] [] [0,1,10,11] [5,12,0,1,10,11] Z (λi T U zs=>(i<=p)/\zs=⟨(5,bA false)::(12,iA i)::T,U⟩) ?_;(conv=>whnf);refine⟨?_,?_,?_⟩
  ·exact⟨yAp _,rfl⟩
  ·rintro u st hu ⟨hup,rfl⟩;have hy:=zM iA ls u hu;have c1:=bV (ls.getD u default);by_cases hup2:u=p
   ·subst hup2;rw[hpp]at c1
    have hqm2:∀v,v<q->(nrB (ls.getD v default)&&jF cf u v)=false:=λv hv=>by
     have h:=hqm v hv;unfold fpB at h;rw[hpp,yAv]at h;exact h
    clear hpm hqm;generalize ls.getD u default=a at *;refine zV c1 ?_;refine xR (ls.length) [] [] [0,1,6,10,11,12,20,21] [5,22,0,1,6,10,11,12,20,21] Z (λi T U zs=>(i<=q)/\zs=⟨(5,bA false)::(22,iA i)::T,U⟩) ?_;(conv=>whnf);refine⟨?_,?_,?_⟩
    ·exact⟨yAp _,rfl⟩
    ·rintro v st hv ⟨hvq,rfl⟩;have hyv:=zM iA ls v hv;have c2:=bV (ls.getD v default);have c3:=jJ cf hcf u v;by_cases hvq2:v=q
     ·subst hvq2;rw[hqq]at c2;rw[hcc]at c3;clear hqq hcc hqm2 c1;generalize ls.getD v default=b at*
      (have zc1:=c2;have zc2:=c3;(repeat' (first|refine WS ?_|refine SG (I2 (λhc=>?_) λhc=>?_)|refine SG λhc=>?_|(refine zE ?_;first|refine SM ?_)|(first|first|refine SR ?_|refine SK (I2 (λhc=>?_) λhc=>?_)|refine SK λhc=>?_|fail|refine vC ?_|refine vD ?_)|fail))<;>clear zc1 zc2)
      exact zJ
     ·have h:=hqm2 v zB;clear hqq hcc hqm2 c1;generalize ls.getD v default=b at*
      cases hb2:nrB b with
      |false=>
       rw[hb2]at c2;refine zV c2 ?_;exact⟨zB,rfl⟩
      |true=>
       rw[hb2,yAv]at h;rw[hb2]at c2;rw[h]at c3;refine yR (vH c2 c3) ?_;exact⟨zB,rfl⟩
    ·rintro st ⟨hvq,rfl⟩;exfalso;omega
   ·have hnu:=hpm u zB;unfold fpB at hnu;clear hpp hqq hcc hpm hqm
    cases hb:nrB (ls.getD u default)with
    |false=>
     rw[hb]at c1;generalize ls.getD u default=a at *;clear hnu;refine zV c1 ?_;exact⟨zB,rfl⟩
    | true=>
     rw[hb]at c1;generalize ls.getD u default=a at *;refine zV c1 ?_;refine zO (ls.length) [] [] [0,1,6,10,11,12,20,21] [5,22,0,1,6,10,11,12,20,21] Z (λi T U=>⟨(5,bA false)::(22,iA i)::T,U⟩) ?_;(conv=>whnf);refine⟨by rfl,?_,?_⟩
     ·intro v hv;have hyv:=zM iA ls v hv;have c2:=bV (ls.getD v default);have c3:=jJ cf hcf u v;have h:=hnu v hv;rw[hb,yAv]at h;generalize ls.getD v default=b at *;clear hnu c1
      cases hb2:nrB b with
      |false=>
       rw[hb2]at c2;refine zV c2 ?_;rfl
      |true=>
       rw[hb2,yAv]at h;rw[hb2]at c2;rw[h]at c3;refine yR (vH c2 c3) ?_;rfl
     ·(refine WW ?_)
      exact⟨zB,rfl⟩
  ·rintro st ⟨hup,rfl⟩;exfalso;omega
def AZ (j:Jn) (c c':Ct):Prop:=∀q:Nat,q<j.ph.length->xJ c' q=xJ c q∨((xJ c q).lamp=0/\xJ c' q=⟨1,0⟩)
theorem AZ.refl (j:Jn) (c:Ct):AZ j c c:=λq _=> .inl Z
theorem AZ.trans {j:Jn} {a b c:Ct} (h:AZ j a b) (g:AZ j b c):AZ j a c:=λq hq=>by
 rcases h q hq with h|⟨h1,h2⟩<;>rcases g q hq with g|⟨g1,g2⟩
 ·exact .inl (g.trans h)
 ·exact .inr ⟨by rw[<-h];exact g1,g2⟩
 ·exact .inr ⟨h1,g.trans h2⟩
 ·rw[h2]at g1;exact absurd g1 xG
def JG {j:Jn} {c:Ct} (hc:c.li.length=j.ph.length) {p:Nat} (hp:p<j.ph.length) (q:Nat):xJ (kR j c p) q=xJ c q∨(q=p/\xJ (kR j c p) q=⟨1,0⟩):=by
 rcases gT j c p with h|⟨hk,_⟩
 ·rw[h.2];exact .inl Z
 ·have hli:xJ (kR j c p) q=if q=p then⟨1,0⟩else xJ c q:=by
   unfold kR;rw[zZ7 zDm]
   have:(NN j c p).li=c.li.set p ⟨1,0⟩:=by unfold NN;split<;>rfl
   unfold xJ;dsimp only;rw[this];exact JO c p q _ 0 [] 0 zB
  rw[hli];by_cases e:q=p
  ·rw[zZ8 e];exact .inr ⟨e,rfl⟩
  ·rw[zZ7 e];exact .inl Z
def zI5 {j:Jn} {c:Ct} {r:Int} {p:Nat} (h:GG j c r=true) (hp:p<j.ph.length) (hr:(yM j p).ring=r):(xJ c p).lamp=0:=by
 unfold GG at h;rw[yAm]at h;simpa using h p (eQ.2 ⟨hp,hr⟩)
def zI6 {j:Jn} {c:Ct} (hc:c.li.length=j.ph.length) {p:Nat} (hp:p<j.ph.length) (h0:(xJ c p).lamp=0):AZ j c (kR j c p):=λq hq=>by
 rcases JG hc hp q with h|⟨rfl,h⟩
 ·exact .inl h
 ·exact .inr ⟨h0,h⟩
def zSf {j:Jn} {c:Ct} (C:CV j c) {t:Nat} (ht:t<j.ph.length) (r:Int):AZ j c (jB j t c r):=by
 unfold jB;split
 ·rename_i hd;split
  ·exact AZ.refl j c
  ·rename_i h
   rcases EF (j:=j) (c:=c) (r:=r) ht with h1|⟨p,h1,h2,h3⟩
   ·exact absurd h1 h
   ·rw[h1,yAx];exact zI6 C.n h2 (zI5 hd h2 h3)
 ·exact AZ.refl j c
def zI7 {j:Jn} {c:Ct} (C:CV j c) {r:Nat} (hr:r<2):AZ j c (eO j c r):=by
 unfold eO;split
 ·rename_i h;rw[yAx]at h⊢
  rcases C.v r hr with h1|h1
  ·exact absurd h1 h.2
  ·obtain⟨a,b,d,_⟩:=h1;exact zI6 C.n zB (zI5 h.1 zB d)
 ·exact AZ.refl j c
def zXv {j:Jn} (J:JV j) {c:Ct} (C:CV j c) (t:Int) (p:Nat) (hp:p<j.ph.length):(xJ (bG j c t) p=xJ c p/\(xJ c p).lamp=0)∨xJ (bG j c t) p=GF (yM j p) (xJ c p) (GH j c t p)∨((GF (yM j p) (xJ c p) (GH j c t p)).lamp=0/\xJ (bG j c t) p=⟨1,0⟩):=by
 unfold bG;split
 ·rename_i hw
  rcases C.z with h|h
  ·omega
  ·exact .inl ⟨rfl,h p hp⟩
 ·have h0:c.wt=0:=by have:=C.w;omega
  have L:=zCu J C h0 t
  have fin:∀c',AZ j ⟨bY j c t,c.gr,c.nx,c.wt⟩ c'->(xJ c' p=GF (yM j p) (xJ c p) (GH j c t p)∨((GF (yM j p) (xJ c p) (GH j c t p)).lamp=0/\xJ c' p=⟨1,0⟩)):=λc' h=>by
   have:=h p hp;rw[EG _ _ _ _ _ hp]at this;exact this
  split
  ·rename_i h;unfold UN at h;rw[yAc]at h;have h1:=MX J L h0 (t:=t.toNat) zB 0;exact .inr (fin _ ((zSf L zB 0).trans (zSf h1.1 zB 1)))
  ·unfold cyF
   have h1:CV j (if cyO ⟨bY j c t,c.gr,c.nx,c.wt⟩=true then BT j ⟨bY j c t,c.gr,c.nx,c.wt⟩ ((c.gr+1) % ZQ j)else⟨bY j c t,c.gr,c.nx,c.wt⟩)/\(if cyO ⟨bY j c t,c.gr,c.nx,c.wt⟩=true then BT j ⟨bY j c t,c.gr,c.nx,c.wt⟩ ((c.gr+1) % ZQ j)else⟨bY j c t,c.gr,c.nx,c.wt⟩).wt=0/\AZ j ⟨bY j c t,c.gr,c.nx,c.wt⟩ (if cyO ⟨bY j c t,c.gr,c.nx,c.wt⟩=true then BT j ⟨bY j c t,c.gr,c.nx,c.wt⟩ ((c.gr+1) % ZQ j)else⟨bY j c t,c.gr,c.nx,c.wt⟩):=by
    split
    ·have hp:=RJ J;exact⟨zCt L ⟨yEl _ zB,yD2 _ zB⟩,h0,λq _=> .inl Z⟩
    ·exact⟨L,h0,AZ.refl _ _⟩
   have h2:=QX J h1.1 h1.2.1 (r:=0) zB;exact .inr (fin _ ((h1.2.2.trans (zI7 h1.1 (r:=0) zB)).trans (zI7 h2.1 (r:=1) zB)))
structure Sg where
 c:Ct
 lat:Bool
def wX (s:Sg):AV:= .agg [zD vE s.c.li,iA s.c.gr,zD iA s.c.nx,iA s.c.wt,bA s.lat]
def jI (j:Jn):Sg:=⟨inF j,false⟩
def BR (j:Jn) (s:Sg) (t k:Int):Sg:=if s.lat=true then s else⟨bG j s.c t,fbF j.cf (TM (bG j s.c t).li k)⟩
def srF (j:Jn) (s:Sg):Sg:=if s.lat=true then jI j else s
def EB {α:Type} (f:α->AV) (l:List α):AV.sl false ((l.map f).take (l.map f).length)=zD f l:=by rw[yAf];rfl
def MU (l:List Int) (hl:l.length<=1073741824):zN 91 [zD iA l] [] (zD iA l) []:=by
 have hll:=zA iA l;refine eM call91 λF hF=>?_
 refine yS 0 Z (λcap hx=>?_) ?_
 ·have:l=[]:=by simpa using hx
  subst this;refine WW ?_;exact zJ
 ·(refine WW ?_)
  refine zK [] Z Z (EB _ _) Z
def MV (l:List Li) (hl:l.length<=1073741824):zN 187 [zD vE l] [] (zD vE l) []:=by
 have hll:=zA vE l;refine eM call187 λF hF=>?_
 refine yS 0 Z (λcap hx=>?_) ?_
 ·have:l=[]:=by simpa using hx
  subst this;refine WW ?_;exact zJ
 ·(refine WW ?_)
  refine zK [] Z Z (EB _ _) Z
def EC (s:Sg) (h1:s.c.li.length<=1073741824) (h2:s.c.nx.length<=1073741824):zN 189 [wX s] [] (wX s) []:=by
 have c1:=MV s.c.li h1;have c2:=MU s.c.nx h2;refine eM call189 λF hF=>?_
 refine yR (vH c1 c2) ?_;exact zJ
def zI8 (j:Jn) (J:JV j):zN 112 [wJ j] [] (wX (jI j)) []:=by
 have c1:=zUg j LM;unfold jI;generalize inF j=c at *;refine eM call112 λF hF=>?_
 refine zV c1 ?_;exact zJ
def zOs (j:Jn) (J:JV j) (s:Sg) (C:CV j s.c) (t k:Int):zN 214 [wJ j,wX s,iA t,iA k] [] (wX (BR j s t k)) []:=by
 have hJ:=J.n;have hc:=J.c;have hn:=C.n;have hm:=C.m;have c0:=EC s zB zB;have c1:=zUe j J s.c C t;have C1:=zCv J C t;have c2:=zUi (bG j s.c t).li (by have:=C1.n;omega) k;have c3:=zUk j.cf (TM (bG j s.c t).li k) zB (by rw[zI3];have:=C1.n;omega);unfold BR;generalize fbF j.cf (TM (bG j s.c t).li k)=f at *;generalize TM (bG j s.c t).li k=ls at *;generalize bG j s.c t=c at *;obtain⟨sc,lat⟩:=s
 cases lat with
 |true=>
  rw[zZ8 Z];refine eM call214 λF hF=>?_
  refine zV c0 ?_;exact zJ
 |false=>
  rw[zZ7 yAs];refine eM call214 λF hF=>?_
  refine yR (gK c1 c2 c3) ?_;exact zJ
def zI9 (j:Jn) (J:JV j) (s:Sg) (h1:s.c.li.length<=1073741824) (h2:s.c.nx.length<=1073741824):zN 154 [wJ j,wX s] [] (.tup [wX (srF j s),bA s.lat]) []:=by
 have c0:=EC s h1 h2;have c1:=zI8 j J;unfold srF;generalize jI j=z at *;obtain⟨sc,lat⟩:=s
 cases lat with
 |true=>
  rw[zZ8 Z];refine eM call154 λF hF=>?_
  refine zV c1 ?_;exact zJ
 |false=>
  rw[zZ7 yAs];refine eM call154 λF hF=>?_
  refine zV c0 ?_;exact zJ
def ph0:Ph:=⟨0,0,2,3,1,1,0,0⟩
def j0:Jn:=⟨[ph0,ph0],[2,1],0⟩
def two {p:Nat} (h:p<j0.ph.length):p=0∨p=1:=by
 have:j0.ph.length=2:=rfl;omega
def zXw {j:Jn} (J:JV j) {s:Sg} (C:CV j s.c) (t k:Int):CV j (BR j s t k).c:=by
 unfold BR;split
 ·exact C
 ·exact zCv J C t
def zZl {j:Jn} (J:JV j) {s:Sg} (C:CV j s.c):CV j (srF j s).c:=by
 unfold srF;split
 ·exact zI0 J
 ·exact C
def ph1:Ph:=⟨0,0,2,3,1,0,0,0⟩
def j1:Jn:=⟨[ph1,ph1],[2,1],0⟩
def WG {p q:Prop} (k:q) (h:bI q->p:=by(intro hq;(repeat' (first|refine cX ?_|refine xM (λhc=>?_) λhc=>?_|fail));exact hq.h)):p:=h ⟨k⟩
def WO {p q:Prop} (k:q) (h:bI q->p:=by(intro hq;(repeat' (first|refine cX ?_|refine xM (λhc=>?_) λhc=>?_|fail));exact hq.h)):p:=h ⟨k⟩
def e1 (d:Dk) (now:Int):Int:=[-1,0,max (-1) (now-nx d 6)].getD (nx (ad d) 3).toNat 0
def d0 (xs:List Int) (hl:xs.length<=9223372036854775807):Dk:=⟨xs,0,yAp _,hl⟩
def kC (es:List Int) (ph:Int):Int:=if ph<0∨(es.length:Int)<=ph then -1 else es.getD ph.toNat 0
def jW (k:Int):Bool:=k==2||k==3
def jX (es:List Int) (ph si:Int):Int:=max si (kC es ph)
def RG (s:Sv) (c:Cl):zN 278 [wU s,gW c] [] (iA (kC s.en c.ph)) []:=by
 have hl:(s.en.map iA).length=s.en.length:=by simp
 by_cases h1:c.ph<0
 ·rw[show kC s.en c.ph= -1 by simp[kC,h1]];refine eM call278 λF hF=>?_
  refine WO ?_;exact zJ
 ·by_cases h2:(s.en.length:Int)<=c.ph
  ·rw[show kC s.en c.ph= -1 by simp[kC,h2]];refine eM call278 λF hF=>?_
   refine WO ?_;exact zJ
  ·rw[show kC s.en c.ph=s.en.getD c.ph.toNat 0 by unfold kC;rw[zZ7 zB]];have hy:=yI iA s.en c.ph zB zB;refine eM call278 λF hF=>?_
   refine WO ?_;exact zJ
def qQ (c:Cl):zN 87 [gW c] [] (bA (jW c.k)) []:=by
 unfold jW;by_cases h:c.k=2
 ·rw[show(c.k==2||c.k==3)=true by simp[h]];refine eM call87 λF hF=>?_
  refine WO ?_;exact zJ
 ·rw[show(c.k==2||c.k==3)=(c.k==3) by simp[h]];refine eM call87 λF hF=>?_
  refine WO ?_;exact zJ
def WA (s:Sv) (c:Cl):zN 280 [wU s,gW c] [] (iA (jX s.en c.ph c.si)) []:=by
 refine eM call280 λF hF=>?_
 (repeat' (first|refine cX ?_|refine xM (λhc=>?_) λhc=>?_|(refine zE ?_;refine xT ?_;refine wG (zH (RG ⟨_,_,_⟩ ⟨_,_,_,_,_⟩) Z Z Z Z Z) Z ?_)|fail))
 exact zJ
def zAa (n d:Int) (hd:1<=d) (hm:n.tmod d=0):n.tdiv d=n/d:=by
 have h1:=Int.tmod_add_mul_tdiv n d;rw[hm]at h1;have h2:n=d*n.tdiv d:=by omega
 exact(Int.ediv_eq_of_eq_mul_right zB h2).symm
def JH (n d:Int) (hn:n<0) (hd:1<=d) (hm:n.tmod d≠0):n.tdiv d-1=n/d:=by
 have h1:=Int.tmod_add_mul_tdiv n d;have h0:n.tmod d= -((-n).tmod d):=by rw[Int.neg_tmod];omega
 have h3: -d<n.tmod d:=by
  have:=Int.tmod_lt_of_pos (-n) (show 0<d by omega);omega
 have h4:n.tmod d<=0:=by
  have:=Int.tmod_nonneg d (show 0<= -n by omega);omega
 clear h0;have h5:n=d*(n.tdiv d-1)+(n.tmod d+d):=by rw[Int.mul_sub];omega
 generalize n.tdiv d=q at *;generalize n.tmod d=r at*
 have h6:n/d=q-1:=by
  rw[h5,Int.mul_add_ediv_left _ _ zB,Int.ediv_eq_zero_of_lt zB zB];omega
 omega
def zOt (n d:Int) (hd:1<=d) (h1: -4611686018427387904<=n) (h2:n<=4611686018427387904): -4611686018427387904<=n.tdiv d/\n.tdiv d<=4611686018427387904:=by
 by_cases h:0<=n
 ·have:=IntWalk.tdiv_le n d h hd;rw[yB3 h];omega
 ·have h3:n.tdiv d= -((-n).tdiv d):=by rw[Int.neg_tdiv];omega
  have:=IntWalk.tdiv_le (-n) d zB hd;rw[h3,yB3 zB];omega
def YF (n d:Int) (hd:1<=d) (h1: -4611686018427387904<=n) (h2:n<=4611686018427387904):zN 303 [iA n,iA d] [] (iA (n/d)) []:=by
 have hb:=zOt n d hd h1 h2;have hq:XN .i64 (n.tdiv d):=⟨zB,zB⟩;by_cases hm:n.tmod d=0
 ·rw[<-zAa n d hd hm];refine eM call303 λF hF=>?_
  refine WO ?_;exact zJ
 ·by_cases h0:n<0
  ·rw[<-JH n d h0 hd hm];refine eM call303 λF hF=>?_
   refine WO ?_;exact zJ
  ·rw[<-yB3 (show 0<=n by omega)];refine eM call303 λF hF=>?_
   refine WO ?_;exact zJ
def ED (per cap:Int) (es:List Int) (now ph k si:Int):Int:=min cap (k+(now-jX es ph si)/per)
structure COk (per now:Int) (es:List Int) (c:Cl):Prop where
 p:1<=per
 k0: -1000<=c.k
 k1:c.k<=1000
 n0: -1099511627776<=now
 n1:now<=1099511627776
 s0: -1099511627776<=jX es c.ph c.si
 s1:jX es c.ph c.si<=1099511627776
 e0: -1099511627776<=kC es c.ph
 e1:kC es c.ph<=1099511627776
def zUl (n d:Int) (hd:1<=d) (h1: -4611686018427387904<=n) (h2:n<=4611686018427387904): -4611686018427387904<=n/d/\n/d<=4611686018427387904:=by
 constructor
 ·refine(Int.le_ediv_iff_mul_le zB).2 ?_;have:(4611686018427387904:Int)*1<=4611686018427387904*d:=Int.mul_le_mul_of_nonneg_left hd zB;omega
 ·have:n/d<=4611686018427387904/1:=by
   rw[Int.ediv_one];refine Int.le_of_lt_add_one ((Int.ediv_lt_iff_lt_mul zB).2 ?_);have:(4611686018427387904+1:Int)*1<=(4611686018427387904+1)*d:=Int.mul_le_mul_of_nonneg_left hd zB;omega
  omega
def zCp (g:Cf) (s:Sv) (c:Cl) (now:Int) (ok:COk g.per now s.en c):zN 279 [vG g,wU s,gW c,iA now] [] (iA (ED g.per g.cap s.en now c.ph c.k c.si)) []:=by
 obtain⟨p,k0,k1,n0,n1,s0,s1,_,_⟩:=ok;have hq:=zUl (now-jX s.en c.ph c.si) g.per p zB zB;refine eM call279 λF hF=>?_
 (repeat' (first|refine cX ?_|refine xM (λhc=>?_) λhc=>?_|(refine zE ?_;refine xT ?_;(first|(refine vS 280 ?_;first|refine wG (zH (WA s c) Z Z Z Z Z) Z ?_|refine uS (zH (WA s c) Z Z Z Z Z) Z Z Z ?_|refine ZU (zH (WA s c) Z Z Z Z Z) Z Z Z ?_)|(refine vS 303 ?_;first|refine wG (zH (YF _ _ zB zB zB) Z Z Z Z Z) Z ?_|refine uS (zH (YF _ _ zB zB zB) Z Z Z Z Z) Z Z Z ?_|refine ZU (zH (YF _ _ zB zB zB) Z Z Z Z Z) Z Z Z ?_)))|fail))
 exact zJ
def JJ (lock:Int) (es:List Int) (now ph k:Int):Bool:=!jW k&&(kC es ph != -1&&decide (now-kC es ph<=lock))
def zJa (g:Cf) (s:Sv) (c:Cl) (now:Int) (ok:COk g.per now s.en c):zN 253 [vG g,wU s,gW c,iA now] [] (bA (JJ g.lock s.en now c.ph c.k)) []:=by
 obtain⟨p,k0,k1,n0,n1,s0,s1,e0,e1⟩:=ok;unfold JJ;refine eM call253 λF hF=>?_
 (repeat' (first|refine cX ?_|refine xM (λhc=>?_) λhc=>?_|(refine zE ?_;refine xT ?_;(first|(refine vS 278 ?_;first|refine wG (zH (RG _ _) Z Z Z Z Z) Z ?_|refine uS (zH (RG _ _) Z Z Z Z Z) Z Z Z ?_|refine ZU (zH (RG _ _) Z Z Z Z Z) Z Z Z ?_)|(refine vS 87 ?_;first|refine wG (zH (qQ _) Z Z Z Z Z) Z ?_|refine uS (zH (qQ _) Z Z Z Z Z) Z Z Z ?_|refine ZU (zH (qQ _) Z Z Z Z Z) Z Z Z ?_)))|fail))
 all_goals refine zK [] Z Z (yA6 bA ?_) Z
 all_goals simp_all [qN]
def bW (per cap:Int) (es:List Int) (now:Int) (x:Cl):Int:=if jW x.k then x.k else ED per cap es now x.ph x.k x.si
def kL (per cap:Int) (es:List Int) (now:Int) (x y:Cl):Bool:=
 if jW x.k≠jW y.k then jW x.k
 else if bW per cap es now x≠bW per cap es now y then decide (bW per cap es now y<bW per cap es now x)
 else if jX es x.ph x.si≠jX es y.ph y.si then decide (jX es x.ph x.si<jX es y.ph y.si)
 else if x.ag≠y.ag then decide (x.ag<y.ag)else decide (x.id<y.id)
theorem zUm (g:Cf) (s:Sv) (x y:Cl) (now:Int) (okx:COk g.per now s.en x) (oky:COk g.per now s.en y):zN 254 [vG g,wU s,iA now,gW x,gW y] [] (bA (kL g.per g.cap s.en now x y)) []:=by
 have ex:=qQ x;have ey:=qQ y;have lx:=zCp g s x now okx;have ly:=zCp g s y now oky;have sx:=WA s x;have sy:=WA s y
 cases hx:jW x.k<;>cases hy:jW y.k<;>rw[hx]at ex<;>rw[hy]at ey
 ·by_cases h1:ED g.per g.cap s.en now x.ph x.k x.si=ED g.per g.cap s.en now y.ph y.k y.si
  ·by_cases h2:jX s.en x.ph x.si=jX s.en y.ph y.si
   ·by_cases h3:x.ag=y.ag
    ·(refine eM call254 λF hF=>?_)
     (have zc1:=ex;have zc2:=ey;have zc3:=lx;have zc4:=ly;have zc5:=sx;have zc6:=sy;refine WG ?_;clear zc1 zc2 zc3 zc4 zc5 zc6)
     refine zK [] Z Z (yA6 bA ?_) Z;simp[kL,bW,hx,hy,h1,h2,h3,qN]
    ·(refine eM call254 λF hF=>?_)
     (have zc1:=ex;have zc2:=ey;have zc3:=lx;have zc4:=ly;have zc5:=sx;have zc6:=sy;refine WG ?_;clear zc1 zc2 zc3 zc4 zc5 zc6)
     refine zK [] Z Z (yA6 bA ?_) Z;simp[kL,bW,hx,hy,h1,h2,h3,qN]
   ·(refine eM call254 λF hF=>?_)
    (have zc1:=ex;have zc2:=ey;have zc3:=lx;have zc4:=ly;have zc5:=sx;have zc6:=sy;refine WG ?_;clear zc1 zc2 zc3 zc4 zc5 zc6)
    refine zK [] Z Z (yA6 bA ?_) Z;simp[kL,bW,hx,hy,h1,h2,qN]
  ·(refine eM call254 λF hF=>?_)
   (have zc1:=ex;have zc2:=ey;have zc3:=lx;have zc4:=ly;have zc5:=sx;have zc6:=sy;refine WG ?_;clear zc1 zc2 zc3 zc4 zc5 zc6)
   refine zK [] Z Z (yA6 bA ?_) Z;simp[kL,bW,hx,hy,h1,qN]
 ·(refine eM call254 λF hF=>?_)
  (have zc1:=ex;have zc2:=ey;have zc3:=lx;have zc4:=ly;have zc5:=sx;have zc6:=sy;refine WG ?_;clear zc1 zc2 zc3 zc4 zc5 zc6)
  refine zK [] Z Z (yA6 bA ?_) Z;simp[kL,hx,hy]
 ·(refine eM call254 λF hF=>?_)
  (have zc1:=ex;have zc2:=ey;have zc3:=lx;have zc4:=ly;have zc5:=sx;have zc6:=sy;refine WG ?_;clear zc1 zc2 zc3 zc4 zc5 zc6)
  refine zK [] Z Z (yA6 bA ?_) Z;simp[kL,hx,hy]
 ·by_cases h1:x.k=y.k
  ·by_cases h2:jX s.en x.ph x.si=jX s.en y.ph y.si
   ·by_cases h3:x.ag=y.ag
    ·(refine eM call254 λF hF=>?_)
     (have zc1:=ex;have zc2:=ey;have zc3:=lx;have zc4:=ly;have zc5:=sx;have zc6:=sy;refine WG ?_;clear zc1 zc2 zc3 zc4 zc5 zc6)
     refine zK [] Z Z (yA6 bA ?_) Z;simp[kL,bW,hx,hy,h1,h2,h3,qN]
    ·(refine eM call254 λF hF=>?_)
     (have zc1:=ex;have zc2:=ey;have zc3:=lx;have zc4:=ly;have zc5:=sx;have zc6:=sy;refine WG ?_;clear zc1 zc2 zc3 zc4 zc5 zc6)
     refine zK [] Z Z (yA6 bA ?_) Z;simp[kL,bW,hx,hy,h1,h2,h3,qN]
   ·(refine eM call254 λF hF=>?_)
    (have zc1:=ex;have zc2:=ey;have zc3:=lx;have zc4:=ly;have zc5:=sx;have zc6:=sy;refine WG ?_;clear zc1 zc2 zc3 zc4 zc5 zc6)
    refine zK [] Z Z (yA6 bA ?_) Z;simp[kL,bW,hx,hy,h1,h2,qN]
  ·(refine eM call254 λF hF=>?_)
   (have zc1:=ex;have zc2:=ey;have zc3:=lx;have zc4:=ly;have zc5:=sx;have zc6:=sy;refine WG ?_;clear zc1 zc2 zc3 zc4 zc5 zc6)
   refine zK [] Z Z (yA6 bA ?_) Z;simp[kL,bW,hx,hy,h1,qN]
def uD (g:Cf) (s:Sv) (now:Int) (xs:List Cl):Nat->Int
 |0=> -1
 |i+1=>if JJ g.lock s.en now (xs.getD i default).ph (xs.getD i default).k then uD g s now xs i
  else if uD g s now xs i<0 then i
  else if kL g.per g.cap s.en now (xs.getD i default) (xs.getD (uD g s now xs i).toNat default)then i else uD g s now xs i
theorem dN (g:Cf) (s:Sv) (now:Int) (xs:List Cl):∀i,-1<=uD g s now xs i/\uD g s now xs i<i∨uD g s now xs i= -1
 |0=> .inr Z
 | i+1=>by
  have:=dN g s now xs i;unfold uD;split
  ·omega
  ·split
   ·omega
   ·split<;>omega
def QT (g:Cf) (s:Sv) (now:Int) (xs:List Cl) (i:Nat):uD g s now xs (i+1)=if JJ g.lock s.en now (xs.getD i default).ph (xs.getD i default).k=true then uD g s now xs i
 else if uD g s now xs i<0 then(i:Int)
 else if kL g.per g.cap s.en now (xs.getD i default) (xs.getD (uD g s now xs i).toNat default)=true then(i:Int)else uD g s now xs i:=rfl
def zUn (g:Cf) (s:Sv) (now:Int) (xs:List Cl) (hlen:xs.length<=1099511627776) (ok:∀i,i<xs.length->COk g.per now s.en (xs.getD i default)):zN 229 [vG g,wU s,iA now,zD gW xs] [] (iA (uD g s now xs xs.length)) []:=by
 have hl:(xs.map gW).length=xs.length:=by simp
 refine eM call229 λF hF=>?_
 refine WO ?_
 refine wT (λn st=>∃i:Nat,n+i=xs.length/\st=⟨[(2,iA now),(3,zD gW xs),(4,.ptr 4 0 0),(5,.ptr 5 0 0),(9,iA (uD g s now xs i)),(12,zD gW xs),(13,iA xs.length),(14,iA i)],[(4,.box [zD wJ g.js,zD wK g.ags,iA g.per,iA g.cap,iA g.hold,iA g.lock]),(5,.box [iA s.ph,iA s.gr,zD iA s.en])]⟩)
  xs.length [4,5] [2,3,4,5,9,12,13,14] Z ⟨0,rfl,by rw[<-hl];rfl⟩ ?_
 rintro n st ⟨i,hi,rfl⟩;by_cases hlt:i<xs.length
 ·have hy:=yI gW xs i zB zB;have ok1:=ok i hlt;have hb:=dN g s now xs i;have hn:=QT g s now xs i;have lk:=zJa g s (xs.getD i default) now ok1;rw[show((i:Int)).toNat=i from Z]at hy
  cases hL:JJ g.lock s.en now (xs.getD i default).ph (xs.getD i default).k<;>rw[hL]at lk hn
  ·rw[zZ7 zU]at hn;by_cases h0:uD g s now xs i<0
   ·rw[zZ8 h0]at hn
    (have zc1:=lk;refine WG ?_;clear zc1)
    exact⟨n-1,zB,i+1,zB,by rw[hn];rfl⟩
   ·rw[zZ7 h0]at hn;have hy2:=yI gW xs (uD g s now xs i) zB zB;have ls:=zUm g s (xs.getD i default) (xs.getD (uD g s now xs i).toNat default) now ok1 (ok _ zB)
    cases hS:kL g.per g.cap s.en now (xs.getD i default) (xs.getD (uD g s now xs i).toNat default)<;>rw[hS]at ls hn
    ·rw[zZ7 zU]at hn
     (have zc1:=lk;have zc2:=ls;refine WG ?_;clear zc1 zc2)
     exact⟨n-1,zB,i+1,zB,by rw[hn];rfl⟩
    ·rw[zZ8 Z]at hn
     (have zc1:=lk;have zc2:=ls;refine WG ?_;clear zc1 zc2)
     exact⟨n-1,zB,i+1,zB,by rw[hn];rfl⟩
  ·rw[zZ8 Z]at hn
   (have zc1:=lk;refine WG ?_;clear zc1)
   exact⟨n-1,zB,i+1,zB,by rw[hn];rfl⟩
 ·obtain rfl:i=xs.length:=by omega
  refine WO ?_;exact zJ
theorem fM {α:Type} (P:α->Prop) (d:α):∀(l:List α) (i:Nat),(∀x∈l,P x)->i<l.length->P (l.getD i d)
 |l,i,h,hi=>by simp only[yAg,yAn hi,yCd];exact h _ (yCv hi)
def zOu (es:List Int) (now ph:Int) (h:0<=now) (he:∀e∈es,-1<=e/\e<=now): -1<=kC es ph/\kC es ph<=now:=by
 unfold kC;split
 ·omega
 ·exact fM (λe=> -1<=e/\e<=now) 0 es ph.toNat he zB
structure ClB (ph now:Int) (c:Cl):Prop where
 k0:0<=c.k
 k1:c.k<=3
 s0:0<=c.si
 s1:c.si<=now
 a0:0<=c.ag
 a1:c.ag<=2
 i0:0<=c.id
 i1:c.id<=3
 p0:0<=c.ph
 p1:c.ph<ph
end Av
end Go.Proofs.YteajjdidebfcjaaGreat
